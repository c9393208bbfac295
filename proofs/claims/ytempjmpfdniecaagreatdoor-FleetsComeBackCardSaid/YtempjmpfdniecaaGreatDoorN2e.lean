/- Several texts as one: Ftd Rl He Rh Hf Rm Fst Rx Xa Twt Fte Bk Fbk Ev -/
import Derived.Test.YtempjmpfdniecaaGreatDoorN2b
import Derived.Test.YtempjmpfdniecaaGreatDoorN2c
import Derived.Test.YtempjmpfdniecaaGreatDoorN2d
import Derived.Test.YtempjmpfdniecaaGreatDoorN2a
import Derived.Deep.RegionHeld3
import Derived.Laws.ResultCell
import Derived.ChangeKeysEq
import Derived.Lay
import Derived.LaidSub
import Derived.MakeChecks
import Derived.Stop.LaidErr
import Derived.Lib.LaidU8
import Derived.Shelf.Vars
import Derived.Lib.SplitLaws
import Derived.Lib.IndexBytes
import Derived.Lib.AtoiAllCases
set_option maxRecDepth 100000
set_option maxHeartbeats 4000000
namespace Go.Proofs.YtempjmpfdniecaaGreatDoor
open Go.RowKit
theorem ptk_nil : ∀ y ∈ ([] : List Pt), PtOk y := fun _ h => by cases h
theorem ptk_cons {a : Pt} {l : List Pt} (h : PtOk a) (t : ∀ y ∈ l, PtOk y) : ∀ y ∈ a :: l, PtOk y := fun y hy => by
 rcases List.mem_cons.1 hy with rfl | hy
 ·exact h
 ·exact t y hy
theorem ftL14 {l : List Int} (h : l.length = 14) : ∃ h0 h1 h2 h3 h4 h5 h6 h7 h8 h9 h10 h11 h12 h13, l = [h0, h1, h2, h3, h4, h5, h6, h7, h8, h9, h10, h11, h12, h13] := by
 match l, h with
 | [h0, h1, h2, h3, h4, h5, h6, h7, h8, h9, h10, h11, h12, h13], _ => exact ⟨h0, h1, h2, h3, h4, h5, h6, h7, h8, h9, h10, h11, h12, h13, rfl⟩
theorem win_at {j : Nat} (h0 h1 h2 h3 h4 h5 h6 h7 h8 h9 h10 h11 h12 h13 : Int) (hj : j < 7) : ∃ a b, (([.int .i64 h0, .int .i64 h1, .int .i64 h2, .int .i64 h3, .int .i64 h4, .int .i64 h5, .int .i64 h6, .int .i64 h7, .int .i64 h8, .int .i64 h9, .int .i64 h10, .int .i64 h11, .int .i64 h12, .int .i64 h13] : List Value).drop (j * 2)).take 2 = [.int .i64 a, .int .i64 b] /\ winsL ([h0, h1, h2, h3, h4, h5, h6, h7, h8, h9, h10, h11, h12, h13].take (2 * (j + 1))) = winsL ([h0, h1, h2, h3, h4, h5, h6, h7, h8, h9, h10, h11, h12, h13].take (2 * j)) ++ (winT a b).data.toList /\ a ∈ ([h0, h1, h2, h3, h4, h5, h6, h7, h8, h9, h10, h11, h12, h13] : List Int) /\ b ∈ ([h0, h1, h2, h3, h4, h5, h6, h7, h8, h9, h10, h11, h12, h13] : List Int) := by
 match j, hj with
 | 0, _ => exact ⟨h0, h1, rfl, by simp [winsL], by simp, by simp⟩
 | 1, _ => exact ⟨h2, h3, rfl, by simp [winsL], by simp, by simp⟩
 | 2, _ => exact ⟨h4, h5, rfl, by simp [winsL], by simp, by simp⟩
 | 3, _ => exact ⟨h6, h7, rfl, by simp [winsL], by simp, by simp⟩
 | 4, _ => exact ⟨h8, h9, rfl, by simp [winsL], by simp, by simp⟩
 | 5, _ => exact ⟨h10, h11, rfl, by simp [winsL], by simp, by simp⟩
 | 6, _ => exact ⟨h12, h13, rfl, by simp [winsL], by simp, by simp⟩
theorem stw_0 (x : List UInt8) (k : ByteArray) (l : List Int) : mkB x ++ stHd k = mkB ((x ++ (stHd k).data.toList) ++ winsL (l.take (2 * 0))) := by
 rw [mkB_app]; simp [winsL]
theorem stw_7 (x : List UInt8) (k : ByteArray) (h0 h1 h2 h3 h4 h5 h6 h7 h8 h9 h10 h11 h12 h13 : Int) : mkB ((x ++ (stHd k).data.toList) ++ winsL ([h0, h1, h2, h3, h4, h5, h6, h7, h8, h9, h10, h11, h12, h13].take (2 * 7))) ++ (⟨#[10]⟩ : ByteArray) = mkB (x ++ stLnL ⟨k, [h0, h1, h2, h3, h4, h5, h6, h7, h8, h9, h10, h11, h12, h13]⟩) := by
 rw [mkB_app]; unfold stLnL
 simp
theorem stw_c0 (x : List UInt8) (k : ByteArray) (l : List Int) : Lib.byteCells x ++ Lib.strCells (stHd k) = Lib.byteCells ((x ++ (stHd k).data.toList) ++ winsL (l.take (2 * 0))) := by
 rw [cells_app]; simp [winsL]
theorem stw_c7 (x : List UInt8) (k : ByteArray) (h0 h1 h2 h3 h4 h5 h6 h7 h8 h9 h10 h11 h12 h13 : Int) : Lib.byteCells ((x ++ (stHd k).data.toList) ++ winsL ([h0, h1, h2, h3, h4, h5, h6, h7, h8, h9, h10, h11, h12, h13].take (2 * 7))) ++ Lib.strCells (⟨#[10]⟩ : ByteArray) = Lib.byteCells (x ++ stLnL ⟨k, [h0, h1, h2, h3, h4, h5, h6, h7, h8, h9, h10, h11, h12, h13]⟩) := by
 rw [cells_app]; unfold stLnL
 simp
theorem stw_len {k : ByteArray} {l : List Int} (j : Nat) (hk : k.size <= 100) (hl : l.length = 14) (hb : ∀ h ∈ l, -9223372036854775808 <= h /\ h <= 9223372036854775807) : (stHd k).data.toList.length <= 108 /\ (winsL (l.take (2 * j))).length <= 616 := by
 have h2 : (⟨#[115, 116, 97, 116, 105, 111, 110, 32]⟩ : ByteArray).size = 8 := rfl
 refine ⟨by rw [dl_size]; unfold stHd; rw [ByteArray.size_append]; omega, ?_⟩
 have h1 := wins_len (l := l.take (2 * j)) fun x hx => hb x (List.mem_of_mem_take hx)
 have h3 : (l.take (2 * j)).length <= 14 := by rw [List.length_take]; omega
 omega
theorem stw_sz {x : List UInt8} {k : ByteArray} {l : List Int} (j : Nat) (h : (stHd k).data.toList.length <= 108 /\ (winsL (l.take (2 * j))).length <= 616) : (mkB ((x ++ (stHd k).data.toList) ++ winsL (l.take (2 * j)))).size <= x.length + 724 := by
 rw [mkB_sz, List.length_append, List.length_append]; omega
theorem wdash_any (s : ByteArray) (w : World) :
  Calls Tryz.prog 107 #[.string s] w (fun e w' => e = .returned (.string (dsh s)) /\ w.grownBy w' none) := by
 refine gw_enter ⟨6, w, none, []⟩ Tryz.func107 rfl Tryz.ntmps107 rfl (mem0 (X := []) allF_nil allL_nil) ?_
 refine sr_ (sg_ rfl (nn_ (gw_seq (sr_ (mv_ rfl (wl_ov (ov_seql rfl rfl) rfl (nn_ ?_)))))))
 refine gw_cond rfl (fun hh => ?_) (fun hh => ?_)
 ·have h : (s.toList == (⟨#[]⟩ : ByteArray).toList) = true := by simpa using hh
  clear hh
  refine sr_ (sg_ rfl (nn_ ?_))
  refine gw_ret ?_
  refine nx_then_ret ?_
  refine nx_ret1 rfl rfl fun wx hm => ?_
  exact ⟨by unfold dsh; rw [if_pos h]; rfl, hm.g⟩
 have h : (s.toList == (⟨#[]⟩ : ByteArray).toList) = false := by simpa using hh
 clear hh
 refine gw_skip (nx_then (sr_ (mv_ rfl (sg_ rfl (nn_ ?_)))))
 refine gw_ret ?_
 refine nx_ret1 rfl rfl fun wx hm => ?_
 exact ⟨by unfold dsh; rw [if_neg (by rw [h]; decide)], hm.g⟩
theorem rdash_any (s : ByteArray) (w : World) :
  Calls Tryz.prog 218 #[.string s] w (fun e w' => e = .returned (.string (dsh s)) /\ w.grownBy w' none) := by
 refine gw_enter ⟨6, w, none, []⟩ Tryz.func218 rfl Tryz.ntmps218 rfl (mem0 (X := []) allF_nil allL_nil) ?_
 refine sr_ (sg_ rfl (nn_ (gw_seq (sr_ (mv_ rfl (wl_ov (ov_seql rfl rfl) rfl (nn_ ?_)))))))
 refine gw_cond rfl (fun hh => ?_) (fun hh => ?_)
 ·have h : (s.toList == (⟨#[]⟩ : ByteArray).toList) = true := by simpa using hh
  clear hh
  refine sr_ (sg_ rfl (nn_ ?_))
  refine gw_ret ?_
  refine nx_then_ret ?_
  refine nx_ret1 rfl rfl fun wx hm => ?_
  exact ⟨by unfold dsh; rw [if_pos h]; rfl, hm.g⟩
 have h : (s.toList == (⟨#[]⟩ : ByteArray).toList) = false := by simpa using hh
 clear hh
 refine gw_skip (nx_then (sr_ (mv_ rfl (sg_ rfl (nn_ ?_)))))
 refine gw_ret ?_
 refine nx_ret1 rfl rfl fun wx hm => ?_
 exact ⟨by unfold dsh; rw [if_neg (by rw [h]; decide)], hm.g⟩
theorem ftLines_any (sl : List St) (cl : List Cs) (vl : List Vh) (pl : List Pl) (sA cA vA pA : Option Addr) (sn sc cn cc vn vc pn pc : Nat) (w : World) (hs : SlT stEnc 15 152 w sA sn sl) (hc : SlT csEnc 2 158 w cA cn cl) (hv : SlT vhEnc 2 160 w vA vn vl) (hp : SlT plEnc 3 162 w pA pn pl) (hsok : ∀ x ∈ sl, StOk x) (_hcok : ∀ x ∈ cl, CsOk x) (_hvok : ∀ x ∈ vl, VhOk x) (_hpok : ∀ x ∈ pl, PlOk x) (hsn : sn <= 1000000) (hcn : cn <= 1000000) (hvn : vn <= 1000000) (hpn : pn <= 1000000) (ht : TxtW w) (h0 : fleetE sl cl vl pl = 0) (hz : (sl.length + cl.length + vl.length + pl.length) * 800 <= 1000000000) :
  Calls Tryz.prog 121 #[.agg #[.slice sA sn sc, .slice cA cn cc, .slice vA vn vc, .slice pA pn pc]] w (fun e w' => e = .returned (.string (mkB (flD sl cl vl pl))) /\ w.grownBy w' none) := by
 refine gw_enter ⟨111, w, none, []⟩ Tryz.func121 rfl Tryz.ntmps121 rfl (mem0 (X := [SlOld stEnc 15 152 w.heap.size none sA sn sl, SlOld csEnc 2 158 w.heap.size none cA cn cl, SlOld vhEnc 2 160 w.heap.size none vA vn vl, SlOld plEnc 3 162 w.heap.size none pA pn pl, TxtO w.heap.size none]) (allF_cons hs.old (allF_cons hc.old (allF_cons hv.old (allF_cons hp.old (allF_cons ht.old allF_nil))))) (allL_cons SlOld.lasts (allL_cons SlOld.lasts (allL_cons SlOld.lasts (allL_cons SlOld.lasts (allL_cons TxtO.lasts allL_nil)))))) ?_
 refine sr_ ?_
 have hls := hs.len
 have hlc := hc.len
 have hlv := hv.len
 have hlp := hp.len
 have hB := ftB_of h0
 have z10 : (⟨#[10]⟩ : ByteArray).size = 1 := rfl
 have z32 : (⟨#[32]⟩ : ByteArray).size = 1 := rfl
 have z45 : (⟨#[45]⟩ : ByteArray).size = 1 := rfl
 have hS8 : (⟨#[115, 116, 97, 116, 105, 111, 110, 32]⟩ : ByteArray).size = 8 := rfl
 have hC6 : (⟨#[99, 108, 97, 115, 115, 32]⟩ : ByteArray).size = 6 := rfl
 have hV8 : (⟨#[118, 101, 104, 105, 99, 108, 101, 32]⟩ : ByteArray).size = 8 := rfl
 have hP6 : (⟨#[112, 108, 97, 116, 101, 32]⟩ : ByteArray).size = 6 := rfl
 refine wl_box rfl rfl rfl fun g1 => ?_
 refine sg_ rfl (nn_ (sr_ (sg_ rfl (nn_ (sr_ (sg_ rfl (nn_ (gw_seq ?_))))))))
 refine sr_ (fd_ fo62_0 rfl rfl (lk_ sc57 0 rfl rfl rfl (wl_ov (ov_len es57 rfl) rfl (mv_ rfl (nn_ (gw_block ?_))))))
 refine gw_loop (γ := Nat) (fun (i : Nat) => i <= sn) (fun (i : Nat) => [(1, .pointer (some ⟨g1, 0, none⟩)), (2, .string ⟨#[]⟩), (3, .func (.func 176) #[] #[]), (4, .string (mkB (flA (sl.take i)))), (16, .slice sA sn sc), (17, .int .i64 ((sn : Nat) : Int)), (18, .int .i64 ((i : Nat) : Int))]) (fun (i : Nat) => fun _ => True) (fun (i : Nat) => [(g1, 62, [.slice sA sn sc, .slice cA cn cc, .slice vA vn vc, .slice pA pn pc])]) (fun (i : Nat) => []) (fun (i : Nat) => [SlOld stEnc 15 152 w.heap.size none sA sn sl, SlOld csEnc 2 158 w.heap.size none cA cn cl, SlOld vhEnc 2 160 w.heap.size none vA vn vl, SlOld plEnc 3 162 w.heap.size none pA pn pl, TxtO w.heap.size none]) (fun (i : Nat) => sn - i) 0 (Nat.zero_le _) ⟨rfl, rfl, rfl, (congrArg (fun z => some (Value.string z)) (by rfl)), rfl, rfl, rfl, trivial⟩ (fun _ hm => hm.pick [0] [] [0, 1, 2, 3, 4] rfl rfl) ?_
 intro i hinv
 replace hinv : i <= sn := hinv
 refine sr_ ?_
 have hi0 := hinv
 refine wl_ov (ov_lss rfl rfl) rfl (nn_ (gw_seq ?_))
 refine gw_cond rfl (fun hh => ?_) (fun hh => ?_)
 ·have hi : ((i : Nat) : Int) < ((sn : Nat) : Int) := by simpa using hh
  clear hh
  refine gw_skip (nx_then (gw_seq (gw_block (sr_ ?_))))
  obtain ⟨b0, o0, hA, _, _⟩ := hs.get (by omega)
  subst hA
  obtain ⟨x, hx⟩ : ∃ x, sl[i]? = some x := ⟨_, List.getElem?_eq_getElem (by omega)⟩
  obtain ⟨k, hrs⟩ := x
  have hxo := hsok _ (List.mem_of_getElem? hx)
  have hxk : k.size <= 100 := hB.1 _ (List.mem_of_getElem? hx)
  obtain ⟨h14, _, hbd⟩ := hxo
  dsimp only at h14 hbd
  obtain ⟨h0, h1, h2, h3, h4, h5, h6, h7, h8, h9, h10, h11, h12, h13, rfl⟩ := ftL14 h14
  have h14l : ([h0, h1, h2, h3, h4, h5, h6, h7, h8, h9, h10, h11, h12, h13] : List Int).length = 14 := rfl
  have htk : (sl.take i).length <= sl.length := by rw [List.length_take]; omega
  have hfl := flA_len (sl := sl.take i) (fun x hx => hB.1 x (List.mem_of_mem_take hx)) (fun x hx => hsok x (List.mem_of_mem_take hx))
  have hmk := mkB_sz (flA (sl.take i))
  refine wl_ov (ov_index (j := i) es57 rfl rfl (by omega)) rfl ?_
  refine wl_ov (ov_elem (vs := [.string k, .int .i64 h0, .int .i64 h1, .int .i64 h2, .int .i64 h3, .int .i64 h4, .int .i64 h5, .int .i64 h6, .int .i64 h7, .int .i64 h8, .int .i64 h9, .int .i64 h10, .int .i64 h11, .int .i64 h12, .int .i64 h13]) rz152 rfl (fun _ hm => (hm.fact 0 rfl).1) hx rfl rfl) rfl ?_
  refine wl_alloc zc152 rfl fun g2 => ?_
  refine wl_stores (cs' := [.string k, .int .i64 h0, .int .i64 h1, .int .i64 h2, .int .i64 h3, .int .i64 h4, .int .i64 h5, .int .i64 h6, .int .i64 h7, .int .i64 h8, .int .i64 h9, .int .i64 h10, .int .i64 h11, .int .i64 h12, .int .i64 h13]) 0 rz152 rfl rfl rfl rfl rfl rfl rfl rfl ?_
  refine nn_ (sr_ (mv_ rfl (fd_ fo152_0 rfl rfl (lk_ sc9 0 rfl rfl rfl ?_))))
  refine wl_ov (ov_sadd rfl rfl (by (try unfold winT); (try simp only [ByteArray.size_append]); omega)) rfl ?_
  refine wl_ov (ov_sadd rfl rfl (by (try unfold winT); (try simp only [ByteArray.size_append]); omega)) rfl ?_
  refine sg_ rfl (nn_ (gw_seq (sr_ (fd_ fo152_1 rfl rfl ?_))))
  refine wl_ov (ov_loads rz150 rfl (fun _ hm => hm.blkI 0 rfl) rfl rfl) rfl ?_
  refine mv_ rfl (nn_ (gw_block ?_))
  refine gw_loop (γ := Nat) (fun (j : Nat) => j <= 7) (fun (j : Nat) => [(1, .pointer (some ⟨g1, 0, none⟩)), (2, .string ⟨#[]⟩), (3, .func (.func 176) #[] #[]), (4, .string (mkB ((flA (sl.take i) ++ (stHd k).data.toList) ++ winsL ([h0, h1, h2, h3, h4, h5, h6, h7, h8, h9, h10, h11, h12, h13].take (2 * j))))), (16, .slice (some ⟨b0, o0, none⟩) sn sc), (17, .int .i64 ((sn : Nat) : Int)), (18, .int .i64 ((i : Nat) : Int)), (28, .agg #[.int .i64 h0, .int .i64 h1, .int .i64 h2, .int .i64 h3, .int .i64 h4, .int .i64 h5, .int .i64 h6, .int .i64 h7, .int .i64 h8, .int .i64 h9, .int .i64 h10, .int .i64 h11, .int .i64 h12, .int .i64 h13]), (29, .int .i64 ((j : Nat) : Int))]) (fun (j : Nat) => fun _ => True) (fun (j : Nat) => [(g1, 62, [.slice (some ⟨b0, o0, none⟩) sn sc, .slice cA cn cc, .slice vA vn vc, .slice pA pn pc])]) (fun (j : Nat) => []) (fun (j : Nat) => [SlOld stEnc 15 152 w.heap.size none (some ⟨b0, o0, none⟩) sn sl, SlOld csEnc 2 158 w.heap.size none cA cn cl, SlOld vhEnc 2 160 w.heap.size none vA vn vl, SlOld plEnc 3 162 w.heap.size none pA pn pl, TxtO w.heap.size none]) (fun (j : Nat) => 7 - j) 0 (by omega) ⟨rfl, rfl, rfl, (congrArg (fun z => some (Value.string z)) (stw_0 _ _ [h0, h1, h2, h3, h4, h5, h6, h7, h8, h9, h10, h11, h12, h13])), rfl, rfl, rfl, rfl, rfl, trivial⟩ (fun _ hm => hm.pick [1] [] [0, 1, 2, 3, 4] rfl rfl) ?_
  intro j hinv
  replace hinv : j <= 7 := hinv
  refine sr_ ?_
  have hj0 := hinv
  refine wl_ov (ov_lss rfl rfl) rfl (nn_ (gw_seq ?_))
  refine gw_cond rfl (fun hh => ?_) (fun hh => ?_)
  ·have hj : ((j : Nat) : Int) < 7 := by simpa using hh
   clear hh
   refine gw_skip (nx_then (gw_seq (gw_block (sr_ ?_))))
   obtain ⟨a, b, hab, hwin, ha, hb⟩ := win_at h0 h1 h2 h3 h4 h5 h6 h7 h8 h9 h10 h11 h12 h13 (show j < 7 by omega)
   have ia := hbd a ha
   have ib := hbd b hb
   have ea := itoa_sz ia
   have eb := itoa_sz ib
   have hsw := stw_len j hxk h14l hbd
   have hsz2 := stw_sz (x := flA (sl.take i)) j hsw
   obtain ⟨hsw1, hsw2⟩ := hsw
   refine wl_ov (ov_indexA (e := 27) (len := 7) (sz := 2) (i := j) (cs := [.int .i64 h0, .int .i64 h1, .int .i64 h2, .int .i64 h3, .int .i64 h4, .int .i64 h5, .int .i64 h6, .int .i64 h7, .int .i64 h8, .int .i64 h9, .int .i64 h10, .int .i64 h11, .int .i64 h12, .int .i64 h13]) (vs := [.int .i64 a, .int .i64 b]) (by kernel_rfl) rfl rfl (by omega) hab) rfl ?_
   refine wl_alloc zc27 rfl fun g3 => ?_
   refine wl_stores (cs' := [.int .i64 a, .int .i64 b]) 0 rz27 rfl rfl rfl rfl rfl rfl rfl rfl ?_
   refine nn_ ?_
   refine gd (fun wz => Blk wz g3 27 [.int .i64 a, .int .i64 b] /\ Blk wz g1 62 [.slice (some ⟨b0, o0, none⟩) sn sc, .slice cA cn cc, .slice vA vn vc, .slice pA pn pc] /\ (SlOld stEnc 15 152 w.heap.size none (some ⟨b0, o0, none⟩) sn sl) wz /\ (SlOld csEnc 2 158 w.heap.size none cA cn cl) wz /\ (SlOld vhEnc 2 160 w.heap.size none vA vn vl) wz /\ (SlOld plEnc 3 162 w.heap.size none pA pn pl) wz /\ (TxtO w.heap.size none) wz /\ True) mixed (fun _ hm => ⟨hm.bl 0, hm.bl 1, hm.fa 0, hm.fa 1, hm.fa 2, hm.fa 3, hm.fa 4, trivial⟩) fun z => ?_
   refine wt 0 14 1 rfl z (ov_move rfl) ?_
   refine wt 1 14 3 rfl z (ov_move rfl) ?_
   refine wt 2 14 7 rfl z (ov_field fo27_0 rfl rfl) ?_
   refine wt 3 14 15 rfl z (ov_load sc3 rfl (fun _ hm => hm.1) rfl) ?_
   refine wt 7 14 143 rfl z (ov_move rfl) ?_
   refine wt 8 14 399 rfl z (ov_field fo27_1 rfl rfl) ?_
   refine wt 9 14 911 rfl z (ov_load sc3 rfl (fun _ hm => hm.1) rfl) ?_
   refine wa1 4 rfl ?_
   refine wl_callv rfl cb176 rfl rfl (fun wx hm => (itoa_any a wx (hm.fact 4 rfl).1 ia.1 ia.2)) ?_
   refine wl_nil ?_
   refine nw 14 927 (fun _ hm => ⟨hm.bl 0, hm.bl 1, hm.fa 0, hm.fa 1, hm.fa 2, hm.fa 3, hm.fa 4, trivial⟩) fun z => ?_
   refine wt 5 14 959 rfl z (ov_sadd rfl rfl (by (try unfold winT); (try simp only [ByteArray.size_append]); omega)) ?_
   refine wt 6 14 1023 rfl z (ov_sadd rfl rfl (by (try unfold winT); (try simp only [ByteArray.size_append]); omega)) ?_
   refine wa1 10 rfl ?_
   refine wl_callv rfl cb176 rfl rfl (fun wx hm => (itoa_any b wx (hm.fact 4 rfl).1 ib.1 ib.2)) ?_
   refine wl_nil ?_
   refine nw 14 2047 (fun _ hm => ⟨hm.bl 0, hm.bl 1, hm.fa 0, hm.fa 1, hm.fa 2, hm.fa 3, hm.fa 4, trivial⟩) fun z => ?_
   refine wt 11 14 4095 rfl z (ov_sadd rfl rfl (by (try unfold winT); (try simp only [ByteArray.size_append]); omega)) ?_
   refine wt 12 14 8191 rfl z (ov_sadd rfl rfl (by (try unfold winT); (try simp only [ByteArray.size_append]); omega)) ?_
   refine wt 13 14 16383 rfl z (ov_assign rfl) ?_
   refine wa_done (by kernel_rfl) ?_
   refine nx_blk_nrm (nx_then (gw_region (ad_ rfl rfl (mv_ rfl (wl_nil ?_)))))
   exact nx_round (j + 1) (by omega) (by omega) ⟨rfl, rfl, rfl, (congrArg (fun z => some (Value.string z)) (by rw [hwin, <- List.append_assoc, <- mkB_app]; rfl)), rfl, rfl, rfl, rfl, (some_int (by omega)), trivial⟩ (fun _ hm => hm.pick [1] [] [0, 1, 2, 3, 4] rfl rfl)
  have hj : ¬ (((j : Nat) : Int) < 7) := by simpa using hh
  clear hh
  refine gw_exit ?_
  refine nx_then_exit (nx_then_exit ?_)
  refine nx_blk_here ?_
  refine nx_then (gw_region ?_)
  obtain rfl : j = 7 := by omega
  have hsw := stw_len 7 hxk h14l hbd
  have hsz2 := stw_sz (x := flA (sl.take i)) 7 hsw
  refine mv_ rfl ?_
  refine wl_ov (ov_sadd rfl rfl (by (try unfold winT); (try simp only [ByteArray.size_append]); omega)) rfl ?_
  refine sg_ rfl (wl_nil (nx_blk_nrm (nx_then (gw_region (ad_ rfl rfl (mv_ rfl (wl_nil ?_)))))))
  exact nx_round (i + 1) (by omega) (by omega) ⟨rfl, rfl, rfl, (congrArg (fun z => some (Value.string z)) (by rw [flA_at hx]; exact stw_7 _ _ h0 h1 h2 h3 h4 h5 h6 h7 h8 h9 h10 h11 h12 h13)), rfl, rfl, (some_int (by omega)), trivial⟩ (fun _ hm => hm.pick [0] [] [0, 1, 2, 3, 4] rfl rfl)
 have hi : ¬ (((i : Nat) : Int) < ((sn : Nat) : Int)) := by simpa using hh
 clear hh
 refine gw_exit ?_
 refine nx_then_exit (nx_then_exit ?_)
 refine nx_blk_here ?_
 refine nx_then (gw_seq (sr_ ?_))
 have hlt0 : sl.take i = sl := List.take_of_length_le (by omega)
 rw [hlt0]
 clear hlt0 hi hi0 hinv
 refine fd_ fo62_1 rfl rfl (lk_ sc58 0 rfl rfl rfl (wl_ov (ov_len es58 rfl) rfl (mv_ rfl (nn_ (gw_block ?_)))))
 refine gw_loop (γ := Nat) (fun (i : Nat) => i <= cn) (fun (i : Nat) => [(1, .pointer (some ⟨g1, 0, none⟩)), (2, .string ⟨#[]⟩), (3, .func (.func 176) #[] #[]), (4, .string (mkB (flB sl (cl.take i)))), (50, .slice cA cn cc), (51, .int .i64 ((cn : Nat) : Int)), (52, .int .i64 ((i : Nat) : Int))]) (fun (i : Nat) => fun _ => True) (fun (i : Nat) => [(g1, 62, [.slice sA sn sc, .slice cA cn cc, .slice vA vn vc, .slice pA pn pc])]) (fun (i : Nat) => []) (fun (i : Nat) => [SlOld stEnc 15 152 w.heap.size none sA sn sl, SlOld csEnc 2 158 w.heap.size none cA cn cl, SlOld vhEnc 2 160 w.heap.size none vA vn vl, SlOld plEnc 3 162 w.heap.size none pA pn pl, TxtO w.heap.size none]) (fun (i : Nat) => cn - i) 0 (Nat.zero_le _) ⟨rfl, rfl, rfl, (congrArg (fun z => some (Value.string z)) (by rw [show cl.take 0 = [] from rfl, flB_nil])), rfl, rfl, rfl, trivial⟩ (fun _ hm => hm.pick [0] [] [0, 1, 2, 3, 4] rfl rfl) ?_
 intro i hinv
 replace hinv : i <= cn := hinv
 refine sr_ ?_
 have hi0 := hinv
 refine wl_ov (ov_lss rfl rfl) rfl (nn_ (gw_seq ?_))
 refine gw_cond rfl (fun hh => ?_) (fun hh => ?_)
 ·have hi : ((i : Nat) : Int) < ((cn : Nat) : Int) := by simpa using hh
  clear hh
  refine gw_skip (nx_then (gw_seq (gw_block (sr_ ?_))))
  obtain ⟨b1, o1, hA, _, _⟩ := hc.get (by omega)
  subst hA
  obtain ⟨x, hx⟩ : ∃ x, cl[i]? = some x := ⟨_, List.getElem?_eq_getElem (by omega)⟩
  obtain ⟨xk, xu⟩ := x
  have hxB := hB.2.1 _ (List.mem_of_getElem? hx)
  dsimp only at hxB
  have hdz := dsh_sz hxB.2
  have hJz : (joinS [⟨#[99, 108, 97, 115, 115]⟩, xk, dsh xu] ⟨#[32]⟩).size <= 303 := clJ_sz (x := ⟨xk, xu⟩) hxB
  have htk : (cl.take i).length <= cl.length := by rw [List.length_take]; omega
  obtain ⟨hfb, hfc, hfd⟩ := fl_len (sl := sl) (cl := (cl.take i)) (vl := vl) (pl := pl) ⟨hB.1, (fun x hx => hB.2.1 x (List.mem_of_mem_take hx)), hB.2.2.1, hB.2.2.2⟩ hsok
  have hmk := mkB_sz (flB sl (cl.take i))
  refine wl_ov (ov_index (j := i) es58 rfl rfl (by omega)) rfl ?_
  refine wl_ov (ov_elem (vs := [.string xk, .string xu]) rz158 rfl (fun _ hm => (hm.fact 1 rfl).1) hx rfl rfl) rfl ?_
  refine wl_alloc zc158 rfl fun g4 => ?_
  refine wl_stores (cs' := [.string xk, .string xu]) 0 rz158 rfl rfl rfl rfl rfl rfl rfl rfl ?_
  refine nn_ ?_
  refine gd (fun wz => Blk wz g4 158 [.string xk, .string xu] /\ Blk wz g1 62 [.slice sA sn sc, .slice (some ⟨b1, o1, none⟩) cn cc, .slice vA vn vc, .slice pA pn pc] /\ (SlOld stEnc 15 152 w.heap.size none sA sn sl) wz /\ (SlOld csEnc 2 158 w.heap.size none (some ⟨b1, o1, none⟩) cn cl) wz /\ (SlOld vhEnc 2 160 w.heap.size none vA vn vl) wz /\ (SlOld plEnc 3 162 w.heap.size none pA pn pl) wz /\ (TxtO w.heap.size none) wz /\ True) mixed (fun _ hm => ⟨hm.bl 0, hm.bl 1, hm.fa 0, hm.fa 1, hm.fa 2, hm.fa 3, hm.fa 4, trivial⟩) fun z => ?_
  refine wt 0 12 1 rfl z (ov_move rfl) ?_
  refine wt 1 12 3 rfl z (ov_field fo158_0 rfl rfl) ?_
  refine wt 2 12 7 rfl z (ov_load sc9 rfl (fun _ hm => hm.1) rfl) ?_
  refine wt 3 12 15 rfl z (ov_sadd rfl rfl (by (try unfold winT); (try simp only [ByteArray.size_append]); omega)) ?_
  refine wt 4 12 31 rfl z (ov_sadd rfl rfl (by (try unfold winT); (try simp only [ByteArray.size_append]); omega)) ?_
  refine wt 5 12 63 rfl z (ov_field fo158_1 rfl rfl) ?_
  refine wt 6 12 127 rfl z (ov_load sc9 rfl (fun _ hm => hm.1) rfl) ?_
  refine wa1 7 rfl ?_
  refine wl_callv rfl cb218 rfl rfl (fun wx hm => (rdash_any xu wx)) ?_
  refine wl_nil ?_
  refine nw 12 255 (fun _ hm => ⟨hm.bl 0, hm.bl 1, hm.fa 0, hm.fa 1, hm.fa 2, hm.fa 3, hm.fa 4, trivial⟩) fun z => ?_
  refine wt 8 12 511 rfl z (ov_sadd rfl rfl (by (try unfold winT); (try simp only [ByteArray.size_append]); omega)) ?_
  refine wt 9 12 1023 rfl z (ov_sadd rfl rfl (by (try unfold winT); (try simp only [ByteArray.size_append]); omega)) ?_
  refine wt 10 12 2047 rfl z (ov_sadd rfl rfl (by (try unfold winT); (try simp only [ByteArray.size_append]); omega)) ?_
  refine wt 11 12 4095 rfl z (ov_assign rfl) ?_
  refine wa_done (by kernel_rfl) ?_
  refine nx_blk_nrm (nx_then (gw_region (ad_ rfl rfl (mv_ rfl (wl_nil ?_)))))
  exact nx_round (i + 1) (by omega) (by omega) ⟨rfl, rfl, rfl, (congrArg (fun z => some (Value.string z)) (by rw [flB_at hx, <- mkB_app, <- clLn_eq])), rfl, rfl, (some_int (by omega)), trivial⟩ (fun _ hm => hm.pick [1] [] [0, 1, 2, 3, 4] rfl rfl)
 have hi : ¬ (((i : Nat) : Int) < ((cn : Nat) : Int)) := by simpa using hh
 clear hh
 refine gw_exit ?_
 refine nx_then_exit (nx_then_exit ?_)
 refine nx_blk_here ?_
 refine nx_then (gw_seq (sr_ ?_))
 have hlt1 : cl.take i = cl := List.take_of_length_le (by omega)
 rw [hlt1]
 clear hlt1 hi hi0 hinv
 refine fd_ fo62_2 rfl rfl (lk_ sc59 0 rfl rfl rfl (wl_ov (ov_len es59 rfl) rfl (mv_ rfl (nn_ (gw_block ?_)))))
 refine gw_loop (γ := Nat) (fun (i : Nat) => i <= vn) (fun (i : Nat) => [(1, .pointer (some ⟨g1, 0, none⟩)), (2, .string ⟨#[]⟩), (3, .func (.func 176) #[] #[]), (4, .string (mkB (flC sl cl (vl.take i)))), (69, .slice vA vn vc), (70, .int .i64 ((vn : Nat) : Int)), (71, .int .i64 ((i : Nat) : Int))]) (fun (i : Nat) => fun _ => True) (fun (i : Nat) => [(g1, 62, [.slice sA sn sc, .slice cA cn cc, .slice vA vn vc, .slice pA pn pc])]) (fun (i : Nat) => []) (fun (i : Nat) => [SlOld stEnc 15 152 w.heap.size none sA sn sl, SlOld csEnc 2 158 w.heap.size none cA cn cl, SlOld vhEnc 2 160 w.heap.size none vA vn vl, SlOld plEnc 3 162 w.heap.size none pA pn pl, TxtO w.heap.size none]) (fun (i : Nat) => vn - i) 0 (Nat.zero_le _) ⟨rfl, rfl, rfl, (congrArg (fun z => some (Value.string z)) (by rw [show vl.take 0 = [] from rfl, flC_nil])), rfl, rfl, rfl, trivial⟩ (fun _ hm => hm.pick [0] [] [0, 1, 2, 3, 4] rfl rfl) ?_
 intro i hinv
 replace hinv : i <= vn := hinv
 refine sr_ ?_
 have hi0 := hinv
 refine wl_ov (ov_lss rfl rfl) rfl (nn_ (gw_seq ?_))
 refine gw_cond rfl (fun hh => ?_) (fun hh => ?_)
 ·have hi : ((i : Nat) : Int) < ((vn : Nat) : Int) := by simpa using hh
  clear hh
  refine gw_skip (nx_then (gw_seq (gw_block (sr_ ?_))))
  obtain ⟨b2, o2, hA, _, _⟩ := hv.get (by omega)
  subst hA
  obtain ⟨x, hx⟩ : ∃ x, vl[i]? = some x := ⟨_, List.getElem?_eq_getElem (by omega)⟩
  obtain ⟨xk, xc⟩ := x
  have hxB := hB.2.2.1 _ (List.mem_of_getElem? hx)
  dsimp only at hxB
  have hJz : (joinS [⟨#[118, 101, 104, 105, 99, 108, 101]⟩, xk, xc] ⟨#[32]⟩).size <= 303 := vhJ_sz (x := ⟨xk, xc⟩) hxB
  have htk : (vl.take i).length <= vl.length := by rw [List.length_take]; omega
  obtain ⟨hfb, hfc, hfd⟩ := fl_len (sl := sl) (cl := cl) (vl := (vl.take i)) (pl := pl) ⟨hB.1, hB.2.1, (fun x hx => hB.2.2.1 x (List.mem_of_mem_take hx)), hB.2.2.2⟩ hsok
  have hmk := mkB_sz (flC sl cl (vl.take i))
  refine wl_ov (ov_index (j := i) es59 rfl rfl (by omega)) rfl ?_
  refine wl_ov (ov_elem (vs := [.string xk, .string xc]) rz160 rfl (fun _ hm => (hm.fact 2 rfl).1) hx rfl rfl) rfl ?_
  refine wl_alloc zc160 rfl fun g5 => ?_
  refine wl_stores (cs' := [.string xk, .string xc]) 0 rz160 rfl rfl rfl rfl rfl rfl rfl rfl ?_
  refine nn_ (gw_region (mv_ rfl (fd_ fo160_0 rfl rfl (lk_ sc9 0 rfl rfl rfl ?_))))
  refine wl_ov (ov_sadd rfl rfl (by (try unfold winT); (try simp only [ByteArray.size_append]); omega)) rfl ?_
  refine wl_ov (ov_sadd rfl rfl (by (try unfold winT); (try simp only [ByteArray.size_append]); omega)) rfl ?_
  refine fd_ fo160_1 rfl rfl (lk_ sc9 0 rfl rfl rfl ?_)
  refine wl_ov (ov_sadd rfl rfl (by (try unfold winT); (try simp only [ByteArray.size_append]); omega)) rfl ?_
  refine wl_ov (ov_sadd rfl rfl (by (try unfold winT); (try simp only [ByteArray.size_append]); omega)) rfl ?_
  refine wl_ov (ov_sadd rfl rfl (by (try unfold winT); (try simp only [ByteArray.size_append]); omega)) rfl ?_
  refine sg_ rfl (wl_nil (nx_blk_nrm (nx_then (gw_region (ad_ rfl rfl (mv_ rfl (wl_nil ?_)))))))
  exact nx_round (i + 1) (by omega) (by omega) ⟨rfl, rfl, rfl, (congrArg (fun z => some (Value.string z)) (by rw [flC_at hx, <- mkB_app, <- vhLn_eq])), rfl, rfl, (some_int (by omega)), trivial⟩ (fun _ hm => hm.pick [1] [] [0, 1, 2, 3, 4] rfl rfl)
 have hi : ¬ (((i : Nat) : Int) < ((vn : Nat) : Int)) := by simpa using hh
 clear hh
 refine gw_exit ?_
 refine nx_then_exit (nx_then_exit ?_)
 refine nx_blk_here ?_
 refine nx_then (gw_seq (sr_ ?_))
 have hlt2 : vl.take i = vl := List.take_of_length_le (by omega)
 rw [hlt2]
 clear hlt2 hi hi0 hinv
 refine fd_ fo62_3 rfl rfl (lk_ sc60 0 rfl rfl rfl (wl_ov (ov_len es60 rfl) rfl (mv_ rfl (nn_ (gw_block ?_)))))
 refine gw_loop (γ := Nat) (fun (i : Nat) => i <= pn) (fun (i : Nat) => [(2, .string ⟨#[]⟩), (3, .func (.func 176) #[] #[]), (4, .string (mkB (flD sl cl vl (pl.take i)))), (87, .slice pA pn pc), (88, .int .i64 ((pn : Nat) : Int)), (89, .int .i64 ((i : Nat) : Int))]) (fun (i : Nat) => fun _ => True) (fun (i : Nat) => [(g1, 62, [.slice sA sn sc, .slice cA cn cc, .slice vA vn vc, .slice pA pn pc])]) (fun (i : Nat) => []) (fun (i : Nat) => [SlOld stEnc 15 152 w.heap.size none sA sn sl, SlOld csEnc 2 158 w.heap.size none cA cn cl, SlOld vhEnc 2 160 w.heap.size none vA vn vl, SlOld plEnc 3 162 w.heap.size none pA pn pl, TxtO w.heap.size none]) (fun (i : Nat) => pn - i) 0 (Nat.zero_le _) ⟨rfl, rfl, (congrArg (fun z => some (Value.string z)) (by rw [show pl.take 0 = [] from rfl, flD_nil])), rfl, rfl, rfl, trivial⟩ (fun _ hm => hm.pick [0] [] [0, 1, 2, 3, 4] rfl rfl) ?_
 intro i hinv
 replace hinv : i <= pn := hinv
 refine sr_ ?_
 have hi0 := hinv
 refine wl_ov (ov_lss rfl rfl) rfl (nn_ (gw_seq ?_))
 refine gw_cond rfl (fun hh => ?_) (fun hh => ?_)
 ·have hi : ((i : Nat) : Int) < ((pn : Nat) : Int) := by simpa using hh
  clear hh
  refine gw_skip (nx_then (gw_seq (gw_block (sr_ ?_))))
  obtain ⟨b3, o3, hA, _, _⟩ := hp.get (by omega)
  subst hA
  obtain ⟨x, hx⟩ : ∃ x, pl[i]? = some x := ⟨_, List.getElem?_eq_getElem (by omega)⟩
  obtain ⟨xf, xv, xp⟩ := x
  have hxB := hB.2.2.2 _ (List.mem_of_getElem? hx)
  dsimp only at hxB
  have i1 : -9223372036854775808 <= xf /\ xf <= 9223372036854775807 := by omega
  have e1 := itoa_sz i1
  have hJz : (joinS [⟨#[112, 108, 97, 116, 101]⟩, itoaS xf, xv, xp] ⟨#[32]⟩).size <= 404 := plJ_sz (x := ⟨xf, xv, xp⟩) hxB
  have htk : (pl.take i).length <= pl.length := by rw [List.length_take]; omega
  obtain ⟨hfb, hfc, hfd⟩ := fl_len (sl := sl) (cl := cl) (vl := vl) (pl := (pl.take i)) ⟨hB.1, hB.2.1, hB.2.2.1, (fun x hx => hB.2.2.2 x (List.mem_of_mem_take hx))⟩ hsok
  have hmk := mkB_sz (flD sl cl vl (pl.take i))
  refine wl_ov (ov_index (j := i) es60 rfl rfl (by omega)) rfl ?_
  refine wl_ov (ov_elem (vs := [.int .i64 xf, .string xv, .string xp]) rz162 rfl (fun _ hm => (hm.fact 3 rfl).1) hx rfl rfl) rfl ?_
  refine wl_alloc zc162 rfl fun g6 => ?_
  refine wl_stores (cs' := [.int .i64 xf, .string xv, .string xp]) 0 rz162 rfl rfl rfl rfl rfl rfl rfl rfl ?_
  refine nn_ ?_
  refine gd (fun wz => Blk wz g6 162 [.int .i64 xf, .string xv, .string xp] /\ Blk wz g1 62 [.slice sA sn sc, .slice cA cn cc, .slice vA vn vc, .slice (some ⟨b3, o3, none⟩) pn pc] /\ (SlOld stEnc 15 152 w.heap.size none sA sn sl) wz /\ (SlOld csEnc 2 158 w.heap.size none cA cn cl) wz /\ (SlOld vhEnc 2 160 w.heap.size none vA vn vl) wz /\ (SlOld plEnc 3 162 w.heap.size none (some ⟨b3, o3, none⟩) pn pl) wz /\ (TxtO w.heap.size none) wz /\ True) mixed (fun _ hm => ⟨hm.bl 0, hm.bl 1, hm.fa 0, hm.fa 1, hm.fa 2, hm.fa 3, hm.fa 4, trivial⟩) fun z => ?_
  refine wt 0 17 1 rfl z (ov_move rfl) ?_
  refine wt 1 17 3 rfl z (ov_move rfl) ?_
  refine wt 2 17 7 rfl z (ov_field fo162_0 rfl rfl) ?_
  refine wt 3 17 15 rfl z (ov_load sc3 rfl (fun _ hm => hm.1) rfl) ?_
  refine wt 7 17 143 rfl z (ov_field fo162_1 rfl rfl) ?_
  refine wt 8 17 399 rfl z (ov_load sc9 rfl (fun _ hm => hm.1) rfl) ?_
  refine wt 11 17 2447 rfl z (ov_field fo162_2 rfl rfl) ?_
  refine wt 12 17 6543 rfl z (ov_load sc9 rfl (fun _ hm => hm.1) rfl) ?_
  refine wa1 4 rfl ?_
  refine wl_callv rfl cb176 rfl rfl (fun wx hm => (itoa_any xf wx (hm.fact 4 rfl).1 i1.1 i1.2)) ?_
  refine wl_nil ?_
  refine nw 17 6559 (fun _ hm => ⟨hm.bl 0, hm.bl 1, hm.fa 0, hm.fa 1, hm.fa 2, hm.fa 3, hm.fa 4, trivial⟩) fun z => ?_
  refine wt 5 17 6591 rfl z (ov_sadd rfl rfl (by (try unfold winT); (try simp only [ByteArray.size_append]); omega)) ?_
  refine wt 6 17 6655 rfl z (ov_sadd rfl rfl (by (try unfold winT); (try simp only [ByteArray.size_append]); omega)) ?_
  refine wt 9 17 7167 rfl z (ov_sadd rfl rfl (by (try unfold winT); (try simp only [ByteArray.size_append]); omega)) ?_
  refine wt 10 17 8191 rfl z (ov_sadd rfl rfl (by (try unfold winT); (try simp only [ByteArray.size_append]); omega)) ?_
  refine wt 13 17 16383 rfl z (ov_sadd rfl rfl (by (try unfold winT); (try simp only [ByteArray.size_append]); omega)) ?_
  refine wt 14 17 32767 rfl z (ov_sadd rfl rfl (by (try unfold winT); (try simp only [ByteArray.size_append]); omega)) ?_
  refine wt 15 17 65535 rfl z (ov_sadd rfl rfl (by (try unfold winT); (try simp only [ByteArray.size_append]); omega)) ?_
  refine wt 16 17 131071 rfl z (ov_assign rfl) ?_
  refine wa_done (by kernel_rfl) ?_
  refine nx_blk_nrm (nx_then (gw_region (ad_ rfl rfl (mv_ rfl (wl_nil ?_)))))
  exact nx_round (i + 1) (by omega) (by omega) ⟨rfl, rfl, (congrArg (fun z => some (Value.string z)) (by rw [flD_at hx, <- mkB_app, <- plLn_eq])), rfl, rfl, (some_int (by omega)), trivial⟩ (fun _ hm => hm.pick [1] [] [0, 1, 2, 3, 4] rfl rfl)
 have hi : ¬ (((i : Nat) : Int) < ((pn : Nat) : Int)) := by simpa using hh
 clear hh
 refine gw_exit ?_
 refine nx_then_exit (nx_then_exit ?_)
 refine nx_blk_here ?_
 refine nx_then (sr_ ?_)
 have hlt3 : pl.take i = pl := List.take_of_length_le (by omega)
 rw [hlt3]
 clear hlt3 hi hi0 hinv
 refine mv_ rfl (sg_ rfl (nn_ ?_))
 refine gw_ret ?_
 refine nx_ret1 rfl rfl fun wx hm => ?_
 exact ⟨rfl, hm.g⟩
theorem fText_right (sl : List St) (cl : List Cs) (vl : List Vh) (pl : List Pl) (sA cA vA pA : Option Addr) (sn sc cn cc vn vc pn pc : Nat) (w : World) (hs : SlT stEnc 15 152 w sA sn sl) (hc : SlT csEnc 2 158 w cA cn cl) (hv : SlT vhEnc 2 160 w vA vn vl) (hp : SlT plEnc 3 162 w pA pn pl) (hsok : ∀ x ∈ sl, StOk x) (hcok : ∀ x ∈ cl, CsOk x) (hvok : ∀ x ∈ vl, VhOk x) (hpok : ∀ x ∈ pl, PlOk x) (hsn : sn <= 1000000) (hcn : cn <= 1000000) (hvn : vn <= 1000000) (hpn : pn <= 1000000) (ht : TxtW w) (h0 : fleetE sl cl vl pl = 0) (hz : (sl.length + cl.length + vl.length + pl.length) * 800 <= 1000000000) (hz2 : (flD sl cl vl pl).length <= 200000) :
  Calls Tryz.prog 27 #[.agg #[.slice sA sn sc, .slice cA cn cc, .slice vA vn vc, .slice pA pn pc]] w (fun e w' => e = .returned (.tuple #[.string (mkB (flD sl cl vl pl)), .int .i64 0]) /\ w.grownBy w' none) := by
 refine gw_enter ⟨119, w, none, []⟩ Tryz.func27 rfl Tryz.ntmps27 rfl (mem0 (X := [SlOld stEnc 15 152 w.heap.size none sA sn sl, SlOld csEnc 2 158 w.heap.size none cA cn cl, SlOld vhEnc 2 160 w.heap.size none vA vn vl, SlOld plEnc 3 162 w.heap.size none pA pn pl, TxtO w.heap.size none]) (allF_cons hs.old (allF_cons hc.old (allF_cons hv.old (allF_cons hp.old (allF_cons ht.old allF_nil))))) (allL_cons SlOld.lasts (allL_cons SlOld.lasts (allL_cons SlOld.lasts (allL_cons SlOld.lasts (allL_cons TxtO.lasts allL_nil)))))) ?_
 refine sr_ ?_
 obtain ⟨FE, hFE⟩ : ∃ z, z = fleetE sl cl vl pl := ⟨_, rfl⟩
 have hls := hs.len
 have hlc := hc.len
 have hlv := hv.len
 have hlp := hp.len
 have hB := ftB_of h0
 have z10 : (⟨#[10]⟩ : ByteArray).size = 1 := rfl
 have z32 : (⟨#[32]⟩ : ByteArray).size = 1 := rfl
 have z45 : (⟨#[45]⟩ : ByteArray).size = 1 := rfl
 have hS8 : (⟨#[115, 116, 97, 116, 105, 111, 110, 32]⟩ : ByteArray).size = 8 := rfl
 have hC6 : (⟨#[99, 108, 97, 115, 115, 32]⟩ : ByteArray).size = 6 := rfl
 have hV8 : (⟨#[118, 101, 104, 105, 99, 108, 101, 32]⟩ : ByteArray).size = 8 := rfl
 have hP6 : (⟨#[112, 108, 97, 116, 101, 32]⟩ : ByteArray).size = 6 := rfl
 rw [<- hFE] at h0
 refine wl_box rfl rfl rfl fun g1 => ?_
 refine sg_ rfl (sg_ rfl (nn_ (gw_seq (sr_ ?_))))
 refine wl_ov (ov_loads rz62 rfl (fun _ hm => hm.blkI 0 rfl) rfl rfl) rfl ?_
 refine wl_callv (v := .int .i64 FE) rfl cb106 rfl rfl (fun wx hm => (by rw [hFE]; exact checkFleet_any sl cl vl pl sA cA vA pA sn sc cn cc vn vc pn pc wx (hm.fact 0 rfl).1 (hm.fact 1 rfl).1 (hm.fact 2 rfl).1 (hm.fact 3 rfl).1 hsok hcok hvok hpok hsn hcn hvn hpn)) ?_
 refine sg_ rfl (nn_ (sr_ (mv_ rfl (wl_ov (ov_neq rfl rfl) rfl (nn_ ?_)))))
 refine gw_cond rfl (fun hh => ?_) (fun hh => ?_)
 ·have h1 : ¬ (FE = 0) := by simpa using hh
  clear hh
  refine sr_ ?_
  exact absurd h0 (by simpa using h1)
 have h1 : FE = 0 := by simpa using hh
 clear hh
 refine gw_skip (nx_then (sr_ ?_))
 refine wl_alloc zc128 rfl fun g2 => ?_
 refine nn_ (gw_seq (sr_ (fd_ fo62_0 rfl rfl (lk_ sc57 1 rfl rfl rfl (wl_ov (ov_len es57 rfl) rfl (mv_ rfl (nn_ (gw_block ?_))))))))
 refine gw_nilOwn 5 1 ?_
 refine gw_loop (γ := Nat × Value × Value) (fun (gz : Nat × Value × Value) => gz.1 <= sn /\ (gz.2.1 = .pointer none ∨ gz.2.1 = .pointer (some ⟨g2, 0, none⟩))) (fun (gz : Nat × Value × Value) => [(1, .pointer (some ⟨g1, 0, none⟩)), (2, .string ⟨#[]⟩), (3, .int .i64 0), (5, .pointer (some ⟨g2, 0, none⟩)), (22, .slice sA sn sc), (23, .int .i64 ((sn : Nat) : Int)), (24, .int .i64 ((gz.1 : Nat) : Int))]) (fun (gz : Nat × Value × Value) => fun _ => True) (fun (gz : Nat × Value × Value) => [(g2, 128, [gz.2.1, gz.2.2]), (g1, 62, [.slice sA sn sc, .slice cA cn cc, .slice vA vn vc, .slice pA pn pc])]) (fun (gz : Nat × Value × Value) => [⟨gz.2.2, 5, 1, (Lib.byteCells (flA (sl.take gz.1))).length, (Lib.byteCells (flA (sl.take gz.1)))⟩]) (fun (gz : Nat × Value × Value) => [SlOld stEnc 15 152 w.heap.size none sA sn sl, SlOld csEnc 2 158 w.heap.size none cA cn cl, SlOld vhEnc 2 160 w.heap.size none vA vn vl, SlOld plEnc 3 162 w.heap.size none pA pn pl, TxtO w.heap.size none]) (fun (gz : Nat × Value × Value) => sn - gz.1) (0, .pointer none, .slice none 0 0) ⟨Nat.zero_le _, .inl rfl⟩ ⟨rfl, rfl, rfl, rfl, rfl, rfl, rfl, trivial⟩ (fun _ hm => hm.pick [0, 1] [0] [0, 1, 2, 3, 4] rfl rfl) ?_
 rintro ⟨i, p_0, v_0⟩ hinv
 replace hinv : i <= sn /\ (p_0 = .pointer none ∨ p_0 = .pointer (some ⟨g2, 0, none⟩)) := hinv
 dsimp only
 refine sr_ ?_
 obtain ⟨hi0, hp_0⟩ := hinv
 refine wl_ov (ov_lss rfl rfl) rfl (nn_ (gw_seq ?_))
 refine gw_cond rfl (fun hh => ?_) (fun hh => ?_)
 ·have hi : ((i : Nat) : Int) < ((sn : Nat) : Int) := by simpa using hh
  clear hh
  refine gw_skip (nx_then (gw_seq (gw_block (sr_ ?_))))
  obtain ⟨b0, o0, hA, _, _⟩ := hs.get (by omega)
  subst hA
  obtain ⟨x, hx⟩ : ∃ x, sl[i]? = some x := ⟨_, List.getElem?_eq_getElem (by omega)⟩
  obtain ⟨k, hrs⟩ := x
  have hxo := hsok _ (List.mem_of_getElem? hx)
  have hxk : k.size <= 100 := hB.1 _ (List.mem_of_getElem? hx)
  obtain ⟨h14, _, hbd⟩ := hxo
  dsimp only at h14 hbd
  obtain ⟨h0, h1, h2, h3, h4, h5, h6, h7, h8, h9, h10, h11, h12, h13, rfl⟩ := ftL14 h14
  have h14l : ([h0, h1, h2, h3, h4, h5, h6, h7, h8, h9, h10, h11, h12, h13] : List Int).length = 14 := rfl
  have htk : (sl.take i).length <= sl.length := by rw [List.length_take]; omega
  have hfl := flA_len (sl := sl.take i) (fun x hx => hB.1 x (List.mem_of_mem_take hx)) (fun x hx => hsok x (List.mem_of_mem_take hx))
  have hmk := mkB_sz (flA (sl.take i))
  refine wl_ov (ov_index (j := i) es57 rfl rfl (by omega)) rfl ?_
  refine wl_ov (ov_elem (vs := [.string k, .int .i64 h0, .int .i64 h1, .int .i64 h2, .int .i64 h3, .int .i64 h4, .int .i64 h5, .int .i64 h6, .int .i64 h7, .int .i64 h8, .int .i64 h9, .int .i64 h10, .int .i64 h11, .int .i64 h12, .int .i64 h13]) rz152 rfl (fun _ hm => (hm.fact 0 rfl).1) hx rfl rfl) rfl ?_
  refine wl_alloc zc152 rfl fun g3 => ?_
  refine wl_stores (cs' := [.string k, .int .i64 h0, .int .i64 h1, .int .i64 h2, .int .i64 h3, .int .i64 h4, .int .i64 h5, .int .i64 h6, .int .i64 h7, .int .i64 h8, .int .i64 h9, .int .i64 h10, .int .i64 h11, .int .i64 h12, .int .i64 h13]) 0 rz152 rfl rfl rfl rfl rfl rfl rfl rfl ?_
  refine nn_ (sr_ (fd_ fo152_0 rfl rfl (lk_ sc9 0 rfl rfl rfl ?_)))
  refine wl_ov (ov_sadd rfl rfl (by (try unfold winT); (try simp only [ByteArray.size_append]); omega)) rfl ?_
  refine wl_callG (γ := Value) (val := fun _ => .tuple #[.int .i64 (((⟨#[115, 116, 97, 116, 105, 111, 110, 32]⟩ : ByteArray) ++ k).size : Int), .nilIface]) (φ := fun _ => True) (K' := fun _ => (fun _ => True)) (L' := fun g => [(g3, 152, [.string k, .int .i64 h0, .int .i64 h1, .int .i64 h2, .int .i64 h3, .int .i64 h4, .int .i64 h5, .int .i64 h6, .int .i64 h7, .int .i64 h8, .int .i64 h9, .int .i64 h10, .int .i64 h11, .int .i64 h12, .int .i64 h13]), (g2, 128, [.pointer (some ⟨g2, 0, none⟩), g]), (g1, 62, [.slice (some ⟨b0, o0, none⟩) sn sc, .slice cA cn cc, .slice vA vn vc, .slice pA pn pc])]) (O' := fun g => [⟨g, 5, 1, (Lib.byteCells (flA (sl.take i)) ++ Lib.strCells ((⟨#[115, 116, 97, 116, 105, 111, 110, 32]⟩ : ByteArray) ++ k)).length, Lib.byteCells (flA (sl.take i)) ++ Lib.strCells ((⟨#[115, 116, 97, 116, 105, 111, 110, 32]⟩ : ByteArray) ++ k)⟩]) (X' := fun _ => [SlOld stEnc 15 152 w.heap.size none (some ⟨b0, o0, none⟩) sn sl, SlOld csEnc 2 158 w.heap.size none cA cn cl, SlOld vhEnc 2 160 w.heap.size none vA vn vl, SlOld plEnc 3 162 w.heap.size none pA pn pl, TxtO w.heap.size none]) rfl cb72 rfl rfl (fun wx hm => (writeStringK w.heap.size g2 (Lib.byteCells (flA (sl.take i))) ((⟨#[115, 116, 97, 116, 105, 111, 110, 32]⟩ : ByteArray) ++ k) wx (hm.isB 1 0 rfl rfl hp_0) (by simp only [Lib.byteCells_length]; (try unfold winT); (try simp only [ByteArray.size_append]); omega) hm.g.size).mono fun e w' ⟨he, h1, hb, hk⟩ => by
   obtain ⟨v, hM⟩ := hm.builtK 1 rfl (tys_ne rfl) h1 hb hk (oldX_cons (i := 0) SlOld.oldF rfl (oldX_cons (i := 1) SlOld.oldF rfl (oldX_cons (i := 2) SlOld.oldF rfl (oldX_cons (i := 3) SlOld.oldF rfl (oldX_cons (i := 4) TxtO.oldF rfl oldX_nil)))))
   exact ⟨v, he, trivial, hM⟩) ?_
  rintro vv1 _
  refine nn_ (gw_seq (sr_ (fd_ fo152_1 rfl rfl ?_)))
  refine wl_ov (ov_loads rz150 rfl (fun _ hm => hm.blkI 0 rfl) rfl rfl) rfl ?_
  refine mv_ rfl (nn_ (gw_block ?_))
  rw [show Lib.byteCells (flA (sl.take i)) ++ Lib.strCells ((⟨#[115, 116, 97, 116, 105, 111, 110, 32]⟩ : ByteArray) ++ k) = Lib.byteCells ((flA (sl.take i) ++ (stHd k).data.toList) ++ winsL ([h0, h1, h2, h3, h4, h5, h6, h7, h8, h9, h10, h11, h12, h13].take (2 * 0))) from by exact stw_c0 _ _ [h0, h1, h2, h3, h4, h5, h6, h7, h8, h9, h10, h11, h12, h13]]
  refine gw_loop (γ := Nat × Value) (fun (gy : Nat × Value) => gy.1 <= 7) (fun (gy : Nat × Value) => [(1, .pointer (some ⟨g1, 0, none⟩)), (2, .string ⟨#[]⟩), (3, .int .i64 0), (5, .pointer (some ⟨g2, 0, none⟩)), (22, .slice (some ⟨b0, o0, none⟩) sn sc), (23, .int .i64 ((sn : Nat) : Int)), (24, .int .i64 ((i : Nat) : Int)), (33, .agg #[.int .i64 h0, .int .i64 h1, .int .i64 h2, .int .i64 h3, .int .i64 h4, .int .i64 h5, .int .i64 h6, .int .i64 h7, .int .i64 h8, .int .i64 h9, .int .i64 h10, .int .i64 h11, .int .i64 h12, .int .i64 h13]), (34, .int .i64 ((gy.1 : Nat) : Int))]) (fun (gy : Nat × Value) => fun _ => True) (fun (gy : Nat × Value) => [(g2, 128, [.pointer (some ⟨g2, 0, none⟩), gy.2]), (g1, 62, [.slice (some ⟨b0, o0, none⟩) sn sc, .slice cA cn cc, .slice vA vn vc, .slice pA pn pc])]) (fun (gy : Nat × Value) => [⟨gy.2, 5, 1, (Lib.byteCells ((flA (sl.take i) ++ (stHd k).data.toList) ++ winsL ([h0, h1, h2, h3, h4, h5, h6, h7, h8, h9, h10, h11, h12, h13].take (2 * gy.1)))).length, (Lib.byteCells ((flA (sl.take i) ++ (stHd k).data.toList) ++ winsL ([h0, h1, h2, h3, h4, h5, h6, h7, h8, h9, h10, h11, h12, h13].take (2 * gy.1))))⟩]) (fun (gy : Nat × Value) => [SlOld stEnc 15 152 w.heap.size none (some ⟨b0, o0, none⟩) sn sl, SlOld csEnc 2 158 w.heap.size none cA cn cl, SlOld vhEnc 2 160 w.heap.size none vA vn vl, SlOld plEnc 3 162 w.heap.size none pA pn pl, TxtO w.heap.size none]) (fun (gy : Nat × Value) => 7 - gy.1) (0, vv1) (by dsimp only; omega) ⟨rfl, rfl, rfl, rfl, rfl, rfl, rfl, rfl, rfl, trivial⟩ (fun _ hm => hm.pick [1, 2] [0] [0, 1, 2, 3, 4] rfl rfl) ?_
  rintro ⟨j, u_⟩ hinv
  replace hinv : j <= 7 := hinv
  dsimp only
  refine sr_ ?_
  have hj0 := hinv
  refine wl_ov (ov_lss rfl rfl) rfl (nn_ (gw_seq ?_))
  refine gw_cond rfl (fun hh => ?_) (fun hh => ?_)
  ·have hj : ((j : Nat) : Int) < 7 := by simpa using hh
   clear hh
   refine gw_skip (nx_then (gw_seq (gw_block (sr_ ?_))))
   obtain ⟨a, b, hab, hwin, ha, hb⟩ := win_at h0 h1 h2 h3 h4 h5 h6 h7 h8 h9 h10 h11 h12 h13 (show j < 7 by omega)
   have ia := hbd a ha
   have ib := hbd b hb
   have ea := itoa_sz ia
   have eb := itoa_sz ib
   have hsw := stw_len j hxk h14l hbd
   have hsz2 := stw_sz (x := flA (sl.take i)) j hsw
   obtain ⟨hsw1, hsw2⟩ := hsw
   refine wl_ov (ov_indexA (e := 27) (len := 7) (sz := 2) (i := j) (cs := [.int .i64 h0, .int .i64 h1, .int .i64 h2, .int .i64 h3, .int .i64 h4, .int .i64 h5, .int .i64 h6, .int .i64 h7, .int .i64 h8, .int .i64 h9, .int .i64 h10, .int .i64 h11, .int .i64 h12, .int .i64 h13]) (vs := [.int .i64 a, .int .i64 b]) (by kernel_rfl) rfl rfl (by omega) hab) rfl ?_
   refine wl_alloc zc27 rfl fun g4 => ?_
   refine wl_stores (cs' := [.int .i64 a, .int .i64 b]) 0 rz27 rfl rfl rfl rfl rfl rfl rfl rfl ?_
   refine nn_ ?_
   refine gd (fun wz => Blk wz g4 27 [.int .i64 a, .int .i64 b] /\ Blk wz g1 62 [.slice (some ⟨b0, o0, none⟩) sn sc, .slice cA cn cc, .slice vA vn vc, .slice pA pn pc] /\ (SlOld stEnc 15 152 w.heap.size none (some ⟨b0, o0, none⟩) sn sl) wz /\ (SlOld csEnc 2 158 w.heap.size none cA cn cl) wz /\ (SlOld vhEnc 2 160 w.heap.size none vA vn vl) wz /\ (SlOld plEnc 3 162 w.heap.size none pA pn pl) wz /\ (TxtO w.heap.size none) wz /\ True) mixed (fun _ hm => ⟨hm.bl 0, hm.bl 2, hm.fa 0, hm.fa 1, hm.fa 2, hm.fa 3, hm.fa 4, trivial⟩) fun z => ?_
   refine wt 0 14 1 rfl z (ov_field fo27_0 rfl rfl) ?_
   refine wt 1 14 3 rfl z (ov_load sc3 rfl (fun _ hm => hm.1) rfl) ?_
   refine wt 2 14 7 rfl z (ov_iface (by kernel_rfl) rfl) ?_
   refine wt 7 14 135 rfl z (ov_field fo27_1 rfl rfl) ?_
   refine wt 8 14 391 rfl z (ov_load sc3 rfl (fun _ hm => hm.1) rfl) ?_
   refine wt 9 14 903 rfl z (ov_iface (by kernel_rfl) rfl) ?_
   refine wa_all [3, 10] (by kernel_rfl) rfl ⟨⟨_, rfl, ?_⟩, ⟨_, rfl, ?_⟩, trivial⟩
   ·refine wl_buildSlice (e := 20) (cs := [.iface 3 (.int .i64 a)]) rfl (by kernel_rfl) rfl fun g5 => ?_
    refine wl_nil ?_
    refine nw 14 911 (fun _ hm => ⟨hm.bl 1, hm.bl 3, hm.fa 0, hm.fa 1, hm.fa 2, hm.fa 3, hm.fa 4, trivial⟩) fun z => ?_
    refine wa_all [4, 10] (by kernel_rfl) rfl ⟨⟨_, rfl, ?_⟩, ⟨_, rfl, ?_⟩, trivial⟩
    ·refine wl_callv (v := .string (itoaS a)) rfl cb73 rfl rfl (fun wx hm => (by have h := wjoin_any ([.n a] : List Pt) (some ⟨g5, 0, none⟩) 1 1 wx (hm.fact 4 rfl).1 (SlT.ofBlk (l := ([.n a] : List Pt)) pt_len (hm.blkI 0 rfl)) (by omega) (by omega) (ptk_cons (ia) ptk_nil); rw [show joinS (List.map ptS ([.n a] : List Pt)) ⟨#[32]⟩ = itoaS a from join_one _ _] at h; exact h)) ?_
     refine wl_nil ?_
     refine nw 14 927 (fun _ hm => ⟨hm.bl 1, hm.bl 3, hm.fa 0, hm.fa 1, hm.fa 2, hm.fa 3, hm.fa 4, trivial⟩) fun z => ?_
     refine wt 5 14 959 rfl z (ov_sadd rfl rfl (by (try unfold winT); (try simp only [ByteArray.size_append]); omega)) ?_
     refine wt 6 14 1023 rfl z (ov_sadd rfl rfl (by (try unfold winT); (try simp only [ByteArray.size_append]); omega)) ?_
     refine wa1 10 rfl ?_
     refine wl_buildSlice (e := 20) (cs := [.iface 3 (.int .i64 b)]) rfl (by kernel_rfl) rfl fun g6 => ?_
     refine wl_nil ?_
     refine nw 14 2047 (fun _ hm => ⟨hm.bl 2, hm.bl 4, hm.fa 0, hm.fa 1, hm.fa 2, hm.fa 3, hm.fa 4, trivial⟩) fun z => ?_
     refine wa1 11 rfl ?_
     refine wl_callv (v := .string (itoaS b)) rfl cb73 rfl rfl (fun wx hm => (by have h := wjoin_any ([.n b] : List Pt) (some ⟨g6, 0, none⟩) 1 1 wx (hm.fact 4 rfl).1 (SlT.ofBlk (l := ([.n b] : List Pt)) pt_len (hm.blkI 0 rfl)) (by omega) (by omega) (ptk_cons (ib) ptk_nil); rw [show joinS (List.map ptS ([.n b] : List Pt)) ⟨#[32]⟩ = itoaS b from join_one _ _] at h; exact h)) ?_
     refine wl_nil ?_
     refine nw 14 4095 (fun _ hm => ⟨hm.bl 2, hm.bl 4, hm.fa 0, hm.fa 1, hm.fa 2, hm.fa 3, hm.fa 4, trivial⟩) fun z => ?_
     refine wt 12 14 8191 rfl z (ov_sadd rfl rfl (by (try unfold winT); (try simp only [ByteArray.size_append]); omega)) ?_
     refine wa1 13 rfl ?_
     refine wl_callG (γ := Value) (val := fun _ => .tuple #[.int .i64 (((((⟨#[32]⟩ : ByteArray) ++ (itoaS a)) ++ (⟨#[45]⟩ : ByteArray)) ++ (itoaS b)).size : Int), .nilIface]) (φ := fun _ => True) (K' := fun _ => (fun _ => True)) (L' := fun g => [(g6, 20, [.iface 3 (.int .i64 b)]), (g5, 20, [.iface 3 (.int .i64 a)]), (g4, 27, [.int .i64 a, .int .i64 b]), (g2, 128, [.pointer (some ⟨g2, 0, none⟩), g]), (g1, 62, [.slice (some ⟨b0, o0, none⟩) sn sc, .slice cA cn cc, .slice vA vn vc, .slice pA pn pc])]) (O' := fun g => [⟨g, 5, 1, (Lib.byteCells ((flA (sl.take i) ++ (stHd k).data.toList) ++ winsL ([h0, h1, h2, h3, h4, h5, h6, h7, h8, h9, h10, h11, h12, h13].take (2 * j))) ++ Lib.strCells ((((⟨#[32]⟩ : ByteArray) ++ (itoaS a)) ++ (⟨#[45]⟩ : ByteArray)) ++ (itoaS b))).length, Lib.byteCells ((flA (sl.take i) ++ (stHd k).data.toList) ++ winsL ([h0, h1, h2, h3, h4, h5, h6, h7, h8, h9, h10, h11, h12, h13].take (2 * j))) ++ Lib.strCells ((((⟨#[32]⟩ : ByteArray) ++ (itoaS a)) ++ (⟨#[45]⟩ : ByteArray)) ++ (itoaS b))⟩]) (X' := fun _ => [SlOld stEnc 15 152 w.heap.size none (some ⟨b0, o0, none⟩) sn sl, SlOld csEnc 2 158 w.heap.size none cA cn cl, SlOld vhEnc 2 160 w.heap.size none vA vn vl, SlOld plEnc 3 162 w.heap.size none pA pn pl, TxtO w.heap.size none]) rfl cb72 rfl rfl (fun wx hm => (writeStringK w.heap.size g2 (Lib.byteCells ((flA (sl.take i) ++ (stHd k).data.toList) ++ winsL ([h0, h1, h2, h3, h4, h5, h6, h7, h8, h9, h10, h11, h12, h13].take (2 * j)))) ((((⟨#[32]⟩ : ByteArray) ++ (itoaS a)) ++ (⟨#[45]⟩ : ByteArray)) ++ (itoaS b)) wx (hm.isB 3 0 rfl rfl (.inr rfl)) (by simp only [List.length_append, Lib.byteCells_length]; (try unfold winT); (try simp only [ByteArray.size_append]); omega) hm.g.size).mono fun e w' ⟨he, h1, hb, hk⟩ => by
      obtain ⟨v, hM⟩ := hm.builtK 3 rfl (tys_ne rfl) h1 hb hk (oldX_cons (i := 0) SlOld.oldF rfl (oldX_cons (i := 1) SlOld.oldF rfl (oldX_cons (i := 2) SlOld.oldF rfl (oldX_cons (i := 3) SlOld.oldF rfl (oldX_cons (i := 4) TxtO.oldF rfl oldX_nil)))))
      exact ⟨v, he, trivial, hM⟩) ?_
     rintro vv2 _
     refine wl_nil ?_
     refine nw 14 16383 (fun _ hm => ⟨hm.bl 2, hm.bl 4, hm.fa 0, hm.fa 1, hm.fa 2, hm.fa 3, hm.fa 4, trivial⟩) fun z => ?_
     refine wa_done (by kernel_rfl) ?_
     refine nx_blk_nrm (nx_then (gw_region (ad_ rfl rfl (mv_ rfl (wl_nil ?_)))))
     rw [show Lib.byteCells ((flA (sl.take i) ++ (stHd k).data.toList) ++ winsL ([h0, h1, h2, h3, h4, h5, h6, h7, h8, h9, h10, h11, h12, h13].take (2 * j))) ++ Lib.strCells ((((⟨#[32]⟩ : ByteArray) ++ (itoaS a)) ++ (⟨#[45]⟩ : ByteArray)) ++ (itoaS b)) = Lib.byteCells ((flA (sl.take i) ++ (stHd k).data.toList) ++ winsL ([h0, h1, h2, h3, h4, h5, h6, h7, h8, h9, h10, h11, h12, h13].take (2 * (j + 1)))) from by rw [hwin, <- List.append_assoc, <- cells_app]; rfl]
     exact nx_round (j + 1, vv2) (by dsimp only; omega) (by dsimp only; omega) ⟨rfl, rfl, rfl, rfl, rfl, rfl, rfl, rfl, (some_int (by omega)), trivial⟩ (fun _ hm => hm.pick [3, 4] [0] [0, 1, 2, 3, 4] rfl rfl)
    refine wl_buildSlice (e := 20) (cs := [.iface 3 (.int .i64 b)]) rfl (by kernel_rfl) rfl fun g7 => ?_
    refine wl_nil ?_
    refine nw 14 1935 (fun _ hm => ⟨hm.bl 2, hm.bl 4, hm.fa 0, hm.fa 1, hm.fa 2, hm.fa 3, hm.fa 4, trivial⟩) fun z => ?_
    refine wa1 4 rfl ?_
    refine wl_callv (v := .string (itoaS a)) rfl cb73 rfl rfl (fun wx hm => (by have h := wjoin_any ([.n a] : List Pt) (some ⟨g5, 0, none⟩) 1 1 wx (hm.fact 4 rfl).1 (SlT.ofBlk (l := ([.n a] : List Pt)) pt_len (hm.blkI 1 rfl)) (by omega) (by omega) (ptk_cons (ia) ptk_nil); rw [show joinS (List.map ptS ([.n a] : List Pt)) ⟨#[32]⟩ = itoaS a from join_one _ _] at h; exact h)) ?_
    refine wl_nil ?_
    refine nw 14 1951 (fun _ hm => ⟨hm.bl 2, hm.bl 4, hm.fa 0, hm.fa 1, hm.fa 2, hm.fa 3, hm.fa 4, trivial⟩) fun z => ?_
    refine wt 5 14 1983 rfl z (ov_sadd rfl rfl (by (try unfold winT); (try simp only [ByteArray.size_append]); omega)) ?_
    refine wt 6 14 2047 rfl z (ov_sadd rfl rfl (by (try unfold winT); (try simp only [ByteArray.size_append]); omega)) ?_
    refine wa1 11 rfl ?_
    refine wl_callv (v := .string (itoaS b)) rfl cb73 rfl rfl (fun wx hm => (by have h := wjoin_any ([.n b] : List Pt) (some ⟨g7, 0, none⟩) 1 1 wx (hm.fact 4 rfl).1 (SlT.ofBlk (l := ([.n b] : List Pt)) pt_len (hm.blkI 0 rfl)) (by omega) (by omega) (ptk_cons (ib) ptk_nil); rw [show joinS (List.map ptS ([.n b] : List Pt)) ⟨#[32]⟩ = itoaS b from join_one _ _] at h; exact h)) ?_
    refine wl_nil ?_
    refine nw 14 4095 (fun _ hm => ⟨hm.bl 2, hm.bl 4, hm.fa 0, hm.fa 1, hm.fa 2, hm.fa 3, hm.fa 4, trivial⟩) fun z => ?_
    refine wt 12 14 8191 rfl z (ov_sadd rfl rfl (by (try unfold winT); (try simp only [ByteArray.size_append]); omega)) ?_
    refine wa1 13 rfl ?_
    refine wl_callG (γ := Value) (val := fun _ => .tuple #[.int .i64 (((((⟨#[32]⟩ : ByteArray) ++ (itoaS a)) ++ (⟨#[45]⟩ : ByteArray)) ++ (itoaS b)).size : Int), .nilIface]) (φ := fun _ => True) (K' := fun _ => (fun _ => True)) (L' := fun g => [(g7, 20, [.iface 3 (.int .i64 b)]), (g5, 20, [.iface 3 (.int .i64 a)]), (g4, 27, [.int .i64 a, .int .i64 b]), (g2, 128, [.pointer (some ⟨g2, 0, none⟩), g]), (g1, 62, [.slice (some ⟨b0, o0, none⟩) sn sc, .slice cA cn cc, .slice vA vn vc, .slice pA pn pc])]) (O' := fun g => [⟨g, 5, 1, (Lib.byteCells ((flA (sl.take i) ++ (stHd k).data.toList) ++ winsL ([h0, h1, h2, h3, h4, h5, h6, h7, h8, h9, h10, h11, h12, h13].take (2 * j))) ++ Lib.strCells ((((⟨#[32]⟩ : ByteArray) ++ (itoaS a)) ++ (⟨#[45]⟩ : ByteArray)) ++ (itoaS b))).length, Lib.byteCells ((flA (sl.take i) ++ (stHd k).data.toList) ++ winsL ([h0, h1, h2, h3, h4, h5, h6, h7, h8, h9, h10, h11, h12, h13].take (2 * j))) ++ Lib.strCells ((((⟨#[32]⟩ : ByteArray) ++ (itoaS a)) ++ (⟨#[45]⟩ : ByteArray)) ++ (itoaS b))⟩]) (X' := fun _ => [SlOld stEnc 15 152 w.heap.size none (some ⟨b0, o0, none⟩) sn sl, SlOld csEnc 2 158 w.heap.size none cA cn cl, SlOld vhEnc 2 160 w.heap.size none vA vn vl, SlOld plEnc 3 162 w.heap.size none pA pn pl, TxtO w.heap.size none]) rfl cb72 rfl rfl (fun wx hm => (writeStringK w.heap.size g2 (Lib.byteCells ((flA (sl.take i) ++ (stHd k).data.toList) ++ winsL ([h0, h1, h2, h3, h4, h5, h6, h7, h8, h9, h10, h11, h12, h13].take (2 * j)))) ((((⟨#[32]⟩ : ByteArray) ++ (itoaS a)) ++ (⟨#[45]⟩ : ByteArray)) ++ (itoaS b)) wx (hm.isB 3 0 rfl rfl (.inr rfl)) (by simp only [List.length_append, Lib.byteCells_length]; (try unfold winT); (try simp only [ByteArray.size_append]); omega) hm.g.size).mono fun e w' ⟨he, h1, hb, hk⟩ => by
     obtain ⟨v, hM⟩ := hm.builtK 3 rfl (tys_ne rfl) h1 hb hk (oldX_cons (i := 0) SlOld.oldF rfl (oldX_cons (i := 1) SlOld.oldF rfl (oldX_cons (i := 2) SlOld.oldF rfl (oldX_cons (i := 3) SlOld.oldF rfl (oldX_cons (i := 4) TxtO.oldF rfl oldX_nil)))))
     exact ⟨v, he, trivial, hM⟩) ?_
    rintro vv3 _
    refine wl_nil ?_
    refine nw 14 16383 (fun _ hm => ⟨hm.bl 2, hm.bl 4, hm.fa 0, hm.fa 1, hm.fa 2, hm.fa 3, hm.fa 4, trivial⟩) fun z => ?_
    refine wa_done (by kernel_rfl) ?_
    refine nx_blk_nrm (nx_then (gw_region (ad_ rfl rfl (mv_ rfl (wl_nil ?_)))))
    rw [show Lib.byteCells ((flA (sl.take i) ++ (stHd k).data.toList) ++ winsL ([h0, h1, h2, h3, h4, h5, h6, h7, h8, h9, h10, h11, h12, h13].take (2 * j))) ++ Lib.strCells ((((⟨#[32]⟩ : ByteArray) ++ (itoaS a)) ++ (⟨#[45]⟩ : ByteArray)) ++ (itoaS b)) = Lib.byteCells ((flA (sl.take i) ++ (stHd k).data.toList) ++ winsL ([h0, h1, h2, h3, h4, h5, h6, h7, h8, h9, h10, h11, h12, h13].take (2 * (j + 1)))) from by rw [hwin, <- List.append_assoc, <- cells_app]; rfl]
    exact nx_round (j + 1, vv3) (by dsimp only; omega) (by dsimp only; omega) ⟨rfl, rfl, rfl, rfl, rfl, rfl, rfl, rfl, (some_int (by omega)), trivial⟩ (fun _ hm => hm.pick [3, 4] [0] [0, 1, 2, 3, 4] rfl rfl)
   refine wl_buildSlice (e := 20) (cs := [.iface 3 (.int .i64 b)]) rfl (by kernel_rfl) rfl fun g8 => ?_
   refine wl_nil ?_
   refine nw 14 1927 (fun _ hm => ⟨hm.bl 1, hm.bl 3, hm.fa 0, hm.fa 1, hm.fa 2, hm.fa 3, hm.fa 4, trivial⟩) fun z => ?_
   refine wa1 3 rfl ?_
   refine wl_buildSlice (e := 20) (cs := [.iface 3 (.int .i64 a)]) rfl (by kernel_rfl) rfl fun g9 => ?_
   refine wl_nil ?_
   refine nw 14 1935 (fun _ hm => ⟨hm.bl 2, hm.bl 4, hm.fa 0, hm.fa 1, hm.fa 2, hm.fa 3, hm.fa 4, trivial⟩) fun z => ?_
   refine wa1 4 rfl ?_
   refine wl_callv (v := .string (itoaS a)) rfl cb73 rfl rfl (fun wx hm => (by have h := wjoin_any ([.n a] : List Pt) (some ⟨g9, 0, none⟩) 1 1 wx (hm.fact 4 rfl).1 (SlT.ofBlk (l := ([.n a] : List Pt)) pt_len (hm.blkI 0 rfl)) (by omega) (by omega) (ptk_cons (ia) ptk_nil); rw [show joinS (List.map ptS ([.n a] : List Pt)) ⟨#[32]⟩ = itoaS a from join_one _ _] at h; exact h)) ?_
   refine wl_nil ?_
   refine nw 14 1951 (fun _ hm => ⟨hm.bl 2, hm.bl 4, hm.fa 0, hm.fa 1, hm.fa 2, hm.fa 3, hm.fa 4, trivial⟩) fun z => ?_
   refine wt 5 14 1983 rfl z (ov_sadd rfl rfl (by (try unfold winT); (try simp only [ByteArray.size_append]); omega)) ?_
   refine wt 6 14 2047 rfl z (ov_sadd rfl rfl (by (try unfold winT); (try simp only [ByteArray.size_append]); omega)) ?_
   refine wa1 11 rfl ?_
   refine wl_callv (v := .string (itoaS b)) rfl cb73 rfl rfl (fun wx hm => (by have h := wjoin_any ([.n b] : List Pt) (some ⟨g8, 0, none⟩) 1 1 wx (hm.fact 4 rfl).1 (SlT.ofBlk (l := ([.n b] : List Pt)) pt_len (hm.blkI 1 rfl)) (by omega) (by omega) (ptk_cons (ib) ptk_nil); rw [show joinS (List.map ptS ([.n b] : List Pt)) ⟨#[32]⟩ = itoaS b from join_one _ _] at h; exact h)) ?_
   refine wl_nil ?_
   refine nw 14 4095 (fun _ hm => ⟨hm.bl 2, hm.bl 4, hm.fa 0, hm.fa 1, hm.fa 2, hm.fa 3, hm.fa 4, trivial⟩) fun z => ?_
   refine wt 12 14 8191 rfl z (ov_sadd rfl rfl (by (try unfold winT); (try simp only [ByteArray.size_append]); omega)) ?_
   refine wa1 13 rfl ?_
   refine wl_callG (γ := Value) (val := fun _ => .tuple #[.int .i64 (((((⟨#[32]⟩ : ByteArray) ++ (itoaS a)) ++ (⟨#[45]⟩ : ByteArray)) ++ (itoaS b)).size : Int), .nilIface]) (φ := fun _ => True) (K' := fun _ => (fun _ => True)) (L' := fun g => [(g9, 20, [.iface 3 (.int .i64 a)]), (g8, 20, [.iface 3 (.int .i64 b)]), (g4, 27, [.int .i64 a, .int .i64 b]), (g2, 128, [.pointer (some ⟨g2, 0, none⟩), g]), (g1, 62, [.slice (some ⟨b0, o0, none⟩) sn sc, .slice cA cn cc, .slice vA vn vc, .slice pA pn pc])]) (O' := fun g => [⟨g, 5, 1, (Lib.byteCells ((flA (sl.take i) ++ (stHd k).data.toList) ++ winsL ([h0, h1, h2, h3, h4, h5, h6, h7, h8, h9, h10, h11, h12, h13].take (2 * j))) ++ Lib.strCells ((((⟨#[32]⟩ : ByteArray) ++ (itoaS a)) ++ (⟨#[45]⟩ : ByteArray)) ++ (itoaS b))).length, Lib.byteCells ((flA (sl.take i) ++ (stHd k).data.toList) ++ winsL ([h0, h1, h2, h3, h4, h5, h6, h7, h8, h9, h10, h11, h12, h13].take (2 * j))) ++ Lib.strCells ((((⟨#[32]⟩ : ByteArray) ++ (itoaS a)) ++ (⟨#[45]⟩ : ByteArray)) ++ (itoaS b))⟩]) (X' := fun _ => [SlOld stEnc 15 152 w.heap.size none (some ⟨b0, o0, none⟩) sn sl, SlOld csEnc 2 158 w.heap.size none cA cn cl, SlOld vhEnc 2 160 w.heap.size none vA vn vl, SlOld plEnc 3 162 w.heap.size none pA pn pl, TxtO w.heap.size none]) rfl cb72 rfl rfl (fun wx hm => (writeStringK w.heap.size g2 (Lib.byteCells ((flA (sl.take i) ++ (stHd k).data.toList) ++ winsL ([h0, h1, h2, h3, h4, h5, h6, h7, h8, h9, h10, h11, h12, h13].take (2 * j)))) ((((⟨#[32]⟩ : ByteArray) ++ (itoaS a)) ++ (⟨#[45]⟩ : ByteArray)) ++ (itoaS b)) wx (hm.isB 3 0 rfl rfl (.inr rfl)) (by simp only [List.length_append, Lib.byteCells_length]; (try unfold winT); (try simp only [ByteArray.size_append]); omega) hm.g.size).mono fun e w' ⟨he, h1, hb, hk⟩ => by
    obtain ⟨v, hM⟩ := hm.builtK 3 rfl (tys_ne rfl) h1 hb hk (oldX_cons (i := 0) SlOld.oldF rfl (oldX_cons (i := 1) SlOld.oldF rfl (oldX_cons (i := 2) SlOld.oldF rfl (oldX_cons (i := 3) SlOld.oldF rfl (oldX_cons (i := 4) TxtO.oldF rfl oldX_nil)))))
    exact ⟨v, he, trivial, hM⟩) ?_
   rintro vv4 _
   refine wl_nil ?_
   refine nw 14 16383 (fun _ hm => ⟨hm.bl 2, hm.bl 4, hm.fa 0, hm.fa 1, hm.fa 2, hm.fa 3, hm.fa 4, trivial⟩) fun z => ?_
   refine wa_done (by kernel_rfl) ?_
   refine nx_blk_nrm (nx_then (gw_region (ad_ rfl rfl (mv_ rfl (wl_nil ?_)))))
   rw [show Lib.byteCells ((flA (sl.take i) ++ (stHd k).data.toList) ++ winsL ([h0, h1, h2, h3, h4, h5, h6, h7, h8, h9, h10, h11, h12, h13].take (2 * j))) ++ Lib.strCells ((((⟨#[32]⟩ : ByteArray) ++ (itoaS a)) ++ (⟨#[45]⟩ : ByteArray)) ++ (itoaS b)) = Lib.byteCells ((flA (sl.take i) ++ (stHd k).data.toList) ++ winsL ([h0, h1, h2, h3, h4, h5, h6, h7, h8, h9, h10, h11, h12, h13].take (2 * (j + 1)))) from by rw [hwin, <- List.append_assoc, <- cells_app]; rfl]
   exact nx_round (j + 1, vv4) (by dsimp only; omega) (by dsimp only; omega) ⟨rfl, rfl, rfl, rfl, rfl, rfl, rfl, rfl, (some_int (by omega)), trivial⟩ (fun _ hm => hm.pick [3, 4] [0] [0, 1, 2, 3, 4] rfl rfl)
  have hj : ¬ (((j : Nat) : Int) < 7) := by simpa using hh
  clear hh
  refine gw_exit ?_
  refine nx_then_exit (nx_then_exit ?_)
  refine nx_blk_here ?_
  refine nx_then (gw_region ?_)
  obtain rfl : j = 7 := by omega
  obtain ⟨hsw1, hsw2⟩ := stw_len 7 hxk h14l hbd
  refine wl_callG (γ := Value) (val := fun _ => .tuple #[.int .i64 (((⟨#[10]⟩ : ByteArray)).size : Int), .nilIface]) (φ := fun _ => True) (K' := fun _ => (fun _ => True)) (L' := fun g => [(g2, 128, [.pointer (some ⟨g2, 0, none⟩), g]), (g1, 62, [.slice (some ⟨b0, o0, none⟩) sn sc, .slice cA cn cc, .slice vA vn vc, .slice pA pn pc])]) (O' := fun g => [⟨g, 5, 1, (Lib.byteCells ((flA (sl.take i) ++ (stHd k).data.toList) ++ winsL ([h0, h1, h2, h3, h4, h5, h6, h7, h8, h9, h10, h11, h12, h13].take (2 * 7))) ++ Lib.strCells (⟨#[10]⟩ : ByteArray)).length, Lib.byteCells ((flA (sl.take i) ++ (stHd k).data.toList) ++ winsL ([h0, h1, h2, h3, h4, h5, h6, h7, h8, h9, h10, h11, h12, h13].take (2 * 7))) ++ Lib.strCells (⟨#[10]⟩ : ByteArray)⟩]) (X' := fun _ => [SlOld stEnc 15 152 w.heap.size none (some ⟨b0, o0, none⟩) sn sl, SlOld csEnc 2 158 w.heap.size none cA cn cl, SlOld vhEnc 2 160 w.heap.size none vA vn vl, SlOld plEnc 3 162 w.heap.size none pA pn pl, TxtO w.heap.size none]) rfl cb72 rfl rfl (fun wx hm => (writeStringK w.heap.size g2 (Lib.byteCells ((flA (sl.take i) ++ (stHd k).data.toList) ++ winsL ([h0, h1, h2, h3, h4, h5, h6, h7, h8, h9, h10, h11, h12, h13].take (2 * 7)))) (⟨#[10]⟩ : ByteArray) wx (hm.isB 0 0 rfl rfl (.inr rfl)) (by simp only [List.length_append, Lib.byteCells_length]; (try unfold winT); (try simp only [ByteArray.size_append]); omega) hm.g.size).mono fun e w' ⟨he, h1, hb, hk⟩ => by
   obtain ⟨v, hM⟩ := hm.builtK 0 rfl (tys_ne rfl) h1 hb hk (oldX_cons (i := 0) SlOld.oldF rfl (oldX_cons (i := 1) SlOld.oldF rfl (oldX_cons (i := 2) SlOld.oldF rfl (oldX_cons (i := 3) SlOld.oldF rfl (oldX_cons (i := 4) TxtO.oldF rfl oldX_nil)))))
   exact ⟨v, he, trivial, hM⟩) ?_
  rintro vv5 _
  refine wl_nil (nx_blk_nrm (nx_then (gw_region (ad_ rfl rfl (mv_ rfl (wl_nil ?_))))))
  rw [show Lib.byteCells ((flA (sl.take i) ++ (stHd k).data.toList) ++ winsL ([h0, h1, h2, h3, h4, h5, h6, h7, h8, h9, h10, h11, h12, h13].take (2 * 7))) ++ Lib.strCells (⟨#[10]⟩ : ByteArray) = Lib.byteCells (flA (sl.take (i + 1))) from by rw [flA_at hx]; exact stw_c7 _ _ h0 h1 h2 h3 h4 h5 h6 h7 h8 h9 h10 h11 h12 h13]
  exact nx_round (i + 1, .pointer (some ⟨g2, 0, none⟩), vv5) ⟨by dsimp only; omega, .inr rfl⟩ (by dsimp only; omega) ⟨rfl, rfl, rfl, rfl, rfl, rfl, (some_int (by omega)), trivial⟩ (fun _ hm => hm.pick [0, 1] [0] [0, 1, 2, 3, 4] rfl rfl)
 have hi : ¬ (((i : Nat) : Int) < ((sn : Nat) : Int)) := by simpa using hh
 clear hh
 refine gw_exit ?_
 refine nx_then_exit (nx_then_exit ?_)
 refine nx_blk_here ?_
 refine nx_then (gw_seq (sr_ ?_))
 have hlt0 : sl.take i = sl := List.take_of_length_le (by omega)
 rw [hlt0]
 clear hlt0 hi hi0
 refine fd_ fo62_1 rfl rfl (lk_ sc58 1 rfl rfl rfl (wl_ov (ov_len es58 rfl) rfl (mv_ rfl (nn_ (gw_block ?_)))))
 rw [show Lib.byteCells (flA (sl)) = Lib.byteCells (flB sl (cl.take 0)) from by rw [show cl.take 0 = [] from rfl, flB_nil]]
 refine gw_loop (γ := Nat × Value × Value) (fun (gz : Nat × Value × Value) => gz.1 <= cn /\ (gz.2.1 = .pointer none ∨ gz.2.1 = .pointer (some ⟨g2, 0, none⟩))) (fun (gz : Nat × Value × Value) => [(1, .pointer (some ⟨g1, 0, none⟩)), (2, .string ⟨#[]⟩), (3, .int .i64 0), (5, .pointer (some ⟨g2, 0, none⟩)), (55, .slice cA cn cc), (56, .int .i64 ((cn : Nat) : Int)), (57, .int .i64 ((gz.1 : Nat) : Int))]) (fun (gz : Nat × Value × Value) => fun _ => True) (fun (gz : Nat × Value × Value) => [(g2, 128, [gz.2.1, gz.2.2]), (g1, 62, [.slice sA sn sc, .slice cA cn cc, .slice vA vn vc, .slice pA pn pc])]) (fun (gz : Nat × Value × Value) => [⟨gz.2.2, 5, 1, (Lib.byteCells (flB sl (cl.take gz.1))).length, (Lib.byteCells (flB sl (cl.take gz.1)))⟩]) (fun (gz : Nat × Value × Value) => [SlOld stEnc 15 152 w.heap.size none sA sn sl, SlOld csEnc 2 158 w.heap.size none cA cn cl, SlOld vhEnc 2 160 w.heap.size none vA vn vl, SlOld plEnc 3 162 w.heap.size none pA pn pl, TxtO w.heap.size none]) (fun (gz : Nat × Value × Value) => cn - gz.1) (0, p_0, v_0) ⟨Nat.zero_le _, hp_0⟩ ⟨rfl, rfl, rfl, rfl, rfl, rfl, rfl, trivial⟩ (fun _ hm => hm.pick [0, 1] [0] [0, 1, 2, 3, 4] rfl rfl) ?_
 rintro ⟨i, p_1, v_1⟩ hinv
 replace hinv : i <= cn /\ (p_1 = .pointer none ∨ p_1 = .pointer (some ⟨g2, 0, none⟩)) := hinv
 dsimp only
 refine sr_ ?_
 obtain ⟨hi0, hp_1⟩ := hinv
 refine wl_ov (ov_lss rfl rfl) rfl (nn_ (gw_seq ?_))
 refine gw_cond rfl (fun hh => ?_) (fun hh => ?_)
 ·have hi : ((i : Nat) : Int) < ((cn : Nat) : Int) := by simpa using hh
  clear hh
  refine gw_skip (nx_then (gw_seq (gw_block (sr_ ?_))))
  obtain ⟨b1, o1, hA, _, _⟩ := hc.get (by omega)
  subst hA
  obtain ⟨x, hx⟩ : ∃ x, cl[i]? = some x := ⟨_, List.getElem?_eq_getElem (by omega)⟩
  obtain ⟨xk, xu⟩ := x
  have hxB := hB.2.1 _ (List.mem_of_getElem? hx)
  dsimp only at hxB
  have hdz := dsh_sz hxB.2
  have hJz : (joinS [⟨#[99, 108, 97, 115, 115]⟩, xk, dsh xu] ⟨#[32]⟩).size <= 303 := clJ_sz (x := ⟨xk, xu⟩) hxB
  have htk : (cl.take i).length <= cl.length := by rw [List.length_take]; omega
  obtain ⟨hfb, hfc, hfd⟩ := fl_len (sl := sl) (cl := (cl.take i)) (vl := vl) (pl := pl) ⟨hB.1, (fun x hx => hB.2.1 x (List.mem_of_mem_take hx)), hB.2.2.1, hB.2.2.2⟩ hsok
  have hmk := mkB_sz (flB sl (cl.take i))
  refine wl_ov (ov_index (j := i) es58 rfl rfl (by omega)) rfl ?_
  refine wl_ov (ov_elem (vs := [.string xk, .string xu]) rz158 rfl (fun _ hm => (hm.fact 1 rfl).1) hx rfl rfl) rfl ?_
  refine wl_alloc zc158 rfl fun g10 => ?_
  refine wl_stores (cs' := [.string xk, .string xu]) 0 rz158 rfl rfl rfl rfl rfl rfl rfl rfl ?_
  refine nn_ ?_
  refine gd (fun wz => Blk wz g10 158 [.string xk, .string xu] /\ Blk wz g1 62 [.slice sA sn sc, .slice (some ⟨b1, o1, none⟩) cn cc, .slice vA vn vc, .slice pA pn pc] /\ (SlOld stEnc 15 152 w.heap.size none sA sn sl) wz /\ (SlOld csEnc 2 158 w.heap.size none (some ⟨b1, o1, none⟩) cn cl) wz /\ (SlOld vhEnc 2 160 w.heap.size none vA vn vl) wz /\ (SlOld plEnc 3 162 w.heap.size none pA pn pl) wz /\ (TxtO w.heap.size none) wz /\ True) mixed (fun _ hm => ⟨hm.bl 0, hm.bl 2, hm.fa 0, hm.fa 1, hm.fa 2, hm.fa 3, hm.fa 4, trivial⟩) fun z => ?_
  refine wt 0 12 1 rfl z (ov_iface (by kernel_rfl) rfl) ?_
  refine wt 1 12 3 rfl z (ov_field fo158_0 rfl rfl) ?_
  refine wt 2 12 7 rfl z (ov_load sc9 rfl (fun _ hm => hm.1) rfl) ?_
  refine wt 3 12 15 rfl z (ov_iface (by kernel_rfl) rfl) ?_
  refine wt 4 12 31 rfl z (ov_field fo158_1 rfl rfl) ?_
  refine wt 5 12 63 rfl z (ov_load sc9 rfl (fun _ hm => hm.1) rfl) ?_
  refine wa1 6 rfl ?_
  refine wl_callv rfl cb107 rfl rfl (fun wx hm => (wdash_any xu wx)) ?_
  refine wl_nil ?_
  refine nw 12 127 (fun _ hm => ⟨hm.bl 0, hm.bl 2, hm.fa 0, hm.fa 1, hm.fa 2, hm.fa 3, hm.fa 4, trivial⟩) fun z => ?_
  refine wt 7 12 255 rfl z (ov_iface (by kernel_rfl) rfl) ?_
  refine wa1 8 rfl ?_
  refine wl_buildSlice (e := 20) (cs := [.iface 9 (.string ⟨#[99, 108, 97, 115, 115]⟩), .iface 9 (.string xk), .iface 9 (.string (dsh xu))]) rfl (by kernel_rfl) rfl fun g11 => ?_
  refine wl_nil ?_
  refine nw 12 511 (fun _ hm => ⟨hm.bl 1, hm.bl 3, hm.fa 0, hm.fa 1, hm.fa 2, hm.fa 3, hm.fa 4, trivial⟩) fun z => ?_
  refine wa1 9 rfl ?_
  refine wl_callv (v := .string (joinS [⟨#[99, 108, 97, 115, 115]⟩, xk, dsh xu] ⟨#[32]⟩)) rfl cb73 rfl rfl (fun wx hm => (by have h := wjoin_any ([.s ⟨#[99, 108, 97, 115, 115]⟩, .s xk, .s (dsh xu)] : List Pt) (some ⟨g11, 0, none⟩) 3 3 wx (hm.fact 4 rfl).1 (SlT.ofBlk (l := ([.s ⟨#[99, 108, 97, 115, 115]⟩, .s xk, .s (dsh xu)] : List Pt)) pt_len (hm.blkI 0 rfl)) (by omega) (by omega) (ptk_cons (show (⟨#[99, 108, 97, 115, 115]⟩ : ByteArray).size <= 1000000 from (by first | decide | omega)) (ptk_cons (show (xk : ByteArray).size <= 1000000 from (by first | decide | omega)) (ptk_cons (show (dsh xu : ByteArray).size <= 1000000 from (by first | decide | omega)) ptk_nil))); exact h)) ?_
  refine wl_nil ?_
  refine nw 12 1023 (fun _ hm => ⟨hm.bl 1, hm.bl 3, hm.fa 0, hm.fa 1, hm.fa 2, hm.fa 3, hm.fa 4, trivial⟩) fun z => ?_
  refine wt 10 12 2047 rfl z (ov_sadd rfl rfl (by (try unfold winT); (try simp only [ByteArray.size_append]); omega)) ?_
  refine wa1 11 rfl ?_
  refine wl_callG (γ := Value) (val := fun _ => .tuple #[.int .i64 (((joinS [⟨#[99, 108, 97, 115, 115]⟩, xk, dsh xu] ⟨#[32]⟩) ++ (⟨#[10]⟩ : ByteArray)).size : Int), .nilIface]) (φ := fun _ => True) (K' := fun _ => (fun _ => True)) (L' := fun g => [(g11, 20, [.iface 9 (.string ⟨#[99, 108, 97, 115, 115]⟩), .iface 9 (.string xk), .iface 9 (.string (dsh xu))]), (g10, 158, [.string xk, .string xu]), (g2, 128, [.pointer (some ⟨g2, 0, none⟩), g]), (g1, 62, [.slice sA sn sc, .slice (some ⟨b1, o1, none⟩) cn cc, .slice vA vn vc, .slice pA pn pc])]) (O' := fun g => [⟨g, 5, 1, (Lib.byteCells (flB sl (cl.take i)) ++ Lib.strCells ((joinS [⟨#[99, 108, 97, 115, 115]⟩, xk, dsh xu] ⟨#[32]⟩) ++ (⟨#[10]⟩ : ByteArray))).length, Lib.byteCells (flB sl (cl.take i)) ++ Lib.strCells ((joinS [⟨#[99, 108, 97, 115, 115]⟩, xk, dsh xu] ⟨#[32]⟩) ++ (⟨#[10]⟩ : ByteArray))⟩]) (X' := fun _ => [SlOld stEnc 15 152 w.heap.size none sA sn sl, SlOld csEnc 2 158 w.heap.size none (some ⟨b1, o1, none⟩) cn cl, SlOld vhEnc 2 160 w.heap.size none vA vn vl, SlOld plEnc 3 162 w.heap.size none pA pn pl, TxtO w.heap.size none]) rfl cb72 rfl rfl (fun wx hm => (writeStringK w.heap.size g2 (Lib.byteCells (flB sl (cl.take i))) ((joinS [⟨#[99, 108, 97, 115, 115]⟩, xk, dsh xu] ⟨#[32]⟩) ++ (⟨#[10]⟩ : ByteArray)) wx (hm.isB 2 0 rfl rfl hp_1) (by simp only [Lib.byteCells_length]; (try unfold winT); (try simp only [ByteArray.size_append]); omega) hm.g.size).mono fun e w' ⟨he, h1, hb, hk⟩ => by
   obtain ⟨v, hM⟩ := hm.builtK 2 rfl (tys_ne rfl) h1 hb hk (oldX_cons (i := 0) SlOld.oldF rfl (oldX_cons (i := 1) SlOld.oldF rfl (oldX_cons (i := 2) SlOld.oldF rfl (oldX_cons (i := 3) SlOld.oldF rfl (oldX_cons (i := 4) TxtO.oldF rfl oldX_nil)))))
   exact ⟨v, he, trivial, hM⟩) ?_
  rintro vv6 _
  refine wl_nil ?_
  refine nw 12 4095 (fun _ hm => ⟨hm.bl 1, hm.bl 3, hm.fa 0, hm.fa 1, hm.fa 2, hm.fa 3, hm.fa 4, trivial⟩) fun z => ?_
  refine wa_done (by kernel_rfl) ?_
  refine nx_blk_nrm (nx_then (gw_region (ad_ rfl rfl (mv_ rfl (wl_nil ?_)))))
  rw [show Lib.byteCells (flB sl (cl.take i)) ++ Lib.strCells ((joinS [⟨#[99, 108, 97, 115, 115]⟩, xk, dsh xu] ⟨#[32]⟩) ++ (⟨#[10]⟩ : ByteArray)) = Lib.byteCells (flB sl (cl.take (i + 1))) from by rw [cells_app, flB_at hx]; rfl]
  exact nx_round (i + 1, .pointer (some ⟨g2, 0, none⟩), vv6) ⟨by dsimp only; omega, .inr rfl⟩ (by dsimp only; omega) ⟨rfl, rfl, rfl, rfl, rfl, rfl, (some_int (by omega)), trivial⟩ (fun _ hm => hm.pick [2, 3] [0] [0, 1, 2, 3, 4] rfl rfl)
 have hi : ¬ (((i : Nat) : Int) < ((cn : Nat) : Int)) := by simpa using hh
 clear hh
 refine gw_exit ?_
 refine nx_then_exit (nx_then_exit ?_)
 refine nx_blk_here ?_
 refine nx_then (gw_seq (sr_ ?_))
 have hlt1 : cl.take i = cl := List.take_of_length_le (by omega)
 rw [hlt1]
 clear hlt1 hi hi0
 refine fd_ fo62_2 rfl rfl (lk_ sc59 1 rfl rfl rfl (wl_ov (ov_len es59 rfl) rfl (mv_ rfl (nn_ (gw_block ?_)))))
 rw [show Lib.byteCells (flB sl (cl)) = Lib.byteCells (flC sl cl (vl.take 0)) from by rw [show vl.take 0 = [] from rfl, flC_nil]]
 refine gw_loop (γ := Nat × Value × Value) (fun (gz : Nat × Value × Value) => gz.1 <= vn /\ (gz.2.1 = .pointer none ∨ gz.2.1 = .pointer (some ⟨g2, 0, none⟩))) (fun (gz : Nat × Value × Value) => [(1, .pointer (some ⟨g1, 0, none⟩)), (2, .string ⟨#[]⟩), (3, .int .i64 0), (5, .pointer (some ⟨g2, 0, none⟩)), (75, .slice vA vn vc), (76, .int .i64 ((vn : Nat) : Int)), (77, .int .i64 ((gz.1 : Nat) : Int))]) (fun (gz : Nat × Value × Value) => fun _ => True) (fun (gz : Nat × Value × Value) => [(g2, 128, [gz.2.1, gz.2.2]), (g1, 62, [.slice sA sn sc, .slice cA cn cc, .slice vA vn vc, .slice pA pn pc])]) (fun (gz : Nat × Value × Value) => [⟨gz.2.2, 5, 1, (Lib.byteCells (flC sl cl (vl.take gz.1))).length, (Lib.byteCells (flC sl cl (vl.take gz.1)))⟩]) (fun (gz : Nat × Value × Value) => [SlOld stEnc 15 152 w.heap.size none sA sn sl, SlOld csEnc 2 158 w.heap.size none cA cn cl, SlOld vhEnc 2 160 w.heap.size none vA vn vl, SlOld plEnc 3 162 w.heap.size none pA pn pl, TxtO w.heap.size none]) (fun (gz : Nat × Value × Value) => vn - gz.1) (0, p_1, v_1) ⟨Nat.zero_le _, hp_1⟩ ⟨rfl, rfl, rfl, rfl, rfl, rfl, rfl, trivial⟩ (fun _ hm => hm.pick [0, 1] [0] [0, 1, 2, 3, 4] rfl rfl) ?_
 rintro ⟨i, p_2, v_2⟩ hinv
 replace hinv : i <= vn /\ (p_2 = .pointer none ∨ p_2 = .pointer (some ⟨g2, 0, none⟩)) := hinv
 dsimp only
 refine sr_ ?_
 obtain ⟨hi0, hp_2⟩ := hinv
 refine wl_ov (ov_lss rfl rfl) rfl (nn_ (gw_seq ?_))
 refine gw_cond rfl (fun hh => ?_) (fun hh => ?_)
 ·have hi : ((i : Nat) : Int) < ((vn : Nat) : Int) := by simpa using hh
  clear hh
  refine gw_skip (nx_then (gw_seq (gw_block (sr_ ?_))))
  obtain ⟨b2, o2, hA, _, _⟩ := hv.get (by omega)
  subst hA
  obtain ⟨x, hx⟩ : ∃ x, vl[i]? = some x := ⟨_, List.getElem?_eq_getElem (by omega)⟩
  obtain ⟨xk, xc⟩ := x
  have hxB := hB.2.2.1 _ (List.mem_of_getElem? hx)
  dsimp only at hxB
  have hJz : (joinS [⟨#[118, 101, 104, 105, 99, 108, 101]⟩, xk, xc] ⟨#[32]⟩).size <= 303 := vhJ_sz (x := ⟨xk, xc⟩) hxB
  have htk : (vl.take i).length <= vl.length := by rw [List.length_take]; omega
  obtain ⟨hfb, hfc, hfd⟩ := fl_len (sl := sl) (cl := cl) (vl := (vl.take i)) (pl := pl) ⟨hB.1, hB.2.1, (fun x hx => hB.2.2.1 x (List.mem_of_mem_take hx)), hB.2.2.2⟩ hsok
  have hmk := mkB_sz (flC sl cl (vl.take i))
  refine wl_ov (ov_index (j := i) es59 rfl rfl (by omega)) rfl ?_
  refine wl_ov (ov_elem (vs := [.string xk, .string xc]) rz160 rfl (fun _ hm => (hm.fact 2 rfl).1) hx rfl rfl) rfl ?_
  refine wl_alloc zc160 rfl fun g12 => ?_
  refine wl_stores (cs' := [.string xk, .string xc]) 0 rz160 rfl rfl rfl rfl rfl rfl rfl rfl ?_
  refine nn_ (gw_region ?_)
  refine wl_ov (ov_iface (by kernel_rfl) rfl) rfl ?_
  refine fd_ fo160_0 rfl rfl (lk_ sc9 0 rfl rfl rfl ?_)
  refine wl_ov (ov_iface (by kernel_rfl) rfl) rfl ?_
  refine fd_ fo160_1 rfl rfl (lk_ sc9 0 rfl rfl rfl ?_)
  refine wl_ov (ov_iface (by kernel_rfl) rfl) rfl ?_
  refine wl_buildSlice (e := 20) (cs := [.iface 9 (.string ⟨#[118, 101, 104, 105, 99, 108, 101]⟩), .iface 9 (.string xk), .iface 9 (.string xc)]) rfl (by kernel_rfl) rfl fun g13 => ?_
  refine wl_callv (v := .string (joinS [⟨#[118, 101, 104, 105, 99, 108, 101]⟩, xk, xc] ⟨#[32]⟩)) rfl cb73 rfl rfl (fun wx hm => (by have h := wjoin_any ([.s ⟨#[118, 101, 104, 105, 99, 108, 101]⟩, .s xk, .s xc] : List Pt) (some ⟨g13, 0, none⟩) 3 3 wx (hm.fact 4 rfl).1 (SlT.ofBlk (l := ([.s ⟨#[118, 101, 104, 105, 99, 108, 101]⟩, .s xk, .s xc] : List Pt)) pt_len (hm.blkI 0 rfl)) (by omega) (by omega) (ptk_cons (show (⟨#[118, 101, 104, 105, 99, 108, 101]⟩ : ByteArray).size <= 1000000 from (by first | decide | omega)) (ptk_cons (show (xk : ByteArray).size <= 1000000 from (by first | decide | omega)) (ptk_cons (show (xc : ByteArray).size <= 1000000 from (by first | decide | omega)) ptk_nil))); exact h)) ?_
  refine wl_ov (ov_sadd rfl rfl (by (try unfold winT); (try simp only [ByteArray.size_append]); omega)) rfl ?_
  refine wl_callG (γ := Value) (val := fun _ => .tuple #[.int .i64 (((joinS [⟨#[118, 101, 104, 105, 99, 108, 101]⟩, xk, xc] ⟨#[32]⟩) ++ (⟨#[10]⟩ : ByteArray)).size : Int), .nilIface]) (φ := fun _ => True) (K' := fun _ => (fun _ => True)) (L' := fun g => [(g13, 20, [.iface 9 (.string ⟨#[118, 101, 104, 105, 99, 108, 101]⟩), .iface 9 (.string xk), .iface 9 (.string xc)]), (g12, 160, [.string xk, .string xc]), (g2, 128, [.pointer (some ⟨g2, 0, none⟩), g]), (g1, 62, [.slice sA sn sc, .slice cA cn cc, .slice (some ⟨b2, o2, none⟩) vn vc, .slice pA pn pc])]) (O' := fun g => [⟨g, 5, 1, (Lib.byteCells (flC sl cl (vl.take i)) ++ Lib.strCells ((joinS [⟨#[118, 101, 104, 105, 99, 108, 101]⟩, xk, xc] ⟨#[32]⟩) ++ (⟨#[10]⟩ : ByteArray))).length, Lib.byteCells (flC sl cl (vl.take i)) ++ Lib.strCells ((joinS [⟨#[118, 101, 104, 105, 99, 108, 101]⟩, xk, xc] ⟨#[32]⟩) ++ (⟨#[10]⟩ : ByteArray))⟩]) (X' := fun _ => [SlOld stEnc 15 152 w.heap.size none sA sn sl, SlOld csEnc 2 158 w.heap.size none cA cn cl, SlOld vhEnc 2 160 w.heap.size none (some ⟨b2, o2, none⟩) vn vl, SlOld plEnc 3 162 w.heap.size none pA pn pl, TxtO w.heap.size none]) rfl cb72 rfl rfl (fun wx hm => (writeStringK w.heap.size g2 (Lib.byteCells (flC sl cl (vl.take i))) ((joinS [⟨#[118, 101, 104, 105, 99, 108, 101]⟩, xk, xc] ⟨#[32]⟩) ++ (⟨#[10]⟩ : ByteArray)) wx (hm.isB 2 0 rfl rfl hp_2) (by simp only [Lib.byteCells_length]; (try unfold winT); (try simp only [ByteArray.size_append]); omega) hm.g.size).mono fun e w' ⟨he, h1, hb, hk⟩ => by
   obtain ⟨v, hM⟩ := hm.builtK 2 rfl (tys_ne rfl) h1 hb hk (oldX_cons (i := 0) SlOld.oldF rfl (oldX_cons (i := 1) SlOld.oldF rfl (oldX_cons (i := 2) SlOld.oldF rfl (oldX_cons (i := 3) SlOld.oldF rfl (oldX_cons (i := 4) TxtO.oldF rfl oldX_nil)))))
   exact ⟨v, he, trivial, hM⟩) ?_
  rintro vv7 _
  refine wl_nil (nx_blk_nrm (nx_then (gw_region (ad_ rfl rfl (mv_ rfl (wl_nil ?_))))))
  rw [show Lib.byteCells (flC sl cl (vl.take i)) ++ Lib.strCells ((joinS [⟨#[118, 101, 104, 105, 99, 108, 101]⟩, xk, xc] ⟨#[32]⟩) ++ (⟨#[10]⟩ : ByteArray)) = Lib.byteCells (flC sl cl (vl.take (i + 1))) from by rw [cells_app, flC_at hx]; rfl]
  exact nx_round (i + 1, .pointer (some ⟨g2, 0, none⟩), vv7) ⟨by dsimp only; omega, .inr rfl⟩ (by dsimp only; omega) ⟨rfl, rfl, rfl, rfl, rfl, rfl, (some_int (by omega)), trivial⟩ (fun _ hm => hm.pick [2, 3] [0] [0, 1, 2, 3, 4] rfl rfl)
 have hi : ¬ (((i : Nat) : Int) < ((vn : Nat) : Int)) := by simpa using hh
 clear hh
 refine gw_exit ?_
 refine nx_then_exit (nx_then_exit ?_)
 refine nx_blk_here ?_
 refine nx_then (gw_seq (sr_ ?_))
 have hlt2 : vl.take i = vl := List.take_of_length_le (by omega)
 rw [hlt2]
 clear hlt2 hi hi0
 refine fd_ fo62_3 rfl rfl (lk_ sc60 1 rfl rfl rfl (wl_ov (ov_len es60 rfl) rfl (mv_ rfl (nn_ (gw_block ?_)))))
 rw [show Lib.byteCells (flC sl cl (vl)) = Lib.byteCells (flD sl cl vl (pl.take 0)) from by rw [show pl.take 0 = [] from rfl, flD_nil]]
 refine gw_loop (γ := Nat × Value × Value) (fun (gz : Nat × Value × Value) => gz.1 <= pn /\ (gz.2.1 = .pointer none ∨ gz.2.1 = .pointer (some ⟨g2, 0, none⟩))) (fun (gz : Nat × Value × Value) => [(2, .string ⟨#[]⟩), (3, .int .i64 0), (5, .pointer (some ⟨g2, 0, none⟩)), (94, .slice pA pn pc), (95, .int .i64 ((pn : Nat) : Int)), (96, .int .i64 ((gz.1 : Nat) : Int))]) (fun (gz : Nat × Value × Value) => fun _ => True) (fun (gz : Nat × Value × Value) => [(g2, 128, [gz.2.1, gz.2.2]), (g1, 62, [.slice sA sn sc, .slice cA cn cc, .slice vA vn vc, .slice pA pn pc])]) (fun (gz : Nat × Value × Value) => [⟨gz.2.2, 5, 1, (Lib.byteCells (flD sl cl vl (pl.take gz.1))).length, (Lib.byteCells (flD sl cl vl (pl.take gz.1)))⟩]) (fun (gz : Nat × Value × Value) => [SlOld stEnc 15 152 w.heap.size none sA sn sl, SlOld csEnc 2 158 w.heap.size none cA cn cl, SlOld vhEnc 2 160 w.heap.size none vA vn vl, SlOld plEnc 3 162 w.heap.size none pA pn pl, TxtO w.heap.size none]) (fun (gz : Nat × Value × Value) => pn - gz.1) (0, p_2, v_2) ⟨Nat.zero_le _, hp_2⟩ ⟨rfl, rfl, rfl, rfl, rfl, rfl, trivial⟩ (fun _ hm => hm.pick [0, 1] [0] [0, 1, 2, 3, 4] rfl rfl) ?_
 rintro ⟨i, p_3, v_3⟩ hinv
 replace hinv : i <= pn /\ (p_3 = .pointer none ∨ p_3 = .pointer (some ⟨g2, 0, none⟩)) := hinv
 dsimp only
 refine sr_ ?_
 obtain ⟨hi0, hp_3⟩ := hinv
 refine wl_ov (ov_lss rfl rfl) rfl (nn_ (gw_seq ?_))
 refine gw_cond rfl (fun hh => ?_) (fun hh => ?_)
 ·have hi : ((i : Nat) : Int) < ((pn : Nat) : Int) := by simpa using hh
  clear hh
  refine gw_skip (nx_then (gw_seq (gw_block (sr_ ?_))))
  obtain ⟨b3, o3, hA, _, _⟩ := hp.get (by omega)
  subst hA
  obtain ⟨x, hx⟩ : ∃ x, pl[i]? = some x := ⟨_, List.getElem?_eq_getElem (by omega)⟩
  obtain ⟨xf, xv, xp⟩ := x
  have hxB := hB.2.2.2 _ (List.mem_of_getElem? hx)
  dsimp only at hxB
  have i1 : -9223372036854775808 <= xf /\ xf <= 9223372036854775807 := by omega
  have e1 := itoa_sz i1
  have hJz : (joinS [⟨#[112, 108, 97, 116, 101]⟩, itoaS xf, xv, xp] ⟨#[32]⟩).size <= 404 := plJ_sz (x := ⟨xf, xv, xp⟩) hxB
  have htk : (pl.take i).length <= pl.length := by rw [List.length_take]; omega
  obtain ⟨hfb, hfc, hfd⟩ := fl_len (sl := sl) (cl := cl) (vl := vl) (pl := (pl.take i)) ⟨hB.1, hB.2.1, hB.2.2.1, (fun x hx => hB.2.2.2 x (List.mem_of_mem_take hx))⟩ hsok
  have hmk := mkB_sz (flD sl cl vl (pl.take i))
  refine wl_ov (ov_index (j := i) es60 rfl rfl (by omega)) rfl ?_
  refine wl_ov (ov_elem (vs := [.int .i64 xf, .string xv, .string xp]) rz162 rfl (fun _ hm => (hm.fact 3 rfl).1) hx rfl rfl) rfl ?_
  refine wl_alloc zc162 rfl fun g14 => ?_
  refine wl_stores (cs' := [.int .i64 xf, .string xv, .string xp]) 0 rz162 rfl rfl rfl rfl rfl rfl rfl rfl ?_
  refine nn_ (gw_region ?_)
  refine wl_ov (ov_iface (by kernel_rfl) rfl) rfl ?_
  refine fd_ fo162_0 rfl rfl (lk_ sc3 0 rfl rfl rfl ?_)
  refine wl_ov (ov_iface (by kernel_rfl) rfl) rfl ?_
  refine fd_ fo162_1 rfl rfl (lk_ sc9 0 rfl rfl rfl ?_)
  refine wl_ov (ov_iface (by kernel_rfl) rfl) rfl ?_
  refine fd_ fo162_2 rfl rfl (lk_ sc9 0 rfl rfl rfl ?_)
  refine wl_ov (ov_iface (by kernel_rfl) rfl) rfl ?_
  refine wl_buildSlice (e := 20) (cs := [.iface 9 (.string ⟨#[112, 108, 97, 116, 101]⟩), .iface 3 (.int .i64 xf), .iface 9 (.string xv), .iface 9 (.string xp)]) rfl (by kernel_rfl) rfl fun g15 => ?_
  refine wl_callv (v := .string (joinS [⟨#[112, 108, 97, 116, 101]⟩, itoaS xf, xv, xp] ⟨#[32]⟩)) rfl cb73 rfl rfl (fun wx hm => (by have h := wjoin_any ([.s ⟨#[112, 108, 97, 116, 101]⟩, .n xf, .s xv, .s xp] : List Pt) (some ⟨g15, 0, none⟩) 4 4 wx (hm.fact 4 rfl).1 (SlT.ofBlk (l := ([.s ⟨#[112, 108, 97, 116, 101]⟩, .n xf, .s xv, .s xp] : List Pt)) pt_len (hm.blkI 0 rfl)) (by omega) (by omega) (ptk_cons (show (⟨#[112, 108, 97, 116, 101]⟩ : ByteArray).size <= 1000000 from (by first | decide | omega)) (ptk_cons (i1) (ptk_cons (show (xv : ByteArray).size <= 1000000 from (by first | decide | omega)) (ptk_cons (show (xp : ByteArray).size <= 1000000 from (by first | decide | omega)) ptk_nil)))); exact h)) ?_
  refine wl_ov (ov_sadd rfl rfl (by (try unfold winT); (try simp only [ByteArray.size_append]); omega)) rfl ?_
  refine wl_callG (γ := Value) (val := fun _ => .tuple #[.int .i64 (((joinS [⟨#[112, 108, 97, 116, 101]⟩, itoaS xf, xv, xp] ⟨#[32]⟩) ++ (⟨#[10]⟩ : ByteArray)).size : Int), .nilIface]) (φ := fun _ => True) (K' := fun _ => (fun _ => True)) (L' := fun g => [(g15, 20, [.iface 9 (.string ⟨#[112, 108, 97, 116, 101]⟩), .iface 3 (.int .i64 xf), .iface 9 (.string xv), .iface 9 (.string xp)]), (g14, 162, [.int .i64 xf, .string xv, .string xp]), (g2, 128, [.pointer (some ⟨g2, 0, none⟩), g]), (g1, 62, [.slice sA sn sc, .slice cA cn cc, .slice vA vn vc, .slice (some ⟨b3, o3, none⟩) pn pc])]) (O' := fun g => [⟨g, 5, 1, (Lib.byteCells (flD sl cl vl (pl.take i)) ++ Lib.strCells ((joinS [⟨#[112, 108, 97, 116, 101]⟩, itoaS xf, xv, xp] ⟨#[32]⟩) ++ (⟨#[10]⟩ : ByteArray))).length, Lib.byteCells (flD sl cl vl (pl.take i)) ++ Lib.strCells ((joinS [⟨#[112, 108, 97, 116, 101]⟩, itoaS xf, xv, xp] ⟨#[32]⟩) ++ (⟨#[10]⟩ : ByteArray))⟩]) (X' := fun _ => [SlOld stEnc 15 152 w.heap.size none sA sn sl, SlOld csEnc 2 158 w.heap.size none cA cn cl, SlOld vhEnc 2 160 w.heap.size none vA vn vl, SlOld plEnc 3 162 w.heap.size none (some ⟨b3, o3, none⟩) pn pl, TxtO w.heap.size none]) rfl cb72 rfl rfl (fun wx hm => (writeStringK w.heap.size g2 (Lib.byteCells (flD sl cl vl (pl.take i))) ((joinS [⟨#[112, 108, 97, 116, 101]⟩, itoaS xf, xv, xp] ⟨#[32]⟩) ++ (⟨#[10]⟩ : ByteArray)) wx (hm.isB 2 0 rfl rfl hp_3) (by simp only [Lib.byteCells_length]; (try unfold winT); (try simp only [ByteArray.size_append]); omega) hm.g.size).mono fun e w' ⟨he, h1, hb, hk⟩ => by
   obtain ⟨v, hM⟩ := hm.builtK 2 rfl (tys_ne rfl) h1 hb hk (oldX_cons (i := 0) SlOld.oldF rfl (oldX_cons (i := 1) SlOld.oldF rfl (oldX_cons (i := 2) SlOld.oldF rfl (oldX_cons (i := 3) SlOld.oldF rfl (oldX_cons (i := 4) TxtO.oldF rfl oldX_nil)))))
   exact ⟨v, he, trivial, hM⟩) ?_
  rintro vv8 _
  refine wl_nil (nx_blk_nrm (nx_then (gw_region (ad_ rfl rfl (mv_ rfl (wl_nil ?_))))))
  rw [show Lib.byteCells (flD sl cl vl (pl.take i)) ++ Lib.strCells ((joinS [⟨#[112, 108, 97, 116, 101]⟩, itoaS xf, xv, xp] ⟨#[32]⟩) ++ (⟨#[10]⟩ : ByteArray)) = Lib.byteCells (flD sl cl vl (pl.take (i + 1))) from by rw [cells_app, flD_at hx]; rfl]
  exact nx_round (i + 1, .pointer (some ⟨g2, 0, none⟩), vv8) ⟨by dsimp only; omega, .inr rfl⟩ (by dsimp only; omega) ⟨rfl, rfl, rfl, rfl, rfl, (some_int (by omega)), trivial⟩ (fun _ hm => hm.pick [2, 3] [0] [0, 1, 2, 3, 4] rfl rfl)
 have hi : ¬ (((i : Nat) : Int) < ((pn : Nat) : Int)) := by simpa using hh
 clear hh
 refine gw_exit ?_
 refine nx_then_exit (nx_then_exit ?_)
 refine nx_blk_here ?_
 refine nx_then (sr_ ?_)
 have hlt3 : pl.take i = pl := List.take_of_length_le (by omega)
 rw [hlt3]
 clear hlt3 hi hi0
 obtain ⟨hfb, hfc, hfd⟩ := fl_len (sl := sl) (cl := cl) (vl := vl) (pl := pl) hB hsok
 have hmk := mkB_sz (flD sl cl vl pl)
 refine wl_callG (γ := Unit) (val := fun _ => .string (mkB (flD sl cl vl pl))) (φ := fun _ => True) (K' := fun _ => (fun _ => True)) (L' := fun _ => []) (O' := fun _ => []) (X' := fun _ => [SlOld stEnc 15 152 w.heap.size none sA sn sl, SlOld csEnc 2 158 w.heap.size none cA cn cl, SlOld vhEnc 2 160 w.heap.size none vA vn vl, SlOld plEnc 3 162 w.heap.size none pA pn pl, TxtO w.heap.size none]) rfl cb74 rfl rfl (fun wx hm => (string_any w.heap.size g2 (flD sl cl vl pl) wx (hm.isB 0 0 rfl rfl hp_3) hm.g.size).mono fun e w' ⟨he, hb⟩ => ⟨(), he, trivial, hm.belowX hb (oldX_cons (i := 0) SlOld.oldF rfl (oldX_cons (i := 1) SlOld.oldF rfl (oldX_cons (i := 2) SlOld.oldF rfl (oldX_cons (i := 3) SlOld.oldF rfl (oldX_cons (i := 4) TxtO.oldF rfl oldX_nil)))))⟩) ?_
 rintro _ _
 refine wl_callv rfl cb108 rfl rfl (fun wx hm => (sized_any (mkB (flD sl cl vl pl)) wx (by omega))) ?_
 refine wl_ov (ov_extract rfl rfl) rfl (wl_ov (ov_extract rfl rfl) rfl (sg_ rfl (sg_ rfl (nn_ ?_))))
 refine gw_ret ?_
 refine nx_ret2 rfl rfl rfl fun wx hm => ?_
 exact ⟨rfl, hm.g⟩
end Go.Proofs.YtempjmpfdniecaaGreatDoor
namespace Go.Proofs.YtempjmpfdniecaaGreatDoor
open Go.RowKit
theorem legs_at {fr : Int} {l : List Lg} {k : Nat} {g : Lg} (h : l[k]? = some g) :
  legsE fr l (l.length - k) = if legE fr (prevOf l k) (decide (k + 1 = l.length)) g = 0 then legsE fr l (l.length - (k + 1)) else legE fr (prevOf l k) (decide (k + 1 = l.length)) g := by
 have hk := (List.getElem?_eq_some_iff.1 h).1
 obtain ⟨m, hm⟩ : ∃ m, l.length - k = m + 1 := ⟨l.length - k - 1, by omega⟩
 have hm2 : l.length - (k + 1) = m := by omega
 have hm3 : l.length - (m + 1) = k := by omega
 rw [hm, hm2]
 simp only [legsE, hm3, h]
 have : decide (m = 0) = decide (k + 1 = l.length) := by
  by_cases h : k + 1 = l.length <;> simp [h] <;> omega
 rw [this]
def HrOk (key driver : ByteArray) (l : List Lg) : Prop := key.size <= 1000000 /\ driver.size <= 1000000 /\ ∀ g ∈ l, LgOk g
theorem hireE_stop {key driver : ByteArray} {fr to_ : Int} {l : List Lg} {e : Int} (h : e = firstE [whenE (!keyB key || !keyB driver) 5, timeE fr to_]) (hne : e ≠ 0) : hireE ⟨key, driver, fr, to_, l⟩ = e := by
 unfold hireE
 simp only [firstE] at h ⊢
 split
 ·rename_i h1
  rw [if_pos h1] at h
  split
  ·rename_i h2
   rw [if_pos h2] at h
   exact absurd h hne
  ·rename_i h2
   rw [if_neg h2] at h
   exact h.symm
 ·rename_i h1
  rw [if_neg h1] at h
  exact h.symm
theorem firstE_pad (X : Int) : firstE [0, 0, X] = X := by
 show firstE [X] = X
 by_cases h : X = 0
 ·rw [h]; rfl
 ·simp [firstE, h]
theorem hireE_pass {key driver : ByteArray} {fr to_ : Int} {l : List Lg} (h : 0 = firstE [whenE (!keyB key || !keyB driver) 5, timeE fr to_]) : hireE ⟨key, driver, fr, to_, l⟩ = if l.length = 0 then 3 else if 20 < l.length then 2 else legsE fr l l.length := by
 have := firstE_two h.symm
 unfold hireE
 simp only [this.1, this.2]
 exact firstE_pad _
set_option maxRecDepth 100000 in
set_option maxHeartbeats 4000000 in
theorem hcheck_any (key driver : ByteArray) (fr to_ : Int) (l : List Lg) (A : Option Addr) (n c : Nat) (w : World) (hl : SlT lgEnc 9 135 w A n l) (hok : HrOk key driver l) (hn : n <= 1000000) :
    Calls Tryz.prog 12 #[.agg #[.string key, .string driver, .int .i64 fr, .int .i64 to_, .slice A n c]] w (GotE w (hireE ⟨key, driver, fr, to_, l⟩)) := by
  obtain ⟨E1, hE1⟩ : ∃ E, E = firstE [whenE (!keyB key || !keyB driver) 5, timeE fr to_] := ⟨_, rfl⟩
  have Hstop := Lib.hid (fun (h : E1 ≠ 0) => hireE_stop (l := l) hE1 h)
  have Hpass := Lib.hid (fun (h : E1 = 0) => hireE_pass (l := l) (h.symm.trans hE1))
  have Hl := Lib.hid hl.len
  have cK : ∀ w, Calls Tryz.prog 69 #[.string key] w fun e w' => e = .returned (.bool (keyB key)) /\ w' = w := fun w => flipw (isKey_any _ _ (by have := hok.1; omega))
  have cD : ∀ w, Calls Tryz.prog 69 #[.string driver] w fun e w' => e = .returned (.bool (keyB driver)) /\ w' = w := fun w => flipw (isKey_any _ _ (by have := hok.2.1; omega))
  have Hok := Lib.hid hok.2.2
  generalize keyB key = K at cK hE1
  generalize keyB driver = D at cD hE1
  obtain ⟨R, hR⟩ : ∃ R, R = hireE ⟨key, driver, fr, to_, l⟩ := ⟨_, rfl⟩
  rw [<- hR] at Hstop Hpass ⊢
  have CK := Lib.hid cK
  have CD := Lib.hid cD
  have HE1 := Lib.hid hE1
  clear cK cD hE1 hR hok
  obtain ⟨T, hT⟩ : ∃ T, T = timeE fr to_ := ⟨_, rfl⟩
  have cT : ∀ w, Calls Tryz.prog 70 #[.agg #[.int .i64 fr, .int .i64 to_]] w (GotE w T) := fun w => by rw [hT]; exact time_any _ _ _
  have CT := Lib.hid cT
  rw [<- hT] at HE1
  clear cT hT
  go_enter Tryz.func12, Tryz.ntmps12
  go_wp2_with fail
  have hB : Blk (w.alloc (.cells #[.string key, .string driver, .int .i64 fr, .int .i64 to_, .slice A n c] 30)) w.heap.size 30 [.string key, .string driver, .int .i64 fr, .int .i64 to_, .slice A n c] := Blk.at_ w rfl _ _
  have k0 := hB.cell_of (i := 0) (v := .string key) rfl
  have k1 := hB.cell_of (i := 1) (v := .string driver) rfl
  have k2 := hB.cell_of (i := 2) (v := .int .i64 fr) rfl
  have k3 := hB.cell_of (i := 3) (v := .int .i64 to_) rfl
  go_upto_region 1 with fail
  go_cut [3] (fun v wx => v = .int .i64 E1 /\ (w.alloc (.cells #[.string key, .string driver, .int .i64 fr, .int .i64 to_, .slice A n c] 30)).grownBy wx none)
  case first =>
    cases K
    · first | go_region_with (first
        | (go_at_call 70; refine (CT.out _).mono ?_; rintro e w4 ⟨rfl, hg4⟩)
        | (go_at_call 69; with_reducible refine (CK.out _).mono ?_; rintro e w3 ⟨rfl, rfl⟩)
        | (go_at_call 69; with_reducible refine (CD.out _).mono ?_; rintro e w3 ⟨rfl, rfl⟩)
        | (go_at_call 68; refine (when_any _ _ _).mono ?_; rintro e w5 ⟨rfl, rfl⟩)
        | (go_at_call 67; refine (first_any [whenE true 5, T] _ _ _ _ (Blk.at_ _ rfl _ _) (by simp)).mono ?_; rintro e w6 ⟨rfl, rfl⟩)) | fail
      all_goals
        go_wp2_with fail
        go_meet
        exact ⟨ret_val (by rw [HE1.out]; rfl), grow_alloc (grow_trans (grow_drew (World.grownBy.refl _ _)) hg4) _⟩
    · go_region_held3 (fun wx => wx.cell? ⟨w.heap.size, 0, none⟩ = some (.string key) /\ wx.cell? ⟨w.heap.size, 1, none⟩ = some (.string driver) /\ wx.cell? ⟨w.heap.size, 2, none⟩ = some (.int .i64 fr) /\ wx.cell? ⟨w.heap.size, 3, none⟩ = some (.int .i64 to_))
        (first
          | exact ⟨k0, k1, k2, k3⟩
          | exact q4
          | exact q5 _)
        (first
          | (go_at_call 70; refine (CT.out _).mono ?_; rintro e w4 ⟨rfl, hg4⟩; have hb2 := (hB.drewN 1).grown hg4 (by simp); have q5 := fun o => And.intro ((hb2.alloc o).cell_of (i := 0) (v := .string key) rfl) (And.intro ((hb2.alloc o).cell_of (i := 1) (v := .string driver) rfl) (And.intro ((hb2.alloc o).cell_of (i := 2) (v := .int .i64 fr) rfl) ((hb2.alloc o).cell_of (i := 3) (v := .int .i64 to_) rfl))); have q4 := And.intro (hb2.cell_of (i := 0) (v := .string key) rfl) (And.intro (hb2.cell_of (i := 1) (v := .string driver) rfl) (And.intro (hb2.cell_of (i := 2) (v := .int .i64 fr) rfl) (hb2.cell_of (i := 3) (v := .int .i64 to_) rfl))))
          | (go_at_call 69; with_reducible refine (CK.out _).mono ?_; rintro e w3 ⟨rfl, rfl⟩)
          | (go_at_call 69; with_reducible refine (CD.out _).mono ?_; rintro e w3 ⟨rfl, rfl⟩)
          | (go_at_call 68; refine (when_any _ _ _).mono ?_; rintro e w5 ⟨rfl, rfl⟩)
          | (go_at_call 67; refine (first_any [whenE (!D) 5, T] _ _ _ _ (Blk.at_ _ rfl _ _) (by simp)).mono ?_; rintro e w6 ⟨rfl, rfl⟩))
      all_goals
        go_wp2_with fail
        go_meet
        exact ⟨ret_val (by rw [HE1.out]; rfl), grow_alloc (grow_trans (grow_drew (World.grownBy.refl _ _)) hg4) _⟩
  case rest =>
    obtain ⟨rfl, hg1⟩ := hcut
    obtain ⟨w1, hw1⟩ : ∃ w1 : World, w1 = wc := ⟨_, rfl⟩
    rw [<- hw1] at hg1 ⊢
    clear hw1 k0 k1 k2 k3
    have hb := hB.grown hg1 (by simp)
    have hgw : w.grownBy w1 none := grow_trans (grow_alloc (World.grownBy.refl _ _) _) hg1
    clear hg1 hB
    by_cases h0 : E1 = 0
    · have HP := Lib.hid (Hpass.out h0)
      subst h0
      have k4 := hb.cell_of (i := 4) (v := .slice A n c) rfl
      by_cases hn0 : n = 0
      · have hq : ((n : Int) == 0) = true := by simpa using hn0
        have HF := Lib.hid (show R = 3 by rw [HP.out, if_pos (by rw [Hl.out]; exact hn0)])
        clear hn0
        go_wp2_with fail
        go_ret
        exact ⟨ret_int HF.out.symm, hgw⟩
      · have hq : ((n : Int) == 0) = false := by simpa using hn0
        by_cases h20 : 20 < n
        · have hq2 : decide ((20 : Int) < (n : Int)) = true := by simp; omega
          have hq3 : decide (20 < n) = true := by simpa using h20
          have HF := Lib.hid (show R = 2 by rw [HP.out, if_neg (by rw [Hl.out]; exact hn0), if_pos (by rw [Hl.out]; exact h20)])
          clear hn0
          go_wp2_with fail
          go_ret
          exact ⟨ret_int HF.out.symm, hgw⟩
        · have hq2 : decide ((20 : Int) < (n : Int)) = false := by simp; omega
          have hq3 : decide (20 < n) = false := by simpa using h20
          have HF := Lib.hid (show R = legsE fr l (l.length - 0) by rw [HP.out, if_neg (by rw [Hl.out]; exact hn0), if_neg (by rw [Hl.out]; exact h20)]; rfl)
          clear hn0 HP
          have hn20 : n <= 20 := by omega
          go_wp2_with fail
          go_loopw [38] (fun i wr => ∃ k : Nat, k <= n /\ i = .int .i64 k /\ R = legsE fr l (l.length - k) /\ w1.grownBy wr none) (fun i _ => n - (intOf i).toNat)
          case atStart => exact ⟨0, Nat.zero_le _, rfl, HF.out, World.grownBy.refl _ _⟩
          case round =>
            obtain ⟨k, hk, rfl, hE, hgr⟩ := hrel
            have HE := Lib.hid hE; clear hE
            by_cases hlt : k < n
            · have hlr := hl.grow0 (grow_trans hgw hgr)
              obtain ⟨g, hg⟩ : ∃ g, l[k]? = some g := ⟨_, List.getElem?_eq_getElem (by have := Hl.out; omega)⟩
              have hat := legs_at (fr := fr) hg
              obtain ⟨E, hEE⟩ : ∃ E, E = legE fr (prevOf l k) (decide (k + 1 = n)) g := ⟨_, rfl⟩
              rw [Hl.out, <- hEE] at hat
              rw [Hl.out] at HE
              have Hat := Lib.hid hat; clear hat
              have HEE := Lib.hid hEE; clear hEE
              have hbr := hb.grown hgr (by simp)
              have c0 := hbr.cell_of (i := 0) (v := .string key) rfl
              have c1 := hbr.cell_of (i := 1) (v := .string driver) rfl
              have c2 := hbr.cell_of (i := 2) (v := .int .i64 fr) rfl
              have c3 := hbr.cell_of (i := 3) (v := .int .i64 to_) rfl
              have c4 := hbr.cell_of (i := 4) (v := .slice A n c) rfl
              have Hg := Lib.hid hg
              clear hg
              go_wp2_with fail
              refine (checkLeg_any key driver fr to_ l A n c k g wr hlr Hg.out Hok.out hn).mono ?_
              rintro e w2 ⟨rfl, hg2⟩
              rw [<- HEE.out]
              by_cases hE0 : E = 0
              · have HN := Lib.hid (show R = legsE fr l (n - (k + 1)) by rw [HE.out, Hat.out, if_pos hE0])
                subst hE0
                go_wp2_with fail
                go_roundw
                case rel => exact ⟨k + 1, by omega, by go_num, by rw [HN.out, Hl.out], grow_trans hgr hg2⟩
                case measure => simp [intOf]; omega
              · have hne : (E != 0) = true := by simpa using hE0
                have HN := Lib.hid (show R = E by rw [HE.out, Hat.out, if_neg hE0])
                clear hE0
                go_wp2_with fail
                go_ret
                exact ⟨ret_int HN.out.symm, grow_trans hgw (grow_trans hgr hg2)⟩
            · have HN := Lib.hid (show R = 0 by rw [HE.out, Hl.out, show n - k = 0 by omega]; rfl)
              go_wp2_with fail
              go_ret
              exact ⟨ret_int HN.out.symm, grow_trans hgw hgr⟩
    · have hne : (E1 != 0) = true := by simpa using h0
      have HR := Lib.hid (Hstop.out h0)
      clear h0
      go_wp2_with fail
      go_ret
      exact ⟨ret_int HR.out.symm, hgw⟩
end Go.Proofs.YtempjmpfdniecaaGreatDoor
namespace Go.Proofs.YtempjmpfdniecaaGreatDoor
open Go.RowKit
def madeV (key driver : ByteArray) (fr to_ : Int) (A : Option Addr) (n c : Nat) (e : Int) : Value :=
 if e = 0 then .agg #[.string key, .string driver, .int .i64 fr, .int .i64 to_, .slice A n c] else .agg #[.string ⟨#[]⟩, .string ⟨#[]⟩, .int .i64 0, .int .i64 0, .slice none 0 0]
def GotVE (w : World) (v : Value) (e : Int) (d : Ending) (w' : World) : Prop := d = .returned (.tuple #[v, .int .i64 e]) /\ w.grownBy w' none
theorem info_hr : (Tryz.prog.info? 30).map (·.size) = some 5 := by kernel_rfl
theorem ret_blk_tmp {P : Program} {fn : Func} {R : Ending -> World -> Prop} {a : Act} {w : World} {p u : Tmp} {ty : TypeId} (h : fn.results = #[.cell p ty, .tmp u]) (g : Nat) (t : TypeId) (cs : List Value) (d : TypeDesc) (hb : Blk w g t cs)
  (hp : a.tmps.getD p undef = .pointer (some ⟨g, 0, none⟩)) (v : Value) (hv : a.tmps.getD u undef = v) (hu : P.underlying ty = some d) (hd : d.isRow = true) (n : Nat) (hi : (P.info? ty).map (·.size) = some n) (hn : cs.length = n) (hdf : a.defers = [])
  (hR : R (.returned (.tuple #[.agg cs.toArray, v])) w) : bodyPost P fn R .ret a w := by
 refine bodyPost_ret (?_ : (results fn a.tmps).run P w = .ok (.tuple #[.agg cs.toArray, v]) w) hdf hR
 have hl := run_loadVar_row (P := P) w g t ty cs.toArray (0, 0) d hb hu (by cases d <;> simp_all [TypeDesc.isRow]) (by simpa [hn] using hi)
 rw [results_cell_tmp h]
 simp only [hp, hv]
 simp only [asAddr, Sem.run_pure, Result.andThen_ok]
 rw [hl]
 rfl
set_option maxRecDepth 100000 in
set_option maxHeartbeats 1000000 in
theorem made_any (key driver : ByteArray) (fr to_ : Int) (l : List Lg) (A : Option Addr) (n c : Nat) (w : World) (hl : SlT lgEnc 9 135 w A n l) (hok : HrOk key driver l) (hn : n <= 1000000) :
    Calls Tryz.prog 90 #[.agg #[.string key, .string driver, .int .i64 fr, .int .i64 to_, .slice A n c]] w (GotVE w (madeV key driver fr to_ A n c (hireE ⟨key, driver, fr, to_, l⟩)) (hireE ⟨key, driver, fr, to_, l⟩)) := by
  obtain ⟨E, hE⟩ : ∃ E, E = hireE ⟨key, driver, fr, to_, l⟩ := ⟨_, rfl⟩
  rw [<- hE]
  have HE := Lib.hid hE
  clear hE
  go_enter Tryz.func90, Tryz.ntmps90
  go_wp2_with fail
  refine (hcheck_any key driver fr to_ l A n c _ ((hl.alloc _).alloc _) hok hn).mono ?_
  rintro e w1 ⟨rfl, hg1⟩
  rw [<- HE.out]
  have hb1 : Blk w1 (w.heap.size + 1) 30 [.string ⟨#[]⟩, .string ⟨#[]⟩, .int .i64 0, .int .i64 0, .slice none 0 0] := (Blk.at_ (w.alloc _) (by simp) _ _).grown hg1 (by simp)
  have hb0 : Blk w1 w.heap.size 30 [.string key, .string driver, .int .i64 fr, .int .i64 to_, .slice A n c] := ((Blk.at_ w rfl _ _).alloc _).grown hg1 (by simp)
  have hgw : w.grownBy w1 none := grow_trans (grow_alloc (grow_alloc (World.grownBy.refl _ _) _) _) hg1
  have hz : ∀ k, some (w.heap.size + 1) = some k -> w.heap.size <= k := fun k h => by cases h; omega
  clear hg1
  by_cases h0 : E = 0
  · have HV := Lib.hid (show madeV key driver fr to_ A n c E = .agg #[.string key, .string driver, .int .i64 fr, .int .i64 to_, .slice A n c] by rw [h0]; rfl)
    subst h0
    go_wp2_with (first
      | (with_reducible refine wpList_load_all rfl 30 (.tmp 1) rfl w.heap.size _ _ _ hb0 rfl Tryz.underlying30 rfl 5 info_hr rfl ?_)
      | (with_reducible refine wpList_store_all rfl 30 (.tmp 2) (.tmp 11) rfl (w.heap.size + 1) _ _ [.string key, .string driver, .int .i64 fr, .int .i64 to_, .slice A n c] hb1 rfl rfl 5 info_hr rfl rfl (by simp [Value.oneCell']) ?_
         intro w2 hb2 hg2))
    refine ret_blk_tmp (p := 2) (u := 3) (ty := 30) rfl (w.heap.size + 1) _ _ _ hb2 rfl (.int .i64 0) rfl Tryz.underlying30 rfl 5 info_hr rfl rfl ?_
    exact ⟨by rw [HV.out], grow_own hgw hg2 hz⟩
  · have hne : (E != 0) = true := by simpa using h0
    have HV := Lib.hid (show madeV key driver fr to_ A n c E = .agg #[.string ⟨#[]⟩, .string ⟨#[]⟩, .int .i64 0, .int .i64 0, .slice none 0 0] by unfold madeV; rw [if_neg h0])
    clear h0
    go_wp2_with (first
      | (with_reducible refine wpList_store_all rfl 30 (.tmp 2) (.tmp 9) rfl (w.heap.size + 1) _ _ [.string ⟨#[]⟩, .string ⟨#[]⟩, .int .i64 0, .int .i64 0, .slice none 0 0] hb1 rfl rfl 5 info_hr rfl rfl (by simp [Value.oneCell']) ?_
         intro w2 hb2 hg2))
    refine ret_blk_tmp (p := 2) (u := 3) (ty := 30) rfl (w.heap.size + 1) _ _ _ hb2 rfl (.int .i64 E) rfl Tryz.underlying30 rfl 5 info_hr rfl rfl ?_
    exact ⟨by rw [HV.out], grow_own hgw hg2 hz⟩
def startLeg (veh : ByteArray) (r : Rd) : Lg := ⟨veh, r, ⟨-1, ⟨#[]⟩, 0, 0⟩⟩
set_option maxRecDepth 100000 in
set_option maxHeartbeats 1000000 in
theorem start_any (key driver : ByteArray) (fr to_ : Int) (veh : ByteArray) (r : Rd) (w : World) (hk : key.size <= 1000000) (hd : driver.size <= 1000000) (hv : veh.size <= 1000000) (hr : RdOk r) :
    Calls Tryz.prog 96 #[.string key, .string driver, .agg #[.int .i64 fr, .int .i64 to_], .string veh, .agg (rdCells r).toArray] w (fun e w' => ∃ A,
      e = .returned (.tuple #[madeV key driver fr to_ A 1 1 (hireE ⟨key, driver, fr, to_, [startLeg veh r]⟩), .int .i64 (hireE ⟨key, driver, fr, to_, [startLeg veh r]⟩)]) /\ SlT lgEnc 9 135 w' A 1 [startLeg veh r] /\ w.grownBy w' none) := by
  obtain ⟨a1, s1, m1, f1⟩ := r
  have hok : HrOk key driver [startLeg veh ⟨a1, s1, m1, f1⟩] := ⟨hk, hd, fun g hg => by
    simp only [List.mem_singleton] at hg
    subst hg
    exact ⟨hv, hr, (by decide : (⟨#[]⟩ : ByteArray).size <= 1000000)⟩⟩
  show Calls Tryz.prog 96 #[.string key, .string driver, .agg #[.int .i64 fr, .int .i64 to_], .string veh, .agg #[.int .i64 a1, .string s1, .int .i64 m1, .int .i64 f1]] w _
  have Hok := Lib.hid hok
  clear hok
  obtain ⟨E, hE⟩ : ∃ E, E = hireE ⟨key, driver, fr, to_, [startLeg veh ⟨a1, s1, m1, f1⟩]⟩ := ⟨_, rfl⟩
  rw [<- hE]
  have HE := Lib.hid hE
  clear hE
  go_enter Tryz.func96, Tryz.ntmps96
  go_wp2_with fail
  refine (made_any key driver fr to_ [startLeg veh ⟨a1, s1, m1, f1⟩] (some ⟨w.heap.size + 3, 0, none⟩) 1 1 _ (SlT.ofBlk (l := [startLeg veh ⟨a1, s1, m1, f1⟩]) lg_len (Blk.at_ _ (by simp) _ _)) Hok.out (by omega)).mono ?_
  rintro e w1 ⟨rfl, hg1⟩
  rw [<- HE.out]
  clear HE Hok
  have hb1 : Blk w1 (w.heap.size + 2) 30 [.string ⟨#[]⟩, .string ⟨#[]⟩, .int .i64 0, .int .i64 0, .slice none 0 0] := ((Blk.at_ ((w.alloc _).alloc _) (by simp) _ _).alloc _).grown hg1 (by simp)
  have hl1 : SlT lgEnc 9 135 w1 (some ⟨w.heap.size + 3, 0, none⟩) 1 [startLeg veh ⟨a1, s1, m1, f1⟩] := (SlT.ofBlk (l := [startLeg veh ⟨a1, s1, m1, f1⟩]) lg_len (Blk.at_ (((w.alloc _).alloc _).alloc _) (by simp) _ _)).grow0 hg1
  have hgw : w.grownBy w1 none := grow_trans (grow_alloc (grow_alloc (grow_alloc (grow_alloc (World.grownBy.refl _ _) _) _) _) _) hg1
  have hz : ∀ k, some (w.heap.size + 2) = some k -> w.heap.size <= k := fun k h => by cases h; omega
  clear hg1
  by_cases h0 : E = 0
  · have hV : madeV key driver fr to_ (some ⟨w.heap.size + 3, 0, none⟩) 1 1 E = .agg #[.string key, .string driver, .int .i64 fr, .int .i64 to_, .slice (some ⟨w.heap.size + 3, 0, none⟩) 1 1] := by rw [h0]; rfl
    rw [hV]
    have HV := Lib.hid hV
    clear h0 hV
    go_wp2_with (first
      | (with_reducible refine wpList_store_all rfl 30 (.tmp 10) (.tmp 22) rfl (w.heap.size + 2) _ _ [.string key, .string driver, .int .i64 fr, .int .i64 to_, .slice (some ⟨w.heap.size + 3, 0, none⟩) 1 1] hb1 rfl rfl 5 info_hr rfl rfl (by simp [Value.oneCell']) ?_
         intro w2 hb2 hg2))
    refine ret_blk_tmp (p := 10) (u := 11) (ty := 30) rfl (w.heap.size + 2) _ _ _ hb2 rfl (.int .i64 E) rfl Tryz.underlying30 rfl 5 info_hr rfl rfl ?_
    exact ⟨some ⟨w.heap.size + 3, 0, none⟩, by rw [HV.out], hl1.grown hg2 hb1 (by decide), grow_own hgw hg2 hz⟩
  · have hV : madeV key driver fr to_ (some ⟨w.heap.size + 3, 0, none⟩) 1 1 E = .agg #[.string ⟨#[]⟩, .string ⟨#[]⟩, .int .i64 0, .int .i64 0, .slice none 0 0] := by unfold madeV; rw [if_neg h0]
    rw [hV]
    have HV := Lib.hid hV
    clear h0 hV
    go_wp2_with (first
      | (with_reducible refine wpList_store_all rfl 30 (.tmp 10) (.tmp 22) rfl (w.heap.size + 2) _ _ [.string ⟨#[]⟩, .string ⟨#[]⟩, .int .i64 0, .int .i64 0, .slice none 0 0] hb1 rfl rfl 5 info_hr rfl rfl (by simp [Value.oneCell']) ?_
         intro w2 hb2 hg2))
    refine ret_blk_tmp (p := 10) (u := 11) (ty := 30) rfl (w.heap.size + 2) _ _ _ hb2 rfl (.int .i64 E) rfl Tryz.underlying30 rfl 5 info_hr rfl rfl ?_
    exact ⟨some ⟨w.heap.size + 3, 0, none⟩, by rw [HV.out], hl1.grown hg2 hb1 (by decide), grow_own hgw hg2 hz⟩
end Go.Proofs.YtempjmpfdniecaaGreatDoor
namespace Go.Proofs.YtempjmpfdniecaaGreatDoor
open Go.RowKit
set_option maxRecDepth 100000 in
theorem win_same (a b : Int) (w : World) : (Op.equalIn 9998 27 (.agg #[.int .i64 a, .int .i64 b]) (.agg #[.int .i64 a, .int .i64 b])).run Tryz.prog w = .ok true w := by
 have hS : Tryz.prog.underlying 27 = some (.struct (Tryz.prog.fieldsOf 27)) := by kernel_rfl
 have hp : Tryz.prog.stoodInHeld 27 = false := by kernel_rfl
 rw [show (9998 : Nat) = 9997 + 1 from rfl, run_equalIn_agg w 9997 27 _ _ hS hp]
 simp only [Program.fieldsOf, Tryz.underlying27]
 have u3 := Tryz.underlying3
 clear hS hp
 go_simp
theorem win_part (cs : Array Value) (o : Nat) (w : World) : (part 27 cs o).run Tryz.prog w = .ok (.agg (cs.extract o (o + 2))) w := by
 have hS : Tryz.prog.underlying 27 = some (.struct (Tryz.prog.fieldsOf 27)) := by kernel_rfl
 obtain ⟨i, hi⟩ : ∃ i, Tryz.prog.info? 27 = some i := by
  cases h : Tryz.prog.info? 27 with
  | none => exact absurd (show (Tryz.prog.info? 27).isSome = true by kernel_rfl) (by rw [h]; simp)
  | some i => exact ⟨i, rfl⟩
 have hz : i.size = 2 := by
  have h2 : (Tryz.prog.info? 27).map (·.size) = some 2 := by kernel_rfl
  rw [hi] at h2
  exact Option.some.inj h2
 simp [part, isAgg, run_underlying hS]
theorem items_same (cs : Array Value) (w : World) : ∀ is : List Nat, (∀ i ∈ is, ∃ a b, cs.extract (i * 2) (i * 2 + 2) = #[.int .i64 a, .int .i64 b]) -> (Op.eqItems 9998 27 2 cs cs is).run Tryz.prog w = .ok true w
 | [], _ => rfl
 | i :: r, h => by
  obtain ⟨a, b, e⟩ := h i (List.mem_cons_self ..)
  have ih := items_same cs w r fun j hj => h j (List.mem_cons_of_mem _ hj)
  simp only [Op.eqItems, Sem.run_bind, win_part, Result.andThen_ok, e, win_same]
  exact ih
theorem arr_same (h0 h1 h2 h3 h4 h5 h6 h7 h8 h9 h10 h11 h12 h13 : Int) (w : World) : (Op.equalIn 9999 150 (.agg #[.int .i64 h0, .int .i64 h1, .int .i64 h2, .int .i64 h3, .int .i64 h4, .int .i64 h5, .int .i64 h6, .int .i64 h7, .int .i64 h8, .int .i64 h9, .int .i64 h10, .int .i64 h11, .int .i64 h12, .int .i64 h13]) (.agg #[.int .i64 h0, .int .i64 h1, .int .i64 h2, .int .i64 h3, .int .i64 h4, .int .i64 h5, .int .i64 h6, .int .i64 h7, .int .i64 h8, .int .i64 h9, .int .i64 h10, .int .i64 h11, .int .i64 h12, .int .i64 h13])).run Tryz.prog w = .ok true w := by
 have hu : Tryz.prog.underlying 150 = some (.array 7 27) := by kernel_rfl
 obtain ⟨i, hi⟩ : ∃ i, Tryz.prog.info? 27 = some i := by
  cases h : Tryz.prog.info? 27 with
  | none => exact absurd (show (Tryz.prog.info? 27).isSome = true by kernel_rfl) (by rw [h]; simp)
  | some i => exact ⟨i, rfl⟩
 have hc : Tryz.prog.cellsOf 27 = 2 := by kernel_rfl
 rw [show (9999 : Nat) = 9998 + 1 from rfl, run_equalIn_array w 9998 _ _ hu hi, hc]
 refine items_same _ w _ fun i hi => ?_
 rw [show List.range 7 = [0, 1, 2, 3, 4, 5, 6] from rfl] at hi
 simp only [List.mem_cons, List.not_mem_nil, or_false] at hi
 rcases hi with rfl | rfl | rfl | rfl | rfl | rfl | rfl <;> exact ⟨_, _, rfl⟩
set_option maxRecDepth 100000 in
theorem same_station_neq (k : ByteArray) (h0 h1 h2 h3 h4 h5 h6 h7 h8 h9 h10 h11 h12 h13 : Int) (w : World) : (binOp .neq 152 (.agg #[.string k, .int .i64 h0, .int .i64 h1, .int .i64 h2, .int .i64 h3, .int .i64 h4, .int .i64 h5, .int .i64 h6, .int .i64 h7, .int .i64 h8, .int .i64 h9, .int .i64 h10, .int .i64 h11, .int .i64 h12, .int .i64 h13]) (.agg #[.string k, .int .i64 h0, .int .i64 h1, .int .i64 h2, .int .i64 h3, .int .i64 h4, .int .i64 h5, .int .i64 h6, .int .i64 h7, .int .i64 h8, .int .i64 h9, .int .i64 h10, .int .i64 h11, .int .i64 h12, .int .i64 h13])).run Tryz.prog w = .ok (.bool false) w := by
 have hS : Tryz.prog.underlying 152 = some (.struct (Tryz.prog.fieldsOf 152)) := by kernel_rfl
 have hp : Tryz.prog.stoodInHeld 152 = false := by kernel_rfl
 rw [run_neq_struct, show (10000 : Nat) = 9999 + 1 from rfl, run_equalIn_agg w 9999 152 _ _ hS hp]
 simp only [Program.fieldsOf, Tryz.underlying152]
 have u9 := Tryz.underlying9
 have hA := fun w => arr_same h0 h1 h2 h3 h4 h5 h6 h7 h8 h9 h10 h11 h12 h13 w
 clear hS hp
 go_simp
theorem guard_station : Tryz.prog.eqGuardType Tryz.prog.depth 152 = false := by kernel_rfl
theorem list14e {l : List Int} (h : l.length = 14) : ∃ h0 h1 h2 h3 h4 h5 h6 h7 h8 h9 h10 h11 h12 h13, l = [h0, h1, h2, h3, h4, h5, h6, h7, h8, h9, h10, h11, h12, h13] := by
 match l, h with
 | [h0, h1, h2, h3, h4, h5, h6, h7, h8, h9, h10, h11, h12, h13], _ => exact ⟨h0, h1, h2, h3, h4, h5, h6, h7, h8, h9, h10, h11, h12, h13, rfl⟩
theorem equal_station_any (l : List St) (A1 A2 : Option Addr) (n c1 c2 : Nat) (w : World) (h1 : SlT stEnc 15 152 w A1 n l) (h2 : SlT stEnc 15 152 w A2 n l) (hok : ∀ x ∈ l, StOk x) (hn : n <= 1000000) :
  Calls Tryz.prog 111 #[.slice A1 n c1, .slice A2 n c2] w (fun e w' => e = .returned (.bool true) /\ w.grownBy w' none) := by
 refine gw_enter ⟨26, w, none, []⟩ Tryz.func111 rfl Tryz.ntmps111 rfl (mem0 (X := [SlOld stEnc 15 152 w.heap.size none A1 n l, SlOld stEnc 15 152 w.heap.size none A2 n l]) (allF_cons h1.old (allF_cons h2.old allF_nil)) (allL_cons SlOld.lasts (allL_cons SlOld.lasts allL_nil))) ?_
 refine sr_ ?_
 have hlen := h1.len
 refine sg_ rfl (nn_ (gw_seq (sr_ (mv_ rfl (wl_ov (ov_len es57 rfl) rfl (mv_ rfl (wl_ov (ov_len es57 rfl) rfl (wl_ov (ov_neq rfl rfl) rfl ?_))))))))
 refine wl_set 10 (v' := .bool false) rfl (congrArg Value.bool (by simp)) ?_
 refine nn_ (cf_ rfl (gw_skip (nx_then (gw_seq (sr_ (mv_ rfl (wl_ov (ov_len es57 rfl) rfl (mv_ rfl (nn_ (gw_block ?_))))))))))
 refine gw_loop (γ := Nat) (fun (i : Nat) => i <= n) (fun (i : Nat) => [(0, .slice A1 n c1), (1, .slice A2 n c2), (12, .int .i64 ((n : Nat) : Int)), (13, .int .i64 ((i : Nat) : Int))]) (fun (i : Nat) => fun _ => True) (fun (i : Nat) => []) (fun (i : Nat) => []) (fun (i : Nat) => [SlOld stEnc 15 152 w.heap.size none A1 n l, SlOld stEnc 15 152 w.heap.size none A2 n l]) (fun (i : Nat) => n - i) 0 (Nat.zero_le _) ⟨rfl, rfl, rfl, rfl, trivial⟩ (fun _ hm => hm.pick [] [] [0, 1] rfl rfl) ?_
 intro i hinv
 replace hinv : i <= n := hinv
 refine sr_ (wl_ov (ov_lss rfl rfl) rfl (nn_ (gw_seq ?_)))
 refine gw_cond rfl (fun hh => ?_) (fun hh => ?_)
 ·have hk : ((i : Nat) : Int) < ((n : Nat) : Int) := by simpa using hh
  clear hh
  refine gw_skip (nx_then (gw_seq (gw_block (sr_ ?_))))
  obtain ⟨b1, o1, hA, _, _⟩ := h1.get (by omega)
  subst hA
  obtain ⟨b2, o2, hA, _, _⟩ := h2.get (by omega)
  subst hA
  obtain ⟨x, hx⟩ : ∃ x, l[i]? = some x := ⟨_, List.getElem?_eq_getElem (by omega)⟩
  obtain ⟨k, hrs⟩ := x
  have hxo := hok _ (List.mem_of_getElem? hx)
  obtain ⟨h14, _, _⟩ := hxo
  dsimp only at h14
  obtain ⟨h0, h1, h2, h3, h4, h5, h6, h7, h8, h9, h10, h11, h12, h13, rfl⟩ := list14e h14
  refine mv_ rfl (sg_ rfl (nn_ (gw_seq ?_)))
  refine gd (fun wz => (SlOld stEnc 15 152 w.heap.size none (some ⟨b1, o1, none⟩) n l) wz /\ (SlOld stEnc 15 152 w.heap.size none (some ⟨b2, o2, none⟩) n l) wz /\ True) mixed (fun _ hm => ⟨hm.fa 0, hm.fa 1, trivial⟩) fun z => ?_
  refine wt 0 9 1 rfl z (ov_move rfl) ?_
  refine wt 1 9 3 rfl z (ov_move rfl) ?_
  refine wt 2 9 7 rfl z (ov_index (j := i) es57 rfl rfl (by omega)) ?_
  refine wt 3 9 15 rfl z (ov_elem (vs := [.string k, .int .i64 h0, .int .i64 h1, .int .i64 h2, .int .i64 h3, .int .i64 h4, .int .i64 h5, .int .i64 h6, .int .i64 h7, .int .i64 h8, .int .i64 h9, .int .i64 h10, .int .i64 h11, .int .i64 h12, .int .i64 h13]) rz152 rfl (fun _ hm => (hm.1).1) hx rfl rfl) ?_
  refine wt 4 9 31 rfl z (ov_move rfl) ?_
  refine wt 5 9 63 rfl z (ov_move rfl) ?_
  refine wt 6 9 127 rfl z (ov_index (j := i) es57 rfl rfl (by omega)) ?_
  refine wt 7 9 255 rfl z (ov_elem (vs := [.string k, .int .i64 h0, .int .i64 h1, .int .i64 h2, .int .i64 h3, .int .i64 h4, .int .i64 h5, .int .i64 h6, .int .i64 h7, .int .i64 h8, .int .i64 h9, .int .i64 h10, .int .i64 h11, .int .i64 h12, .int .i64 h13]) rz152 rfl (fun _ hm => (hm.2.1).1) hx rfl rfl) ?_
  refine wt 8 9 511 rfl z (ov_bin rfl rfl (cmp_agg guard_station (fun wx => same_station_neq k h0 h1 h2 h3 h4 h5 h6 h7 h8 h9 h10 h11 h12 h13 wx))) ?_
  refine wa_done (by kernel_rfl) ?_
  refine nx_then (cf_ rfl (gw_skip (nx_blk_nrm (nx_then (gw_region (ad_ rfl rfl (mv_ rfl (wl_nil ?_))))))))
  exact nx_round (i + 1) (by omega) (by omega) ⟨rfl, rfl, rfl, (some_int (by omega)), trivial⟩ (fun _ hm => hm.pick [] [] [0, 1] rfl rfl)
 have hk : ¬ (((i : Nat) : Int) < ((n : Nat) : Int)) := by simpa using hh
 clear hh
 refine gw_exit ?_
 refine nx_then_exit (nx_then_exit ?_)
 refine nx_blk_here ?_
 refine nx_then (sr_ (sg_ rfl (nn_ ?_)))
 refine gw_ret ?_
 refine nx_ret1 rfl rfl fun wx hm => ?_
 exact ⟨rfl, hm.g⟩
end Go.Proofs.YtempjmpfdniecaaGreatDoor
namespace Go.Proofs.YtempjmpfdniecaaGreatDoor
open Go.RowKit
theorem str_pos {t : ByteArray} (h : (t.toList == (⟨#[]⟩ : ByteArray).toList) = false) : 1 <= t.size := by
  by_cases h0 : t.size = 0
  · have e : t = ⟨#[]⟩ := by
      cases t with
      | mk a => exact congrArg ByteArray.mk (Array.eq_empty_of_size_eq_zero h0)
    rw [e] at h; simp at h
  · omega
theorem extract_hi2 (s : ByteArray) (i : Nat) : (s.extract 0 i).size <= i := by
 rw [ByteArray.size_extract]; omega
theorem extract_lo2 (s : ByteArray) (i : Nat) : (s.extract i s.size).size <= s.size - i := by
 rw [ByteArray.size_extract]; omega
theorem gchanged_any (tx wi : ByteArray) (w : World) (B sb m : Nat) (hS : Strm 25 w B sb m) (hm : m <= 100000000000) (htx : tx.size <= 1000000) (hwi : wi.size <= 1000) :
  Calls Tryz.prog 122 #[.pointer (some ⟨sb, 0, none⟩), .string tx, .string wi] w (fun e w' => ∃ v : ByteArray, e = .returned (.string v) /\ v.size <= tx.size + wi.size + 4 /\ Strm 25 w' B sb (m + 3) /\ w.grownBy w' (some sb)) := by
 refine gw_enter ⟨63, w, (some sb), []⟩ Tryz.func122 rfl Tryz.ntmps122 rfl (memS (X := []) hS allF_nil allL_nil) ?_
 refine sr_ (sg_ rfl (nn_ (gw_seq (sr_ (mv_ rfl (wl_ov (ov_seql rfl rfl) rfl (mv_ rfl ?_)))))))
 rcases Bool.eq_false_or_eq_true (tx.toList == (⟨#[]⟩ : ByteArray).toList) with h1 | h1
 ·refine wl_set 11 rfl (congrArg Value.bool h1) ?_
  refine goff rfl rfl rfl (goff rfl rfl rfl (pt_ rfl rfl (nn_ (ct_ rfl (sr_ (mv_ rfl (sg_ rfl (nn_ ?_))))))))
  refine gw_ret ?_
  refine nx_then_ret ?_
  refine nx_ret1 rfl rfl fun wx hm => ?_
  exact ⟨wi, rfl, (by (try simp only [ByteArray.size_append]); omega), hm.k.more (by omega), hm.g⟩
 refine wl_set 11 rfl (congrArg Value.bool h1) ?_
 refine wl_guard_on rfl rfl rfl (mv_ rfl (wl_guard_on rfl rfl rfl (wl_ov (ov_seql rfl rfl) rfl (pf_ rfl rfl (nn_ ?_)))))
 refine gw_cond rfl (fun hh => ?_) (fun hh => ?_)
 ·have h2 : (wi.toList == (⟨#[]⟩ : ByteArray).toList) = true := by simpa using hh
  clear hh
  refine sr_ (mv_ rfl (sg_ rfl (nn_ ?_)))
  refine gw_ret ?_
  refine nx_then_ret ?_
  refine nx_ret1 rfl rfl fun wx hm => ?_
  exact ⟨wi, rfl, (by (try simp only [ByteArray.size_append]); omega), hm.k.more (by omega), hm.g⟩
 have h2 : (wi.toList == (⟨#[]⟩ : ByteArray).toList) = false := by simpa using hh
 clear hh
 refine gw_skip (nx_then (sr_ ?_))
 have htx1 := str_pos h1
 have hwi1 := str_pos h2
 refine mv_ rfl (mv_ rfl ?_)
 refine wl_ov (ov_lens us9 rfl) rfl ?_
 refine wl_got (γ := Int) (val := fun v => .int .i64 v) (φ := fun v => IsBelow ((tx).size : Int) v) rfl cb66 rfl rfl rfl rfl (fun wx hm => (next_any _ wx B sb _ hm.k (by omega) (by omega) (by omega))) fun va hva => ?_
 have ha := isBelow_lt hva (by omega)
 refine sg_ rfl (nn_ (sr_ (mv_ rfl (mv_ rfl (mv_ rfl ?_)))))
 refine wl_ov (ov_lens us9 rfl) rfl ?_
 refine wl_got (γ := Int) (val := fun v => .int .i64 v) (φ := fun v => IsBelow ((wi).size : Int) v) rfl cb66 rfl rfl rfl rfl (fun wx hm => (next_any _ wx B sb _ hm.k (by omega) (by omega) (by omega))) fun vb hvb => ?_
 have hb := isBelow_lt hvb (by omega)
 have hbd := byteAt_bd wi vb
 refine wl_ov (ov_strIx us9 rfl rfl (by omega) (by omega)) rfl ?_
 refine sg_ rfl (nn_ (gw_seq (sr_ (mv_ rfl ?_))))
 refine wl_got (γ := Int) (val := fun v => .int .i64 v) (φ := fun v => IsBelow 3 v) rfl cb66 rfl rfl rfl rfl (fun wx hm => (next_any _ wx B sb _ hm.k (by omega) (by omega) (by omega))) fun vc hvc => ?_
 have e1 := extract_hi2 tx va.toNat
 have e2 := extract_lo2 tx (va + 1).toNat
 have e3 := encode_size (byteAt wi vb)
 have e4 := extract_lo2 tx va.toNat
 refine nn_ (gw_block (sr_ (wl_ov (ov_eql rfl rfl) rfl (sg_ rfl (nn_ ?_)))))
 refine gw_cond rfl (fun hh => ?_) (fun hh => ?_)
 ·have hc1 : vc = 0 := by simpa using hh
  clear hh
  refine gw_seq ?_
  refine gd (fun wz => True) mixed (fun _ _ => trivial) fun z => ?_
  refine wt 0 13 1 rfl z (ov_move rfl) ?_
  refine wt 1 13 3 rfl z (ov_move rfl) ?_
  refine wt 2 13 7 rfl z (ov_strHi us9 rfl rfl (by omega) (by omega)) ?_
  refine wt 3 13 15 rfl z (ov_move rfl) ?_
  refine wt 4 13 31 rfl z (ov_toI32 (by kernel_rfl) (by kernel_rfl) rfl (by omega) (by omega)) ?_
  refine wt 5 13 63 rfl z (ov_runeStr (by kernel_rfl) us9 rfl) ?_
  refine wt 6 13 127 rfl z (ov_sadd rfl rfl (by (try simp only [ByteArray.size_append]); omega)) ?_
  refine wt 7 13 255 rfl z (ov_move rfl) ?_
  refine wt 8 13 511 rfl z (ov_move rfl) ?_
  refine wt 9 13 1023 rfl z (ov_add rfl rfl (by omega) (by omega)) ?_
  refine wt 10 13 2047 rfl z (ov_strLo us9 rfl rfl (by omega) (by omega)) ?_
  refine wt 11 13 4095 rfl z (ov_sadd rfl rfl (by (try simp only [ByteArray.size_append]); omega)) ?_
  refine wt 12 13 8191 rfl z (ov_assign rfl) ?_
  refine wa_done (by kernel_rfl) ?_
  refine nx_then ?_
  refine gw_ret ?_
  refine nx_blk_ret (nx_then_ret ?_)
  refine nx_ret1 rfl rfl fun wx hm => ?_
  exact ⟨((tx.extract 0 va.toNat) ++ (Utf8.encode (byteAt wi vb))) ++ (tx.extract (va + 1).toNat tx.size), rfl, (by (try simp only [ByteArray.size_append]); omega), hm.k.more (by omega), hm.g⟩
 have hc1 : ¬ (vc = 0) := by simpa using hh
 clear hh
 refine sr_ (wl_ov (ov_eql rfl rfl) rfl (sg_ rfl (nn_ ?_)))
 refine gw_cond rfl (fun hh => ?_) (fun hh => ?_)
 ·have hc2 : vc = 1 := by simpa using hh
  clear hh
  refine gw_seq ?_
  refine gd (fun wz => True) mixed (fun _ _ => trivial) fun z => ?_
  refine wt 0 12 1 rfl z (ov_move rfl) ?_
  refine wt 1 12 3 rfl z (ov_move rfl) ?_
  refine wt 2 12 7 rfl z (ov_strHi us9 rfl rfl (by omega) (by omega)) ?_
  refine wt 3 12 15 rfl z (ov_move rfl) ?_
  refine wt 4 12 31 rfl z (ov_toI32 (by kernel_rfl) (by kernel_rfl) rfl (by omega) (by omega)) ?_
  refine wt 5 12 63 rfl z (ov_runeStr (by kernel_rfl) us9 rfl) ?_
  refine wt 6 12 127 rfl z (ov_sadd rfl rfl (by (try simp only [ByteArray.size_append]); omega)) ?_
  refine wt 7 12 255 rfl z (ov_move rfl) ?_
  refine wt 8 12 511 rfl z (ov_move rfl) ?_
  refine wt 9 12 1023 rfl z (ov_strLo us9 rfl rfl (by omega) (by omega)) ?_
  refine wt 10 12 2047 rfl z (ov_sadd rfl rfl (by (try simp only [ByteArray.size_append]); omega)) ?_
  refine wt 11 12 4095 rfl z (ov_assign rfl) ?_
  refine wa_done (by kernel_rfl) ?_
  refine nx_then ?_
  refine gw_ret ?_
  refine nx_blk_ret (nx_then_ret ?_)
  refine nx_ret1 rfl rfl fun wx hm => ?_
  exact ⟨((tx.extract 0 va.toNat) ++ (Utf8.encode (byteAt wi vb))) ++ (tx.extract va.toNat tx.size), rfl, (by (try simp only [ByteArray.size_append]); omega), hm.k.more (by omega), hm.g⟩
 have hc2 : ¬ (vc = 1) := by simpa using hh
 clear hh
 refine gw_skip (nx_blk_nrm (nx_then (gw_seq ?_)))
 refine gd (fun wz => True) mixed (fun _ _ => trivial) fun z => ?_
 refine wt 0 9 1 rfl z (ov_move rfl) ?_
 refine wt 1 9 3 rfl z (ov_move rfl) ?_
 refine wt 2 9 7 rfl z (ov_strHi us9 rfl rfl (by omega) (by omega)) ?_
 refine wt 3 9 15 rfl z (ov_move rfl) ?_
 refine wt 4 9 31 rfl z (ov_move rfl) ?_
 refine wt 5 9 63 rfl z (ov_add rfl rfl (by omega) (by omega)) ?_
 refine wt 6 9 127 rfl z (ov_strLo us9 rfl rfl (by omega) (by omega)) ?_
 refine wt 7 9 255 rfl z (ov_sadd rfl rfl (by (try simp only [ByteArray.size_append]); omega)) ?_
 refine wt 8 9 511 rfl z (ov_assign rfl) ?_
 refine wa_done (by kernel_rfl) ?_
 refine nx_then ?_
 refine gw_ret ?_
 refine nx_ret1 rfl rfl fun wx hm => ?_
 exact ⟨(tx.extract 0 va.toNat) ++ (tx.extract (va + 1).toNat tx.size), rfl, (by (try simp only [ByteArray.size_append]); omega), hm.k.more (by omega), hm.g⟩
end Go.Proofs.YtempjmpfdniecaaGreatDoor
namespace Go.Proofs.YtempjmpfdniecaaGreatDoor
open Go.RowKit Go.ChangeShapes
theorem var_at {P : Program} {w : World} {n : String} {g : Nat} {cs : Array Value} (hg : P.globalNamed n = some g) (h : w.var? P n = some cs) : ∃ T f, w.heap[g]? = some (.cells cs T f) := by
 unfold World.var? at h
 rw [hg] at h
 simp only [Option.bind_some] at h
 split at h
 ·rename_i c T f he
  cases h
  exact ⟨T, f, he⟩
 ·cases h
theorem star_err : "*" ++ "errors.errorString" = "*errors.errorString" := by decide
theorem row_err (u : TypeId) (h : Tryz.prog.typeName? 3 u = some "*errors.errorString") : u = 384 :=
 typeName_ptr_named (nm := "errors.errorString") (by rw [star_err]; kernel_rfl) (by kernel_rfl) (by decide) u (by rw [star_err]; exact h)
theorem txtW_of {l : List (String × DataW Unit)} {W : World} (x1 x2 : List UInt8) (hL : laidMet Tryz.prog l W) (hS : W.ShapedOpen Tryz.prog)
  (h1 : l.filter (fun x => x.1 == "internal/strconv.uint64pow10") = [("internal/strconv.uint64pow10", Lib.tabData .u64 Lib.pow10Tab)])
  (h2 : l.filter (fun x => x.1 == "strconv.ErrSyntax") = [("strconv.ErrSyntax", .iface "*errors.errorString" (.ptr (.agg [.lit (.string x1)])))])
  (h3 : l.filter (fun x => x.1 == "strconv.ErrRange") = [("strconv.ErrRange", .iface "*errors.errorString" (.ptr (.agg [.lit (.string x2)])))]) : TxtW W := by
 have c1 := hL.filter (fun x => x.1 == "internal/strconv.uint64pow10")
 have c2 := hL.filter (fun x => x.1 == "strconv.ErrSyntax")
 have c3 := hL.filter (fun x => x.1 == "strconv.ErrRange")
 rw [h1] at c1
 rw [h2] at c2
 rw [h3] at c3
 refine ⟨?_, ?_, ?_, ?_⟩
 ·have hg : Tryz.prog.globalNamed "internal/strconv.uint64pow10" = some 3 := by kernel_rfl
  have h := Lib.tabIs_of_head (t := 377) (e := 300) hg (by kernel_rfl) Tryz.underlying377 Tryz.underlying300 (by kernel_rfl) (by kernel_rfl) c1
  exact var_at hg h
 ·obtain ⟨m, hm⟩ := cell_of_shapedOpen_int (P := Tryz.prog) (g := 0) (t := 3) (zero := #[.int .i64 0]) hS (of_decide_eq_true (by kernel_rfl)) (by kernel_rfl) rfl (by kernel_rfl) (by kernel_rfl) Tryz.underlying3
  unfold World.cell? at hm
  split at hm
  ·rename_i c T f he
   exact ⟨c, T, f, m, he, by simpa using hm⟩
  ·cases hm
 ·have hg : Tryz.prog.globalNamed "strconv.ErrSyntax" = some 1 := by kernel_rfl
  obtain ⟨a, s, hv, _⟩ := laid_sentinel c2 hg (by kernel_rfl) Tryz.underlying130 row_err Tryz.underlying384 Tryz.underlying386 rfl rfl Tryz.underlying9 (by kernel_rfl) (by kernel_rfl)
  obtain ⟨T, f, h⟩ := var_at hg hv
  exact ⟨T, f, _, _, h⟩
 ·have hg : Tryz.prog.globalNamed "strconv.ErrRange" = some 2 := by kernel_rfl
  obtain ⟨a, s, hv, _⟩ := laid_sentinel c3 hg (by kernel_rfl) Tryz.underlying130 row_err Tryz.underlying384 Tryz.underlying386 rfl rfl Tryz.underlying9 (by kernel_rfl) (by kernel_rfl)
  obtain ⟨T, f, h⟩ := var_at hg hv
  exact ⟨T, f, _, _, h⟩
end Go.Proofs.YtempjmpfdniecaaGreatDoor
namespace Go.Proofs.YtempjmpfdniecaaGreatDoor
open Go.RowKit
set_option maxRecDepth 100000 in
theorem same_class_neq (x0 : ByteArray) (x1 : ByteArray) (w : World) : (binOp .neq 158 (.agg #[.string x0, .string x1]) (.agg #[.string x0, .string x1])).run Tryz.prog w = .ok (.bool false) w := by
 have hS : Tryz.prog.underlying 158 = some (.struct (Tryz.prog.fieldsOf 158)) := by kernel_rfl
 have hp : Tryz.prog.stoodInHeld 158 = false := by kernel_rfl
 rw [run_neq_struct, show (10000 : Nat) = 9999 + 1 from rfl, run_equalIn_agg w 9999 158 _ _ hS hp]
 simp only [Program.fieldsOf, Tryz.underlying158]
 have u3 := Tryz.underlying3
 have u9 := Tryz.underlying9
 clear hS hp
 go_simp
theorem guard_class : Tryz.prog.eqGuardType Tryz.prog.depth 158 = false := by kernel_rfl
theorem equal_class_any (l : List Cs) (A1 A2 : Option Addr) (n c1 c2 : Nat) (w : World) (h1 : SlT csEnc 2 158 w A1 n l) (h2 : SlT csEnc 2 158 w A2 n l) (hn : n <= 1000000) :
  Calls Tryz.prog 112 #[.slice A1 n c1, .slice A2 n c2] w (fun e w' => e = .returned (.bool true) /\ w.grownBy w' none) := by
 refine gw_enter ⟨26, w, none, []⟩ Tryz.func112 rfl Tryz.ntmps112 rfl (mem0 (X := [SlOld csEnc 2 158 w.heap.size none A1 n l, SlOld csEnc 2 158 w.heap.size none A2 n l]) (allF_cons h1.old (allF_cons h2.old allF_nil)) (allL_cons SlOld.lasts (allL_cons SlOld.lasts allL_nil))) ?_
 refine sr_ ?_
 have hlen := h1.len
 refine sg_ rfl (nn_ (gw_seq (sr_ (mv_ rfl (wl_ov (ov_len es58 rfl) rfl (mv_ rfl (wl_ov (ov_len es58 rfl) rfl (wl_ov (ov_neq rfl rfl) rfl ?_))))))))
 refine wl_set 10 (v' := .bool false) rfl (congrArg Value.bool (by simp)) ?_
 refine nn_ (cf_ rfl (gw_skip (nx_then (gw_seq (sr_ (mv_ rfl (wl_ov (ov_len es58 rfl) rfl (mv_ rfl (nn_ (gw_block ?_))))))))))
 refine gw_loop (γ := Nat) (fun (k : Nat) => k <= n) (fun (k : Nat) => [(0, .slice A1 n c1), (1, .slice A2 n c2), (12, .int .i64 ((n : Nat) : Int)), (13, .int .i64 ((k : Nat) : Int))]) (fun (k : Nat) => fun _ => True) (fun (k : Nat) => []) (fun (k : Nat) => []) (fun (k : Nat) => [SlOld csEnc 2 158 w.heap.size none A1 n l, SlOld csEnc 2 158 w.heap.size none A2 n l]) (fun (k : Nat) => n - k) 0 (Nat.zero_le _) ⟨rfl, rfl, rfl, rfl, trivial⟩ (fun _ hm => hm.pick [] [] [0, 1] rfl rfl) ?_
 intro k hinv
 replace hinv : k <= n := hinv
 refine sr_ (wl_ov (ov_lss rfl rfl) rfl (nn_ (gw_seq ?_)))
 refine gw_cond rfl (fun hh => ?_) (fun hh => ?_)
 ·have hk : ((k : Nat) : Int) < ((n : Nat) : Int) := by simpa using hh
  clear hh
  refine gw_skip (nx_then (gw_seq (gw_block (sr_ ?_))))
  obtain ⟨b1, o1, hA, _, _⟩ := h1.get (by omega)
  subst hA
  obtain ⟨b2, o2, hA, _, _⟩ := h2.get (by omega)
  subst hA
  obtain ⟨x, hx⟩ : ∃ x, l[k]? = some x := ⟨_, List.getElem?_eq_getElem (by omega)⟩
  obtain ⟨x0, x1⟩ := x
  refine mv_ rfl (sg_ rfl (nn_ (gw_seq ?_)))
  refine gd (fun wz => (SlOld csEnc 2 158 w.heap.size none (some ⟨b1, o1, none⟩) n l) wz /\ (SlOld csEnc 2 158 w.heap.size none (some ⟨b2, o2, none⟩) n l) wz /\ True) mixed (fun _ hm => ⟨hm.fa 0, hm.fa 1, trivial⟩) fun z => ?_
  refine wt 0 9 1 rfl z (ov_move rfl) ?_
  refine wt 1 9 3 rfl z (ov_move rfl) ?_
  refine wt 2 9 7 rfl z (ov_index (j := k) es58 rfl rfl (by omega)) ?_
  refine wt 3 9 15 rfl z (ov_elem (vs := [.string x0, .string x1]) rz158 rfl (fun _ hm => (hm.1).1) hx rfl rfl) ?_
  refine wt 4 9 31 rfl z (ov_move rfl) ?_
  refine wt 5 9 63 rfl z (ov_move rfl) ?_
  refine wt 6 9 127 rfl z (ov_index (j := k) es58 rfl rfl (by omega)) ?_
  refine wt 7 9 255 rfl z (ov_elem (vs := [.string x0, .string x1]) rz158 rfl (fun _ hm => (hm.2.1).1) hx rfl rfl) ?_
  refine wt 8 9 511 rfl z (ov_bin rfl rfl (cmp_agg guard_class (fun wx => same_class_neq x0 x1 wx))) ?_
  refine wa_done (by kernel_rfl) ?_
  refine nx_then (cf_ rfl (gw_skip (nx_blk_nrm (nx_then (gw_region (ad_ rfl rfl (mv_ rfl (wl_nil ?_))))))))
  exact nx_round (k + 1) (by omega) (by omega) ⟨rfl, rfl, rfl, (some_int (by omega)), trivial⟩ (fun _ hm => hm.pick [] [] [0, 1] rfl rfl)
 have hk : ¬ (((k : Nat) : Int) < ((n : Nat) : Int)) := by simpa using hh
 clear hh
 refine gw_exit ?_
 refine nx_then_exit (nx_then_exit ?_)
 refine nx_blk_here ?_
 refine nx_then (sr_ (sg_ rfl (nn_ ?_)))
 refine gw_ret ?_
 refine nx_ret1 rfl rfl fun wx hm => ?_
 exact ⟨rfl, hm.g⟩
set_option maxRecDepth 100000 in
theorem same_vehicle_neq (x0 : ByteArray) (x1 : ByteArray) (w : World) : (binOp .neq 160 (.agg #[.string x0, .string x1]) (.agg #[.string x0, .string x1])).run Tryz.prog w = .ok (.bool false) w := by
 have hS : Tryz.prog.underlying 160 = some (.struct (Tryz.prog.fieldsOf 160)) := by kernel_rfl
 have hp : Tryz.prog.stoodInHeld 160 = false := by kernel_rfl
 rw [run_neq_struct, show (10000 : Nat) = 9999 + 1 from rfl, run_equalIn_agg w 9999 160 _ _ hS hp]
 simp only [Program.fieldsOf, Tryz.underlying160]
 have u3 := Tryz.underlying3
 have u9 := Tryz.underlying9
 clear hS hp
 go_simp
theorem guard_vehicle : Tryz.prog.eqGuardType Tryz.prog.depth 160 = false := by kernel_rfl
theorem equal_vehicle_any (l : List Vh) (A1 A2 : Option Addr) (n c1 c2 : Nat) (w : World) (h1 : SlT vhEnc 2 160 w A1 n l) (h2 : SlT vhEnc 2 160 w A2 n l) (hn : n <= 1000000) :
  Calls Tryz.prog 113 #[.slice A1 n c1, .slice A2 n c2] w (fun e w' => e = .returned (.bool true) /\ w.grownBy w' none) := by
 refine gw_enter ⟨26, w, none, []⟩ Tryz.func113 rfl Tryz.ntmps113 rfl (mem0 (X := [SlOld vhEnc 2 160 w.heap.size none A1 n l, SlOld vhEnc 2 160 w.heap.size none A2 n l]) (allF_cons h1.old (allF_cons h2.old allF_nil)) (allL_cons SlOld.lasts (allL_cons SlOld.lasts allL_nil))) ?_
 refine sr_ ?_
 have hlen := h1.len
 refine sg_ rfl (nn_ (gw_seq (sr_ (mv_ rfl (wl_ov (ov_len es59 rfl) rfl (mv_ rfl (wl_ov (ov_len es59 rfl) rfl (wl_ov (ov_neq rfl rfl) rfl ?_))))))))
 refine wl_set 10 (v' := .bool false) rfl (congrArg Value.bool (by simp)) ?_
 refine nn_ (cf_ rfl (gw_skip (nx_then (gw_seq (sr_ (mv_ rfl (wl_ov (ov_len es59 rfl) rfl (mv_ rfl (nn_ (gw_block ?_))))))))))
 refine gw_loop (γ := Nat) (fun (k : Nat) => k <= n) (fun (k : Nat) => [(0, .slice A1 n c1), (1, .slice A2 n c2), (12, .int .i64 ((n : Nat) : Int)), (13, .int .i64 ((k : Nat) : Int))]) (fun (k : Nat) => fun _ => True) (fun (k : Nat) => []) (fun (k : Nat) => []) (fun (k : Nat) => [SlOld vhEnc 2 160 w.heap.size none A1 n l, SlOld vhEnc 2 160 w.heap.size none A2 n l]) (fun (k : Nat) => n - k) 0 (Nat.zero_le _) ⟨rfl, rfl, rfl, rfl, trivial⟩ (fun _ hm => hm.pick [] [] [0, 1] rfl rfl) ?_
 intro k hinv
 replace hinv : k <= n := hinv
 refine sr_ (wl_ov (ov_lss rfl rfl) rfl (nn_ (gw_seq ?_)))
 refine gw_cond rfl (fun hh => ?_) (fun hh => ?_)
 ·have hk : ((k : Nat) : Int) < ((n : Nat) : Int) := by simpa using hh
  clear hh
  refine gw_skip (nx_then (gw_seq (gw_block (sr_ ?_))))
  obtain ⟨b1, o1, hA, _, _⟩ := h1.get (by omega)
  subst hA
  obtain ⟨b2, o2, hA, _, _⟩ := h2.get (by omega)
  subst hA
  obtain ⟨x, hx⟩ : ∃ x, l[k]? = some x := ⟨_, List.getElem?_eq_getElem (by omega)⟩
  obtain ⟨x0, x1⟩ := x
  refine mv_ rfl (sg_ rfl (nn_ (gw_seq ?_)))
  refine gd (fun wz => (SlOld vhEnc 2 160 w.heap.size none (some ⟨b1, o1, none⟩) n l) wz /\ (SlOld vhEnc 2 160 w.heap.size none (some ⟨b2, o2, none⟩) n l) wz /\ True) mixed (fun _ hm => ⟨hm.fa 0, hm.fa 1, trivial⟩) fun z => ?_
  refine wt 0 9 1 rfl z (ov_move rfl) ?_
  refine wt 1 9 3 rfl z (ov_move rfl) ?_
  refine wt 2 9 7 rfl z (ov_index (j := k) es59 rfl rfl (by omega)) ?_
  refine wt 3 9 15 rfl z (ov_elem (vs := [.string x0, .string x1]) rz160 rfl (fun _ hm => (hm.1).1) hx rfl rfl) ?_
  refine wt 4 9 31 rfl z (ov_move rfl) ?_
  refine wt 5 9 63 rfl z (ov_move rfl) ?_
  refine wt 6 9 127 rfl z (ov_index (j := k) es59 rfl rfl (by omega)) ?_
  refine wt 7 9 255 rfl z (ov_elem (vs := [.string x0, .string x1]) rz160 rfl (fun _ hm => (hm.2.1).1) hx rfl rfl) ?_
  refine wt 8 9 511 rfl z (ov_bin rfl rfl (cmp_agg guard_vehicle (fun wx => same_vehicle_neq x0 x1 wx))) ?_
  refine wa_done (by kernel_rfl) ?_
  refine nx_then (cf_ rfl (gw_skip (nx_blk_nrm (nx_then (gw_region (ad_ rfl rfl (mv_ rfl (wl_nil ?_))))))))
  exact nx_round (k + 1) (by omega) (by omega) ⟨rfl, rfl, rfl, (some_int (by omega)), trivial⟩ (fun _ hm => hm.pick [] [] [0, 1] rfl rfl)
 have hk : ¬ (((k : Nat) : Int) < ((n : Nat) : Int)) := by simpa using hh
 clear hh
 refine gw_exit ?_
 refine nx_then_exit (nx_then_exit ?_)
 refine nx_blk_here ?_
 refine nx_then (sr_ (sg_ rfl (nn_ ?_)))
 refine gw_ret ?_
 refine nx_ret1 rfl rfl fun wx hm => ?_
 exact ⟨rfl, hm.g⟩
set_option maxRecDepth 100000 in
theorem same_plate_neq (x0 : Int) (x1 : ByteArray) (x2 : ByteArray) (w : World) : (binOp .neq 162 (.agg #[.int .i64 x0, .string x1, .string x2]) (.agg #[.int .i64 x0, .string x1, .string x2])).run Tryz.prog w = .ok (.bool false) w := by
 have hS : Tryz.prog.underlying 162 = some (.struct (Tryz.prog.fieldsOf 162)) := by kernel_rfl
 have hp : Tryz.prog.stoodInHeld 162 = false := by kernel_rfl
 rw [run_neq_struct, show (10000 : Nat) = 9999 + 1 from rfl, run_equalIn_agg w 9999 162 _ _ hS hp]
 simp only [Program.fieldsOf, Tryz.underlying162]
 have u3 := Tryz.underlying3
 have u9 := Tryz.underlying9
 clear hS hp
 go_simp
theorem guard_plate : Tryz.prog.eqGuardType Tryz.prog.depth 162 = false := by kernel_rfl
theorem equal_plate_any (l : List Pl) (A1 A2 : Option Addr) (n c1 c2 : Nat) (w : World) (h1 : SlT plEnc 3 162 w A1 n l) (h2 : SlT plEnc 3 162 w A2 n l) (hn : n <= 1000000) :
  Calls Tryz.prog 114 #[.slice A1 n c1, .slice A2 n c2] w (fun e w' => e = .returned (.bool true) /\ w.grownBy w' none) := by
 refine gw_enter ⟨26, w, none, []⟩ Tryz.func114 rfl Tryz.ntmps114 rfl (mem0 (X := [SlOld plEnc 3 162 w.heap.size none A1 n l, SlOld plEnc 3 162 w.heap.size none A2 n l]) (allF_cons h1.old (allF_cons h2.old allF_nil)) (allL_cons SlOld.lasts (allL_cons SlOld.lasts allL_nil))) ?_
 refine sr_ ?_
 have hlen := h1.len
 refine sg_ rfl (nn_ (gw_seq (sr_ (mv_ rfl (wl_ov (ov_len es60 rfl) rfl (mv_ rfl (wl_ov (ov_len es60 rfl) rfl (wl_ov (ov_neq rfl rfl) rfl ?_))))))))
 refine wl_set 10 (v' := .bool false) rfl (congrArg Value.bool (by simp)) ?_
 refine nn_ (cf_ rfl (gw_skip (nx_then (gw_seq (sr_ (mv_ rfl (wl_ov (ov_len es60 rfl) rfl (mv_ rfl (nn_ (gw_block ?_))))))))))
 refine gw_loop (γ := Nat) (fun (k : Nat) => k <= n) (fun (k : Nat) => [(0, .slice A1 n c1), (1, .slice A2 n c2), (12, .int .i64 ((n : Nat) : Int)), (13, .int .i64 ((k : Nat) : Int))]) (fun (k : Nat) => fun _ => True) (fun (k : Nat) => []) (fun (k : Nat) => []) (fun (k : Nat) => [SlOld plEnc 3 162 w.heap.size none A1 n l, SlOld plEnc 3 162 w.heap.size none A2 n l]) (fun (k : Nat) => n - k) 0 (Nat.zero_le _) ⟨rfl, rfl, rfl, rfl, trivial⟩ (fun _ hm => hm.pick [] [] [0, 1] rfl rfl) ?_
 intro k hinv
 replace hinv : k <= n := hinv
 refine sr_ (wl_ov (ov_lss rfl rfl) rfl (nn_ (gw_seq ?_)))
 refine gw_cond rfl (fun hh => ?_) (fun hh => ?_)
 ·have hk : ((k : Nat) : Int) < ((n : Nat) : Int) := by simpa using hh
  clear hh
  refine gw_skip (nx_then (gw_seq (gw_block (sr_ ?_))))
  obtain ⟨b1, o1, hA, _, _⟩ := h1.get (by omega)
  subst hA
  obtain ⟨b2, o2, hA, _, _⟩ := h2.get (by omega)
  subst hA
  obtain ⟨x, hx⟩ : ∃ x, l[k]? = some x := ⟨_, List.getElem?_eq_getElem (by omega)⟩
  obtain ⟨x0, x1, x2⟩ := x
  refine mv_ rfl (sg_ rfl (nn_ (gw_seq ?_)))
  refine gd (fun wz => (SlOld plEnc 3 162 w.heap.size none (some ⟨b1, o1, none⟩) n l) wz /\ (SlOld plEnc 3 162 w.heap.size none (some ⟨b2, o2, none⟩) n l) wz /\ True) mixed (fun _ hm => ⟨hm.fa 0, hm.fa 1, trivial⟩) fun z => ?_
  refine wt 0 9 1 rfl z (ov_move rfl) ?_
  refine wt 1 9 3 rfl z (ov_move rfl) ?_
  refine wt 2 9 7 rfl z (ov_index (j := k) es60 rfl rfl (by omega)) ?_
  refine wt 3 9 15 rfl z (ov_elem (vs := [.int .i64 x0, .string x1, .string x2]) rz162 rfl (fun _ hm => (hm.1).1) hx rfl rfl) ?_
  refine wt 4 9 31 rfl z (ov_move rfl) ?_
  refine wt 5 9 63 rfl z (ov_move rfl) ?_
  refine wt 6 9 127 rfl z (ov_index (j := k) es60 rfl rfl (by omega)) ?_
  refine wt 7 9 255 rfl z (ov_elem (vs := [.int .i64 x0, .string x1, .string x2]) rz162 rfl (fun _ hm => (hm.2.1).1) hx rfl rfl) ?_
  refine wt 8 9 511 rfl z (ov_bin rfl rfl (cmp_agg guard_plate (fun wx => same_plate_neq x0 x1 x2 wx))) ?_
  refine wa_done (by kernel_rfl) ?_
  refine nx_then (cf_ rfl (gw_skip (nx_blk_nrm (nx_then (gw_region (ad_ rfl rfl (mv_ rfl (wl_nil ?_))))))))
  exact nx_round (k + 1) (by omega) (by omega) ⟨rfl, rfl, rfl, (some_int (by omega)), trivial⟩ (fun _ hm => hm.pick [] [] [0, 1] rfl rfl)
 have hk : ¬ (((k : Nat) : Int) < ((n : Nat) : Int)) := by simpa using hh
 clear hh
 refine gw_exit ?_
 refine nx_then_exit (nx_then_exit ?_)
 refine nx_blk_here ?_
 refine nx_then (sr_ (sg_ rfl (nn_ ?_)))
 refine gw_ret ?_
 refine nx_ret1 rfl rfl fun wx hm => ?_
 exact ⟨rfl, hm.g⟩
theorem sameFleet_any (sl : List St) (cl : List Cs) (vl : List Vh) (pl : List Pl) (A0 A1 A2 A3 B0 B1 B2 B3 : Option Addr) (n0 n1 n2 n3 a0 a1 a2 a3 b0 b1 b2 b3 : Nat) (w : World) (hsl0 : SlT stEnc 15 152 w A0 n0 sl) (hcl0 : SlT csEnc 2 158 w A1 n1 cl) (hvl0 : SlT vhEnc 2 160 w A2 n2 vl) (hpl0 : SlT plEnc 3 162 w A3 n3 pl) (hsl1 : SlT stEnc 15 152 w B0 n0 sl) (hcl1 : SlT csEnc 2 158 w B1 n1 cl) (hvl1 : SlT vhEnc 2 160 w B2 n2 vl) (hpl1 : SlT plEnc 3 162 w B3 n3 pl) (hok : ∀ x ∈ sl, StOk x) (hn0 : n0 <= 1000000) (hn1 : n1 <= 1000000) (hn2 : n2 <= 1000000) (hn3 : n3 <= 1000000) :
  Calls Tryz.prog 29 #[.agg #[.slice A0 n0 a0, .slice A1 n1 a1, .slice A2 n2 a2, .slice A3 n3 a3], .agg #[.slice B0 n0 b0, .slice B1 n1 b1, .slice B2 n2 b2, .slice B3 n3 b3]] w (fun e w' => e = .returned (.bool true) /\ w.grownBy w' none) := by
 refine gw_enter ⟨31, w, none, []⟩ Tryz.func29 rfl Tryz.ntmps29 rfl (mem0 (X := [SlOld stEnc 15 152 w.heap.size none A0 n0 sl, SlOld csEnc 2 158 w.heap.size none A1 n1 cl, SlOld vhEnc 2 160 w.heap.size none A2 n2 vl, SlOld plEnc 3 162 w.heap.size none A3 n3 pl, SlOld stEnc 15 152 w.heap.size none B0 n0 sl, SlOld csEnc 2 158 w.heap.size none B1 n1 cl, SlOld vhEnc 2 160 w.heap.size none B2 n2 vl, SlOld plEnc 3 162 w.heap.size none B3 n3 pl]) (allF_cons hsl0.old (allF_cons hcl0.old (allF_cons hvl0.old (allF_cons hpl0.old (allF_cons hsl1.old (allF_cons hcl1.old (allF_cons hvl1.old (allF_cons hpl1.old allF_nil)))))))) (allL_cons SlOld.lasts (allL_cons SlOld.lasts (allL_cons SlOld.lasts (allL_cons SlOld.lasts (allL_cons SlOld.lasts (allL_cons SlOld.lasts (allL_cons SlOld.lasts (allL_cons SlOld.lasts allL_nil))))))))) ?_
 refine sr_ ?_
 refine wl_box rfl rfl rfl fun g1 => ?_
 refine wl_box rfl rfl rfl fun g2 => ?_
 refine sg_ rfl (nn_ (sr_ (fd_ fo62_0 rfl rfl (lk_ sc57 1 rfl rfl rfl (fd_ fo62_0 rfl rfl (lk_ sc57 0 rfl rfl rfl ?_))))))
 refine wl_callv rfl cb111 rfl rfl (fun wx hm => (equal_station_any sl A0 B0 n0 a0 b0 wx (hm.fact 0 rfl).1 (hm.fact 4 rfl).1 hok (by omega))) ?_
 refine mv_ rfl (wl_guard_on rfl rfl rfl (fd_ fo62_1 rfl rfl (wl_guard_on rfl rfl rfl (lk_ sc58 1 rfl rfl rfl (wl_guard_on rfl rfl rfl (fd_ fo62_1 rfl rfl (wl_guard_on rfl rfl rfl (lk_ sc58 0 rfl rfl rfl (wl_guard_on rfl rfl rfl ?_)))))))))
 refine wl_callv rfl cb112 rfl rfl (fun wx hm => (equal_class_any cl A1 B1 n1 a1 b1 wx (hm.fact 1 rfl).1 (hm.fact 5 rfl).1 (by omega))) ?_
 refine pt_ rfl rfl (mv_ rfl (wl_guard_on rfl rfl rfl (fd_ fo62_2 rfl rfl (wl_guard_on rfl rfl rfl (lk_ sc59 1 rfl rfl rfl (wl_guard_on rfl rfl rfl (fd_ fo62_2 rfl rfl (wl_guard_on rfl rfl rfl (lk_ sc59 0 rfl rfl rfl (wl_guard_on rfl rfl rfl ?_))))))))))
 refine wl_callv rfl cb113 rfl rfl (fun wx hm => (equal_vehicle_any vl A2 B2 n2 a2 b2 wx (hm.fact 2 rfl).1 (hm.fact 6 rfl).1 (by omega))) ?_
 refine pt_ rfl rfl (mv_ rfl (wl_guard_on rfl rfl rfl (fd_ fo62_3 rfl rfl (wl_guard_on rfl rfl rfl (lk_ sc60 1 rfl rfl rfl (wl_guard_on rfl rfl rfl (fd_ fo62_3 rfl rfl (wl_guard_on rfl rfl rfl (lk_ sc60 0 rfl rfl rfl (wl_guard_on rfl rfl rfl ?_))))))))))
 refine wl_callv rfl cb114 rfl rfl (fun wx hm => (equal_plate_any pl A3 B3 n3 a3 b3 wx (hm.fact 3 rfl).1 (hm.fact 7 rfl).1 (by omega))) ?_
 refine pt_ rfl rfl (sg_ rfl (nn_ ?_))
 refine gw_ret ?_
 refine nx_ret1 rfl rfl fun wx hm => ?_
 exact ⟨rfl, hm.g⟩
theorem ftGen_any (w : World) (B sb m : Nat) (hS : Strm 25 w B sb m) (hm : m <= 1000000) (htx : TxtO w.heap.size (some sb) w) :
  Calls Tryz.prog 33 #[.pointer (some ⟨sb, 0, none⟩)] w (fun e w' => ∃ v : ByteArray, e = .returned (.string v) /\ v.size <= 30000 /\ Strm 25 w' B sb (m + 1000) /\ w.grownBy w' (some sb)) := by
 refine gw_enter ⟨17, w, (some sb), [152, 158, 160, 162]⟩ Tryz.func33 rfl Tryz.ntmps33 rfl (memS (X := [TxtO w.heap.size (some sb)]) hS (allF_cons htx allF_nil) (allL_cons TxtO.lasts allL_nil)) ?_
 refine sr_ (sg_ rfl (nn_ (sr_ (mv_ rfl ?_))))
 refine wl_calls (γ := Option Addr × Option Addr × Option Addr × Option Addr × Nat × Nat × Nat × Nat × Nat × Nat × Nat × List St × List Cs × List Vh × List Pl) (val := (fun g => .agg #[.slice g.1 g.2.2.2.2.1 g.2.2.2.2.2.1, .slice g.2.1 4 g.2.2.2.2.2.2.1, .slice g.2.2.1 g.2.2.2.2.2.2.2.1 g.2.2.2.2.2.2.2.2.1, .slice g.2.2.2.1 g.2.2.2.2.2.2.2.2.2.1 g.2.2.2.2.2.2.2.2.2.2.1])) (φ := (fun g => RfOk g.2.2.2.2.2.2.2.2.2.2.2.1 g.2.2.2.2.2.2.2.2.2.2.2.2.1 g.2.2.2.2.2.2.2.2.2.2.2.2.2.1 g.2.2.2.2.2.2.2.2.2.2.2.2.2.2 g.2.2.2.2.1 g.2.2.2.2.2.2.2.1 g.2.2.2.2.2.2.2.2.2.1 /\ fleetE g.2.2.2.2.2.2.2.2.2.2.2.1 g.2.2.2.2.2.2.2.2.2.2.2.2.1 g.2.2.2.2.2.2.2.2.2.2.2.2.2.1 g.2.2.2.2.2.2.2.2.2.2.2.2.2.2 = 0)) (Y := (fun g => fun wy => SlT stEnc 15 152 wy g.1 g.2.2.2.2.1 g.2.2.2.2.2.2.2.2.2.2.2.1 /\ SlT csEnc 2 158 wy g.2.1 4 g.2.2.2.2.2.2.2.2.2.2.2.2.1 /\ SlT vhEnc 2 160 wy g.2.2.1 g.2.2.2.2.2.2.2.1 g.2.2.2.2.2.2.2.2.2.2.2.2.2.1 /\ SlT plEnc 3 162 wy g.2.2.2.1 g.2.2.2.2.2.2.2.2.2.1 g.2.2.2.2.2.2.2.2.2.2.2.2.2.2)) (m' := m + 300) rfl cb24 rfl rfl rfl rfl (fun wx hm => (rightFleet_anyF wx B sb _ hm.k (by omega)).mono fun _ _ ⟨sA, cA, vA, pA, sn, sc, cc, vn, vc, pn, pc, sl, cl, vl, pl, he, ⟨hok, hz⟩, hS, hg, ho1, ho2, ho3, hc⟩ => ⟨(sA, cA, vA, pA, sn, sc, cc, vn, vc, pn, pc, sl, cl, vl, pl), he, ⟨hok, hz⟩, hS, hg, SlT.ofOwnL stEnc_lenL (fun x hx => stB_ok (hok.1.2.1 x hx)) ho1 hok.1.1, hc, SlT.ofOwn vh_len ho2 hok.2.2.1.1, SlT.ofOwn pl_len ho3 hok.2.2.2.1⟩) (fun _ => (SlT.lasts2 rfl).and_ ((SlT.lasts2 rfl).and_ ((SlT.lasts2 rfl).and_ (SlT.lasts2 rfl)))) ?_
 rintro ⟨sA, cA, vA, pA, sn, sc, cc, vn, vc, pn, pc, sl, cl, vl, pl⟩ hfl
 dsimp only at hfl ⊢
 obtain ⟨⟨⟨hsl, hsB, hs1, hs3⟩, ⟨hcl4, hcok⟩, ⟨hvl, hvB, hvn4⟩, hpl, hpB, hpn5⟩, h0⟩ := hfl
 have hsok : ∀ x ∈ sl, StOk x := fun x hx => stB_ok (hsB x hx)
 have hvok : ∀ x ∈ vl, VhOk x := fun x hx => vhB_ok (hvB x hx)
 have hpok : ∀ x ∈ pl, PlOk x := fun x hx => plB_ok (hpB x hx)
 obtain ⟨hfb, hfc, hfd⟩ := fl_len (sl := sl) (cl := cl) (vl := vl) (pl := pl) (ftB_of h0) hsok
 have hmk := mkB_sz (flD sl cl vl pl)
 refine wl_callv rfl cb121 rfl rfl (fun wx hm => (ftLines_any sl cl vl pl sA cA vA pA sn sc 4 cc vn vc pn pc wx (hm.fact 0 rfl).1 (hm.fact 0 rfl).2.1 (hm.fact 0 rfl).2.2.1 (hm.fact 0 rfl).2.2.2 hsok hcok hvok hpok (by omega) (by omega) (by omega) (by omega) (hm.fact 1 rfl).1 h0 (by omega))) ?_
 refine sg_ rfl (nn_ (gw_seq (sr_ (mv_ rfl ?_))))
 refine wl_buildSlice (e := 3) (cs := [.int .i64 0, .int .i64 0, .int .i64 1, .int .i64 2]) rfl (by kernel_rfl) rfl fun g1 => ?_
 refine wl_got (γ := Int) (val := fun v => .int .i64 v) (φ := fun v => v ∈ ([0, 0, 1, 2] : List Int)) rfl cb11 rfl rfl rfl rfl (fun wx hm => (pick_any [0, 0, 1, 2] _ _ _ wx B sb _ hm.k (by omega) (by simp) (by simp) (hm.blkI 0 rfl) (hm.neRow 0 rfl rfl))) fun pv hpv => ?_
 have bpv : 0 <= pv /\ pv <= 2 := mem_rng hpv (by decide)
 have bpv0 := bpv.1
 have bpv1 := bpv.2
 clear bpv
 clear hpv
 obtain hv2 | hv2 | hv2 : pv = 0 ∨ pv = 1 ∨ pv = 2 := (by omega)
 ·subst hv2
  refine mv_ rfl (nn_ (gw_block ?_))
  refine gw_rounds 1 ?_
  refine gr_next ?_
  refine sr_ (wl_ov (ov_lss rfl rfl) rfl ?_)
  refine wl_set 11 (v' := .bool false) rfl (congrArg Value.bool (by decide)) ?_
  refine nn_ (gw_seq (cf_ rfl ?_))
  refine gw_exit ?_
  refine nx_then_exit (nx_then_exit ?_)
  refine nx_blk_here ?_
  refine nx_then (sr_ (mv_ rfl (sg_ rfl (nn_ ?_))))
  refine gw_ret ?_
  refine nx_ret1 rfl rfl fun wx hm => ?_
  exact ⟨(mkB (flD sl cl vl pl)), rfl, by omega, hm.k.more (by omega), hm.g⟩
 ·subst hv2
  refine mv_ rfl (nn_ (gw_block ?_))
  refine gw_rounds 2 ?_
  refine gr_next ?_
  refine sr_ (wl_ov (ov_lss rfl rfl) rfl ?_)
  refine wl_set 11 (v' := .bool true) rfl (congrArg Value.bool (by decide)) ?_
  refine nn_ (gw_seq (ct_ rfl (gw_skip (nx_then (gw_seq (gw_block (gw_region (mv_ rfl (mv_ rfl ?_)))))))))
  refine wl_calls (γ := ByteArray) (val := (fun g => .string g)) (φ := (fun g => g.size <= (mkB (flD sl cl vl pl)).size + 15)) (Y := (fun g => fun _ => True)) (m' := m + 300 + 1 + 3) rfl cb122 rfl rfl rfl rfl (fun wx hm => (by have h := gchanged_any (mkB (flD sl cl vl pl)) ⟨#[32, 10, 45, 48, 45, 57, 65, 66, 49, 118, 115]⟩ wx B sb _ hm.k (by omega) (by omega) (by decide +kernel); exact h.mono fun _ _ ⟨v, he, hv, hS, hg⟩ => ⟨v, he, Nat.le_trans hv (by rw [show (⟨#[32, 10, 45, 48, 45, 57, 65, 66, 49, 118, 115]⟩ : ByteArray).size = 11 from rfl]; omega), hS, hg, trivial⟩)) (fun _ => Lasts2.true_) ?_
  rintro u1 hs2
  refine sg_ rfl (wl_nil (nx_blk_nrm (nx_then (gw_region (ad_ rfl rfl ?_)))))
  refine wl_set 15 (v' := .int .i64 1) rfl rfl ?_
  refine mv_ rfl (wl_nil ?_)
  refine nx_next ?_
  refine gr_next ?_
  refine sr_ (wl_ov (ov_lss rfl rfl) rfl ?_)
  refine wl_set 11 (v' := .bool false) rfl (congrArg Value.bool (by decide)) ?_
  refine nn_ (gw_seq (cf_ rfl ?_))
  refine gw_exit ?_
  refine nx_then_exit (nx_then_exit ?_)
  refine nx_blk_here ?_
  refine nx_then (sr_ (mv_ rfl (sg_ rfl (nn_ ?_))))
  refine gw_ret ?_
  refine nx_ret1 rfl rfl fun wx hm => ?_
  exact ⟨u1, rfl, by omega, hm.k.more (by omega), hm.g⟩
 subst hv2
 refine mv_ rfl (nn_ (gw_block ?_))
 refine gw_rounds 3 ?_
 refine gr_next ?_
 refine sr_ (wl_ov (ov_lss rfl rfl) rfl ?_)
 refine wl_set 11 (v' := .bool true) rfl (congrArg Value.bool (by decide)) ?_
 refine nn_ (gw_seq (ct_ rfl (gw_skip (nx_then (gw_seq (gw_block (gw_region (mv_ rfl (mv_ rfl ?_)))))))))
 refine wl_calls (γ := ByteArray) (val := (fun g => .string g)) (φ := (fun g => g.size <= (mkB (flD sl cl vl pl)).size + 15)) (Y := (fun g => fun _ => True)) (m' := m + 300 + 1 + 3) rfl cb122 rfl rfl rfl rfl (fun wx hm => (by have h := gchanged_any (mkB (flD sl cl vl pl)) ⟨#[32, 10, 45, 48, 45, 57, 65, 66, 49, 118, 115]⟩ wx B sb _ hm.k (by omega) (by omega) (by decide +kernel); exact h.mono fun _ _ ⟨v, he, hv, hS, hg⟩ => ⟨v, he, Nat.le_trans hv (by rw [show (⟨#[32, 10, 45, 48, 45, 57, 65, 66, 49, 118, 115]⟩ : ByteArray).size = 11 from rfl]; omega), hS, hg, trivial⟩)) (fun _ => Lasts2.true_) ?_
 rintro u1 hs2
 refine sg_ rfl (wl_nil (nx_blk_nrm (nx_then (gw_region (ad_ rfl rfl ?_)))))
 refine wl_set 15 (v' := .int .i64 1) rfl rfl ?_
 refine mv_ rfl (wl_nil ?_)
 refine nx_next ?_
 refine gr_next ?_
 refine sr_ (wl_ov (ov_lss rfl rfl) rfl ?_)
 refine wl_set 11 (v' := .bool true) rfl (congrArg Value.bool (by decide)) ?_
 refine nn_ (gw_seq (ct_ rfl (gw_skip (nx_then (gw_seq (gw_block (gw_region (mv_ rfl (mv_ rfl ?_)))))))))
 refine wl_calls (γ := ByteArray) (val := (fun g => .string g)) (φ := (fun g => g.size <= (u1).size + 15)) (Y := (fun g => fun _ => True)) (m' := m + 300 + 1 + 3 + 3) rfl cb122 rfl rfl rfl rfl (fun wx hm => (by have h := gchanged_any u1 ⟨#[32, 10, 45, 48, 45, 57, 65, 66, 49, 118, 115]⟩ wx B sb _ hm.k (by omega) (by omega) (by decide +kernel); exact h.mono fun _ _ ⟨v, he, hv, hS, hg⟩ => ⟨v, he, Nat.le_trans hv (by rw [show (⟨#[32, 10, 45, 48, 45, 57, 65, 66, 49, 118, 115]⟩ : ByteArray).size = 11 from rfl]; omega), hS, hg, trivial⟩)) (fun _ => Lasts2.true_) ?_
 rintro u2 hs3
 refine sg_ rfl (wl_nil (nx_blk_nrm (nx_then (gw_region (ad_ rfl rfl ?_)))))
 refine wl_set 15 (v' := .int .i64 2) rfl rfl ?_
 refine mv_ rfl (wl_nil ?_)
 refine nx_next ?_
 refine gr_next ?_
 refine sr_ (wl_ov (ov_lss rfl rfl) rfl ?_)
 refine wl_set 11 (v' := .bool false) rfl (congrArg Value.bool (by decide)) ?_
 refine nn_ (gw_seq (cf_ rfl ?_))
 refine gw_exit ?_
 refine nx_then_exit (nx_then_exit ?_)
 refine nx_blk_here ?_
 refine nx_then (sr_ (mv_ rfl (sg_ rfl (nn_ ?_))))
 refine gw_ret ?_
 refine nx_ret1 rfl rfl fun wx hm => ?_
 exact ⟨u2, rfl, by omega, hm.k.more (by omega), hm.g⟩
end Go.Proofs.YtempjmpfdniecaaGreatDoor
namespace Go.Proofs.YtempjmpfdniecaaGreatDoor
open Go.RowKit
theorem bk_none {c x : UInt8} {l : List UInt8} (h : c ∉ x :: l) : (x == c) = false /\ c ∉ l := by
 simp only [List.mem_cons, not_or] at h
 exact ⟨by simpa using fun e => h.1 e.symm, h.2⟩
theorem bk_cases (c : UInt8) : ∀ l : List UInt8, (Lib.indexByte l c = -1 /\ c ∉ l) ∨ ∃ a b, l = a ++ c :: b /\ c ∉ a
 | [] => .inl ⟨rfl, by simp⟩
 | x :: l => by
  by_cases h : x = c
  ·subst h
   exact .inr ⟨[], l, rfl, by simp⟩
  ·rcases bk_cases c l with ⟨h1, h2⟩ | ⟨a, b, h1, h2⟩
   ·exact .inl ⟨by simp [Lib.indexByte, h, h1], by simp [h2, Ne.symm h]⟩
   ·exact .inr ⟨x :: a, b, by rw [h1]; rfl, by simp [h2, Ne.symm h]⟩
theorem bk_ixb {c : UInt8} {b : List UInt8} : ∀ {a : List UInt8}, c ∉ a -> Lib.indexByte (a ++ c :: b) c = ((a.length : Nat) : Int)
 | [], _ => by simp [Lib.indexByte]
 | x :: a, h => by
  obtain ⟨h1, h2⟩ := bk_none h
  have ih := bk_ixb (b := b) h2
  have h3 : ¬ ((((a.length : Nat) : Int)) == -1) = true := by simp
  rw [List.cons_append, Lib.indexByte, h1, ih, if_neg (by decide), if_neg h3, List.length_cons]; omega
theorem bk_ix {c : UInt8} {a b : List UInt8} (h : c ∉ a) : Lib.index (a ++ c :: b) [c] = ((a.length : Nat) : Int) := by rw [Lib.index_one]; exact bk_ixb h
theorem bk_no {c : UInt8} {l : List UInt8} (h : c ∉ l) : Lib.index l [c] = -1 := by
 rw [Lib.index_one]
 rcases bk_cases c l with ⟨h1, _⟩ | ⟨a, b, h1, _⟩
 ·exact h1
 ·exact absurd (by rw [h1]; simp) h
theorem bk_cut {c : UInt8} {a b : List UInt8} (h : c ∉ a) : Lib.cut (a ++ c :: b) [c] = (a, b, true) := by
 unfold Lib.cut
 rw [bk_ix h, if_pos (by omega), Int.toNat_natCast]
 simp
theorem bk_cutno {c : UInt8} {l : List UInt8} (h : c ∉ l) : Lib.cut l [c] = (l, [], false) := by
 unfold Lib.cut
 rw [bk_no h, if_neg (by decide)]
theorem mkB_data (s : ByteArray) : mkB s.data.toList = s := ba_eq (by unfold mkB; simp)
theorem data_mkB (l : List UInt8) : (mkB l).data.toList = l := by unfold mkB; simp
theorem cutS_app {c : UInt8} {a b : List UInt8} (h : c ∉ a) : cutS (mkB (a ++ c :: b)) ⟨#[c]⟩ = (mkB a, mkB b, true) := by
 unfold cutS
 rw [data_mkB, show (⟨#[c]⟩ : ByteArray).data.toList = [c] from rfl, bk_cut h]; rfl
theorem cutS_yes {c : UInt8} {s a b : ByteArray} (h : cutS s ⟨#[c]⟩ = (a, b, true)) : s = mkB (a.data.toList ++ c :: b.data.toList) /\ c ∉ a.data.toList := by
 rcases bk_cases c s.data.toList with ⟨_, h2⟩ | ⟨x, y, h1, h2⟩
 ·unfold cutS at h
  rw [show (⟨#[c]⟩ : ByteArray).data.toList = [c] from rfl, bk_cutno h2] at h
  simp at h
 ·have e : s = mkB (x ++ c :: y) := by rw [<- h1, mkB_data]
  rw [e, cutS_app h2] at h
  injection h with h3 h4
  injection h4 with h4 _
  subst h3; subst h4
  rw [data_mkB, data_mkB]
  exact ⟨e, h2⟩
def bkW (c : UInt8) (l : List UInt8) : List (List UInt8) := Lib.splitK [c] 0 (Lib.count l [c]) l
theorem bkW_miss {c : UInt8} {l : List UInt8} (h : c ∉ l) : bkW c l = [l] := by
 unfold bkW
 rw [Lib.count_miss (bk_no h)]; rfl
theorem bkW_hit {c : UInt8} {a b : List UInt8} (h : c ∉ a) : bkW c (a ++ c :: b) = a :: bkW c b := by
 have hd : (a ++ c :: b).drop (a.length + [c].length) = b := by
  rw [show a.length + [c].length = (a ++ [c]).length by simp, show a ++ c :: b = (a ++ [c]) ++ b by simp, List.drop_left]
 unfold bkW
 rw [Lib.count_hit (by simp) (bk_ix (b := b) h), hd, Nat.add_comm, Lib.splitK, bk_ix h, if_neg (by simp), Int.toNat_natCast, hd]
 simp
theorem bkW_join {c : UInt8} : ∀ (r : List (List UInt8)) (x : List UInt8), (∀ y ∈ x :: r, c ∉ y) -> bkW c (Lib.join (x :: r) [c]) = x :: r
 | [], x, h => by rw [Lib.join_one]; exact bkW_miss (h x (List.mem_cons_self ..))
 | y :: r, x, h => by
  have e : Lib.join (x :: y :: r) [c] = x ++ c :: Lib.join (y :: r) [c] := by
   rw [Lib.join_cons, Lib.join_cons]; simp [Lib.joinTail]
  rw [e, bkW_hit (h x (List.mem_cons_self ..)), bkW_join r y fun z hz => h z (List.mem_cons_of_mem _ hz)]
theorem join_bkW {c : UInt8} : ∀ (n : Nat) (l : List UInt8), l.length <= n -> Lib.join (bkW c l) [c] = l /\ (∀ y ∈ bkW c l, c ∉ y) /\ bkW c l ≠ [] := by
 intro n
 induction n with
 | zero =>
  intro l hl
  obtain rfl : l = [] := List.length_eq_zero_iff.1 (by omega)
  rw [bkW_miss (by simp)]
  exact ⟨Lib.join_one _ _, by simp, by simp⟩
 | succ n ih =>
  intro l hl
  rcases bk_cases c l with ⟨_, h2⟩ | ⟨a, b, h1, h2⟩
  ·rw [bkW_miss h2]
   exact ⟨Lib.join_one _ _, by simpa using h2, by simp⟩
  ·subst h1
   obtain ⟨i1, i2, i3⟩ := ih b (by simp at hl; omega)
   rw [bkW_hit h2]
   refine ⟨?_, ?_, by simp⟩
   ·cases hb : bkW c b with
    | nil => exact absurd hb i3
    | cons y r =>
     rw [hb] at i1
     rw [Lib.join_cons, <- i1, Lib.join_cons]; simp [Lib.joinTail]
   ·intro y hy
    rcases List.mem_cons.1 hy with rfl | hy
    ·exact h2
    ·exact i2 y hy
theorem words_data (c : UInt8) (s : ByteArray) : (wordsL s ⟨#[c]⟩).map (·.data.toList) = bkW c s.data.toList := Lib.splitB_data _ 0 _ s
theorem map_mkB {l : List ByteArray} : (l.map (·.data.toList)).map mkB = l := by
 rw [List.map_map]
 conv => rhs; rw [<- List.map_id l]
 exact List.map_congr_left fun x _ => mkB_data x
theorem words_join {c : UInt8} {ws : List ByteArray} (hne : ws ≠ []) (h : ∀ x ∈ ws, c ∉ x.data.toList) : wordsL (joinS ws ⟨#[c]⟩) ⟨#[c]⟩ = ws := by
 have e : (wordsL (joinS ws ⟨#[c]⟩) ⟨#[c]⟩).map (·.data.toList) = ws.map (·.data.toList) := by
  rw [words_data]
  unfold joinS
  cases ws with
  | nil => exact absurd rfl hne
  | cons x r =>
   rw [List.map_cons]
   exact bkW_join _ _ fun y hy => by
    rcases List.mem_cons.1 hy with rfl | hy
    ·exact h x (List.mem_cons_self ..)
    ·obtain ⟨z, hz, rfl⟩ := List.mem_map.1 hy
     exact h z (List.mem_cons_of_mem _ hz)
 have e2 := congrArg (List.map mkB) e
 rwa [map_mkB, map_mkB] at e2
theorem join_words (c : UInt8) (s : ByteArray) : joinS (wordsL s ⟨#[c]⟩) ⟨#[c]⟩ = s /\ ∀ x ∈ wordsL s ⟨#[c]⟩, c ∉ x.data.toList := by
 obtain ⟨h1, h2, _⟩ := join_bkW (c := c) _ s.data.toList (Nat.le_refl _)
 refine ⟨?_, fun x hx => h2 _ (by rw [<- words_data]; exact List.mem_map.2 ⟨x, hx, rfl⟩)⟩
 refine ba_eq ?_
 unfold joinS
 rw [words_data]
 exact h1
theorem pu_snoc (c : UInt8) : ∀ (l : List UInt8) (acc u : Nat), Lib.parseUint10 acc l = .ok u -> Lib.parseUint10 acc (l ++ [c]) = Lib.parseUint10 u [c]
 | [], acc, u, h => by
  rw [Lib.parseUint10] at h
  injection h with h
  subst h; rfl
 | x :: l, acc, u, h => by
  rw [Lib.parseUint10] at h
  split at h
  ·rename_i h1
   split at h
   ·cases h
   ·rename_i h2
    split at h
    ·cases h
    ·rename_i h3
     rw [List.cons_append, Lib.parseUint10, if_pos h1, if_neg h2, if_neg h3]
     exact pu_snoc c l _ u h
  ·cases h
theorem dig_nat {n : Nat} (h : n < 10) : (UInt8.ofNat (48 + n)).toNat = 48 + n := by rw [UInt8.toNat_ofNat']; omega
theorem pu_dec : ∀ (n : Nat), n <= 1000000000000000000 -> Lib.parseUint10 0 (Lib.decDigits n) = .ok n := by
 intro n
 induction n using Nat.strongRecOn with
 | ind n ih =>
  intro hn
  rw [Lib.decDigits]
  by_cases h : n < 10
  ·rw [dif_pos h, Lib.parseUint10, dig_nat h, if_pos (by omega), if_neg (by omega), if_neg (by omega), Lib.parseUint10]
   congr 1; omega
  ·rw [dif_neg h, pu_snoc _ _ _ _ (ih (n / 10) (by omega) (by omega)), Lib.parseUint10, dig_nat (Nat.mod_lt _ (by decide)), if_pos (by omega), if_neg (by omega), if_neg (by omega), Lib.parseUint10]
   congr 1; omega
theorem pm_dec {n : Nat} (h : n <= 1000000000000000000) : Lib.parseMag (Lib.decDigits n) = .ok n := by
 unfold Lib.parseMag
 rw [if_neg (dec_dig n).2]; exact pu_dec n h
theorem atoi_itoa {v : Int} (h : -1000000000000000000 <= v /\ v <= 1000000000000000000) : Lib.atoiAll (Lib.itoa v) = .ok v := by
 unfold Lib.itoa
 by_cases h0 : v < 0
 ·rw [if_pos h0, Lib.atoiAll_minus, pm_dec (by omega)]
  show (if 9223372036854775808 < v.natAbs then Lib.NumEnd.range else Lib.NumEnd.ok (-(v.natAbs : Int))) = _
  rw [if_neg (by omega)]
  congr 1; omega
 ·rw [if_neg h0]
  obtain ⟨h1, h2⟩ := dec_dig v.toNat
  have hp := pm_dec (n := v.toNat) (by omega)
  cases hd : Lib.decDigits v.toNat with
  | nil => exact absurd hd h2
  | cons c r =>
   rw [hd] at h1 hp
   have hc : digB c = true := by rw [List.all_cons, Bool.and_eq_true] at h1; exact h1.1
   unfold digB at hc
   simp only [Bool.and_eq_true, decide_eq_true_eq] at hc
   rw [Lib.atoiAll_plain c r (by omega) (by omega), hp]
   show (if 9223372036854775808 <= v.toNat then Lib.NumEnd.range else Lib.NumEnd.ok (v.toNat : Int)) = _
   rw [if_neg (by omega)]
   congr 1; omega
theorem dec_len : ∀ (k n : Nat), n < 10 ^ (k + 1) -> (Lib.decDigits n).length <= k + 1
 | 0, n, h => by rw [Lib.decDigits, dif_pos (by omega)]; exact Nat.le_refl _
 | k + 1, n, h => by
  rw [Lib.decDigits]
  by_cases h1 : n < 10
  ·rw [dif_pos h1]; simp
  ·rw [dif_neg h1, List.length_append]
   have := dec_len k (n / 10) (by rw [Nat.pow_succ] at h; omega)
   simp; omega
theorem trim_len {v : Int} (h : -999999999 <= v /\ v <= 999999999) : (Lib.trimPrefix (Lib.itoa v) [45]).length <= 9 := by
 unfold Lib.itoa
 by_cases h0 : v < 0
 ·rw [if_pos h0]
  have e : Lib.trimPrefix (45 :: Lib.decDigits v.natAbs) [45] = Lib.decDigits v.natAbs := by simp [Lib.trimPrefix, Lib.hasPrefix]
  rw [e]; exact dec_len 8 _ (by omega)
 ·rw [if_neg h0]
  have e := dec_len 8 v.toNat (by omega)
  have e2 : (Lib.trimPrefix (Lib.decDigits v.toNat) [45]).length <= (Lib.decDigits v.toNat).length := by
   unfold Lib.trimPrefix
   split <;> simp
  omega
theorem num_back {v : Int} (h : -999999999 <= v /\ v <= 999999999) : numB (itoaS v) = true /\ numV (itoaS v) = v := by
 have e : (itoaS v).data.toList = Lib.itoa v := by unfold itoaS; simp
 have ha := atoi_itoa (v := v) (by omega)
 have hl := trim_len h
 unfold numB numV
 rw [e, ha]
 exact ⟨by simp [hl], rfl⟩
theorem back_num {s : ByteArray} (h : numB s = true) : itoaS (numV s) = s := by
 refine ba_eq ?_
 unfold numB at h
 unfold numV itoaS
 rcases ha : Lib.atoiAll s.data.toList with v | _ | _
 ·rw [ha] at h
  have h : ((Lib.itoa v == s.data.toList) && decide ((Lib.trimPrefix s.data.toList [45]).length <= 9)) = true := h
  rw [Bool.and_eq_true] at h
  simpa using h.1
 ·rw [ha] at h; cases h
 ·rw [ha] at h; cases h
def lnT (ls : List ByteArray) : List UInt8 := ls.flatMap fun x => x.data.toList ++ [10]
def runL {σ : Type} (step : ByteArray -> σ -> σ × Bool) : List ByteArray -> σ -> Option σ
 | [], st => some st
 | c :: r, st => if (step c st).2 = true then runL step r (step c st).1 else none
section
variable {σ : Type} {step : ByteArray -> σ -> σ × Bool}
theorem lnT_cons (c : ByteArray) (r : List ByteArray) : lnT (c :: r) = c.data.toList ++ 10 :: lnT r := by unfold lnT; simp
theorem runL_app : ∀ (a b : List ByteArray) (st st1 : σ), runL step a st = some st1 -> runL step (a ++ b) st = runL step b st1
 | [], b, st, st1, h => by cases h; rfl
 | c :: r, b, st, st1, h => by
  unfold runL at h
  rw [List.cons_append]
  conv => lhs; unfold runL
  split at h
  ·rename_i h1; rw [if_pos h1]; exact runL_app r b _ st1 h
  ·cases h
theorem lines_run : ∀ (ls : List ByteArray) (st st' : σ) (f : Nat) (at_ : Int), (∀ c ∈ ls, (10 : UInt8) ∉ c.data.toList) -> runL step ls st = some st' -> (lnT ls).length < f -> linesF step f (mkB (lnT ls)) at_ st = (0, true, st')
 | [], st, st', f, at_, _, h, hf => by
  cases h
  exact lns_nil (by rw [mkB_sz]; exact hf) (beq_self_eq_true (⟨#[]⟩ : ByteArray).toList)
 | c :: r, st, st', f, at_, hn, h, hf => by
  unfold runL at h
  split at h
  ·rename_i h1
   have hc := cutS_app (b := lnT r) (hn c (List.mem_cons_self ..))
   rw [mkB_data] at hc
   rw [lnT_cons] at hf ⊢
   have he : ((mkB (c.data.toList ++ 10 :: lnT r)).toList == (⟨#[]⟩ : ByteArray).toList) = false := by
    cases he : ((mkB (c.data.toList ++ 10 :: lnT r)).toList == (⟨#[]⟩ : ByteArray).toList) with
    | false => rfl
    | true =>
     have h2 := congrArg (fun z : ByteArray => z.data.toList) (bytes_ext (a := mkB (c.data.toList ++ 10 :: lnT r)) (b := ⟨#[]⟩) (by simpa using he))
     dsimp only at h2
     rw [data_mkB] at h2
     simp at h2
   rw [lns_go (by rw [mkB_sz]; exact hf) he hc h1]
   exact lines_run r _ st' _ _ (fun x hx => hn x (List.mem_cons_of_mem _ hx)) h (by simp at hf; omega)
  ·cases h
theorem run_lines : ∀ (f : Nat) (t : ByteArray) (at_ n : Int) (st st' : σ), t.size < f -> linesF step f t at_ st = (n, true, st') -> ∃ ls, (∀ c ∈ ls, (10 : UInt8) ∉ c.data.toList) /\ t = mkB (lnT ls) /\ runL step ls st = some st'
 | 0, _, _, _, _, _, h, _ => absurd h (Nat.not_lt_zero _)
 | f + 1, t, at_, n, st, st', hf, h => by
  cases he : (t.toList == (⟨#[]⟩ : ByteArray).toList) with
  | true =>
   rw [lns_nil hf he] at h
   injection h with _ h
   injection h with _ h
   subst h
   have e : t = ⟨#[]⟩ := bytes_ext (by simpa using he)
   exact ⟨[], by simp, by rw [e]; rfl, rfl⟩
  | false =>
   obtain ⟨⟨c1, c2, cf⟩, hc⟩ : ∃ z, cutS t nlS = z := ⟨_, rfl⟩
   cases cf with
   | false => rw [lns_open hf he hc] at h; injection h with _ h; injection h with h _; cases h
   | true =>
    cases hr : (step c1 st).2 with
    | false => rw [lns_no hf he hc hr] at h; injection h with _ h; injection h with h _; cases h
    | true =>
     rw [lns_go hf he hc hr] at h
     obtain ⟨h1, h2⟩ := cutS_yes (c := 10) hc
     have hz : c2.size < f := by
      have h3 := congrArg (fun z : ByteArray => z.size) h1
      rw [mkB_sz, List.length_append, List.length_cons, dl_size, dl_size] at h3
      omega
     obtain ⟨ls, i1, i2, i3⟩ := run_lines f c2 _ n _ st' hz h
     refine ⟨c1 :: ls, fun c hc => ?_, ?_, ?_⟩
     ·rcases List.mem_cons.1 hc with rfl | hc
      ·exact h2
      ·exact i1 c hc
     ·rw [lnT_cons, h1, i2, data_mkB]
     ·unfold runL
      rw [if_pos hr]; exact i3
end
def GoodW (s : ByteArray) : Prop := 1 <= s.size /\ (32 : UInt8) ∉ s.data.toList /\ (10 : UInt8) ∉ s.data.toList
theorem good_all {p : UInt8 -> Bool} {s : ByteArray} (h32 : p 32 = false) (h10 : p 10 = false) (h1 : 1 <= s.size) (h : s.data.toList.all p = true) : GoodW s :=
 ⟨h1, fun hm => (by have := List.all_eq_true.1 h _ hm; rw [h32] at this; cases this), fun hm => (by have := List.all_eq_true.1 h _ hm; rw [h10] at this; cases this)⟩
theorem key_good {s : ByteArray} (h : keyB s = true) : GoodW s /\ s ≠ dashS := by
 unfold keyB at h
 cases hs : s.data.toList with
 | nil => rw [hs] at h; cases h
 | cons c r =>
  have hz : s.size = r.length + 1 := by rw [<- dl_size, hs]; rfl
  rw [hs] at h
  unfold keyLB at h
  simp only [Bool.and_eq_true, decide_eq_true_eq] at h
  obtain ⟨⟨h1, h2⟩, h3⟩ := h
  refine ⟨good_all (p := keyCharB) (by decide +kernel) (by decide +kernel) (by omega) ?_, fun e => ?_⟩
  ·rw [hs, List.all_cons]
   unfold keyRestB at h2
   rw [h2, Bool.and_true]
   unfold keyCharB
   rw [h1]; rfl
  ·rw [e] at hs
   have hc : (45 : UInt8) = c := by
    have h4 : [(45 : UInt8)] = c :: r := hs
    injection h4
   rw [<- hc] at h1
   exact absurd h1 (by decide +kernel)
theorem plate_good {s : ByteArray} (h : plateB s = true) : GoodW s := by
 unfold plateB at h
 rw [Bool.and_eq_true] at h
 have h1 := inB_iff.1 h.1
 exact good_all (p := plateCharB) (by decide +kernel) (by decide +kernel) (by omega) h.2
def nmB (c : UInt8) : Bool := digB c || decide (c = 45)
theorem dec_nm (n : Nat) : (Lib.decDigits n).all nmB = true /\ 1 <= (Lib.decDigits n).length := by
 obtain ⟨h1, h2⟩ := dec_dig n
 refine ⟨List.all_eq_true.2 fun x hx => ?_, ?_⟩
 ·unfold nmB
  rw [List.all_eq_true.1 h1 x hx]; rfl
 ·cases hd : Lib.decDigits n with
  | nil => exact absurd hd h2
  | cons _ _ => simp
theorem itoa_data (v : Int) : (itoaS v).data.toList = Lib.itoa v := by unfold itoaS; simp
theorem itoa_nm (v : Int) : (Lib.itoa v).all nmB = true /\ 1 <= (Lib.itoa v).length := by
 unfold Lib.itoa
 split
 ·obtain ⟨h1, h2⟩ := dec_nm v.natAbs
  exact ⟨by rw [List.all_cons, h1]; decide +kernel, by simp⟩
 ·exact dec_nm _
theorem itoa_good (v : Int) : GoodW (itoaS v) := good_all (p := nmB) (by decide +kernel) (by decide +kernel) (by rw [<- dl_size, itoa_data]; exact (itoa_nm v).2) (by rw [itoa_data]; exact (itoa_nm v).1)
theorem itoa_dash {v : Int} (h : 0 <= v) : (45 : UInt8) ∉ (itoaS v).data.toList := by
 rw [itoa_data]
 unfold Lib.itoa
 rw [if_neg (by omega)]
 intro hm
 have h2 := List.all_eq_true.1 (dec_dig v.toNat).1 _ hm
 exact absurd h2 (by decide +kernel)
theorem line_nl {c : UInt8} : ∀ (r : List (List UInt8)) (x : List UInt8), c ≠ 32 -> (∀ y ∈ x :: r, c ∉ y) -> c ∉ Lib.join (x :: r) [32]
 | [], x, _, h => by rw [Lib.join_one]; exact h x (List.mem_cons_self ..)
 | y :: r, x, hc, h => by
  have e : Lib.join (x :: y :: r) [32] = x ++ 32 :: Lib.join (y :: r) [32] := by
   rw [Lib.join_cons, Lib.join_cons]; simp [Lib.joinTail]
  rw [e, List.mem_append, List.mem_cons]
  intro hm
  rcases hm with hm | hm | hm
  ·exact h x (List.mem_cons_self ..) hm
  ·exact hc hm
  ·exact line_nl r y hc (fun z hz => h z (List.mem_cons_of_mem _ hz)) hm
theorem line_wd {ws : List ByteArray} (hne : ws ≠ []) (h : ∀ x ∈ ws, GoodW x) : wdL (joinS ws ⟨#[32]⟩) = ws /\ wdB (joinS ws ⟨#[32]⟩) = true /\ (10 : UInt8) ∉ (joinS ws ⟨#[32]⟩).data.toList := by
 have e : wdL (joinS ws ⟨#[32]⟩) = ws := words_join hne fun x hx => (h x hx).2.1
 refine ⟨e, ?_, ?_⟩
 ·unfold wdB
  rw [e, Bool.not_eq_true', List.any_eq_false]
  intro x hx hq
  unfold eqP at hq
  have h2 : (⟨#[]⟩ : ByteArray) = x := bytes_ext (by simpa using hq)
  have h3 := (h x hx).1
  rw [<- h2] at h3
  exact absurd h3 (by decide)
 ·cases ws with
  | nil => exact absurd rfl hne
  | cons x r =>
   show (10 : UInt8) ∉ (Lib.join ((x :: r).map (·.data.toList)) [32])
   rw [List.map_cons]
   refine line_nl _ _ (by decide) fun y hy => ?_
   have hy2 : y ∈ (x :: r).map (fun z : ByteArray => z.data.toList) := hy
   obtain ⟨z, hz, rfl⟩ := List.mem_map.1 hy2
   exact (h z hz).2.2
theorem ln_nl (s : ByteArray) : (s ++ (⟨#[10]⟩ : ByteArray)).data.toList = s.data.toList ++ [10] := by simp
theorem lnT_app (a b : List ByteArray) : lnT (a ++ b) = lnT a ++ lnT b := by unfold lnT; simp
theorem lnT_map {α : Type} {f : α -> ByteArray} {g : α -> List UInt8} : ∀ {l : List α}, (∀ x ∈ l, (f x).data.toList ++ [10] = g x) -> lnT (l.map f) = l.flatMap g
 | [], _ => rfl
 | x :: r, h => by
  rw [List.map_cons, lnT_cons, List.flatMap_cons, <- h x (List.mem_cons_self ..), lnT_map fun y hy => h y (List.mem_cons_of_mem _ hy)]; simp
end Go.Proofs.YtempjmpfdniecaaGreatDoor
namespace Go.Proofs.YtempjmpfdniecaaGreatDoor
open Go.RowKit
def winW (a b : Int) : ByteArray := mkB ((itoaS a).data.toList ++ 45 :: (itoaS b).data.toList)
theorem winW_good (a b : Int) : GoodW (winW a b) := by
 have ha := itoa_nm a
 have hb := itoa_nm b
 refine good_all (p := nmB) (by decide +kernel) (by decide +kernel) ?_ ?_
 ·unfold winW; rw [mkB_sz, List.length_append, List.length_cons]; omega
 ·unfold winW
  rw [data_mkB, List.all_append, List.all_cons, itoa_data, itoa_data, ha.1, hb.1]; decide +kernel
theorem winW_ok {a b : Int} (ha : 0 <= a /\ a <= 999999999) (hb : 0 <= b /\ b <= 999999999) : winB (winW a b) = true /\ wF (winW a b) = a /\ wT (winW a b) = b := by
 have hc : cutD (winW a b) = (itoaS a, itoaS b, true) := by
  unfold cutD winW
  have h := cutS_app (b := (itoaS b).data.toList) (itoa_dash ha.1)
  rw [mkB_data, mkB_data] at h; exact h
 have na := num_back (v := a) (by omega)
 have nb := num_back (v := b) (by omega)
 have e1 : wF (winW a b) = a := by unfold wF; rw [hc]; exact na.2
 have e2 : wT (winW a b) = b := by unfold wT; rw [hc]; exact nb.2
 refine ⟨?_, e1, e2⟩
 unfold winB
 rw [e1, e2, hc, decide_eq_true ha.1, decide_eq_true hb.1, List.all_cons, List.all_cons, na.1, nb.1]; rfl
theorem winW_back {x : ByteArray} (h : winB x = true) : winW (wF x) (wT x) = x := by
 unfold winB at h
 simp only [Bool.and_eq_true, List.all_cons, List.all_nil, and_true] at h
 obtain ⟨⟨⟨h1, h2, h3⟩, _⟩, _⟩ := h
 have hc : cutS x ⟨#[45]⟩ = ((cutD x).1, (cutD x).2.1, true) := by
  rw [<- h1]; rfl
 have e := (cutS_yes hc).1
 unfold winW wF wT
 rw [back_num h2, back_num h3]; exact e.symm
theorem line_back {ws : List ByteArray} (hne : ws ≠ []) (h : ∀ x ∈ ws, GoodW x) : fIt (joinS ws ⟨#[32]⟩) = fItem ws /\ (10 : UInt8) ∉ (joinS ws ⟨#[32]⟩).data.toList := by
 obtain ⟨e, hb, hn⟩ := line_wd hne h
 refine ⟨?_, hn⟩
 unfold fIt
 rw [if_pos hb, e]
theorem back_line {c : ByteArray} {x : FIt} (h : fIt c = some x) : joinS (wdL c) ⟨#[32]⟩ = c /\ fItem (wdL c) = some x /\ ∀ y ∈ wdL c, y ≠ ⟨#[]⟩ := by
 unfold fIt at h
 split at h
 ·rename_i hb
  refine ⟨(join_words 32 c).1, h, fun y hy e => ?_⟩
  unfold wdB at hb
  rw [Bool.not_eq_true', List.any_eq_false] at hb
  exact hb y hy (by rw [e]; exact beq_self_eq_true (⟨#[]⟩ : ByteArray).toList)
 ·cases h
def stPs : St -> List ByteArray
 | ⟨k, [h0, h1, h2, h3, h4, h5, h6, h7, h8, h9, h10, h11, h12, h13]⟩ => [stW, k, winW h0 h1, winW h2 h3, winW h4 h5, winW h6 h7, winW h8 h9, winW h10 h11, winW h12 h13]
 | ⟨_, _⟩ => []
def csPs (x : Cs) : List ByteArray := [clW, x.key, dsh x.up]
def vhPs (x : Vh) : List ByteArray := [vhW, x.key, x.cls]
def plPs (x : Pl) : List ByteArray := [plW, itoaS x.fr, x.veh, x.plate]
def fLn (ws : List ByteArray) : ByteArray := joinS ws ⟨#[32]⟩
def lnOf : FIt -> List UInt8
 | .st x => stLnL x
 | .cs x => (clLn x).data.toList
 | .vh x => (vhLn x).data.toList
 | .pl x => (plLn x).data.toList
theorem bkL14 {l : List Int} (h : l.length = 14) : ∃ h0 h1 h2 h3 h4 h5 h6 h7 h8 h9 h10 h11 h12 h13, l = [h0, h1, h2, h3, h4, h5, h6, h7, h8, h9, h10, h11, h12, h13] := by
 match l, h with
 | [h0, h1, h2, h3, h4, h5, h6, h7, h8, h9, h10, h11, h12, h13], _ => exact ⟨h0, h1, h2, h3, h4, h5, h6, h7, h8, h9, h10, h11, h12, h13, rfl⟩
theorem st_parts (k : ByteArray) (h0 h1 h2 h3 h4 h5 h6 h7 h8 h9 h10 h11 h12 h13 : Int) : stLnL ⟨k, [h0, h1, h2, h3, h4, h5, h6, h7, h8, h9, h10, h11, h12, h13]⟩ = (fLn [stW, k, winW h0 h1, winW h2 h3, winW h4 h5, winW h6 h7, winW h8 h9, winW h10 h11, winW h12 h13]).data.toList ++ [10] := by
 unfold stLnL stHd fLn joinS stW
 simp [Lib.join_cons, Lib.joinTail, winsL, winT, winW, mkB]
def FtK (sl : List St) (cl : List Cs) (vl : List Vh) (pl : List Pl) : Prop := (∀ x ∈ sl, GoodW x.key /\ x.hs.length = 14 /\ ∀ h ∈ x.hs, 0 <= h /\ h <= 999999999) /\ (∀ x ∈ cl, GoodW x.key /\ (x.up = ⟨#[]⟩ ∨ (GoodW x.up /\ x.up ≠ dashS))) /\ (∀ x ∈ vl, GoodW x.key /\ GoodW x.cls) /\ (∀ x ∈ pl, (0 <= x.fr /\ x.fr <= 999999999) /\ GoodW x.veh /\ GoodW x.plate)
theorem hrsK_ok {hs : List Int} (hl : hs.length = 14) (h : hoursBad hs = false) : ∀ x ∈ hs, 0 <= x /\ x <= 999999999 := by
 obtain ⟨h0, h1, h2, h3, h4, h5, h6, h7, h8, h9, h10, h11, h12, h13, rfl⟩ := bkL14 hl
 unfold hoursBad at h
 rw [List.any_eq_false] at h
 have hw : ∀ i, i < 7 -> 0 <= frAt [h0, h1, h2, h3, h4, h5, h6, h7, h8, h9, h10, h11, h12, h13] i /\ frAt [h0, h1, h2, h3, h4, h5, h6, h7, h8, h9, h10, h11, h12, h13] i <= toAt [h0, h1, h2, h3, h4, h5, h6, h7, h8, h9, h10, h11, h12, h13] i /\ toAt [h0, h1, h2, h3, h4, h5, h6, h7, h8, h9, h10, h11, h12, h13] i <= 1440 := fun i hi => by
  have h2 := h i (List.mem_range.2 hi)
  unfold winBad at h2
  simp only [Bool.or_eq_true, Bool.not_eq_true', decide_eq_true_eq, not_or] at h2
  have h3 := inB_iff.1 (by simpa using h2.1)
  omega
 have w0 := hw 0 (by decide)
 have w1 := hw 1 (by decide)
 have w2 := hw 2 (by decide)
 have w3 := hw 3 (by decide)
 have w4 := hw 4 (by decide)
 have w5 := hw 5 (by decide)
 have w6 := hw 6 (by decide)
 simp only [frAt, toAt, List.getD_eq_getElem?_getD] at w0 w1 w2 w3 w4 w5 w6
 simp at w0 w1 w2 w3 w4 w5 w6
 intro x hx
 simp only [List.mem_cons, List.not_mem_nil, or_false] at hx
 rcases hx with rfl | rfl | rfl | rfl | rfl | rfl | rfl | rfl | rfl | rfl | rfl | rfl | rfl | rfl <;> omega
theorem ftK_of {sl : List St} {cl : List Cs} {vl : List Vh} {pl : List Pl} (h : fleetE sl cl vl pl = 0) (ho : ∀ x ∈ sl, StOk x) : FtK sl cl vl pl := by
 have h1 := fe_all h (stationsE sl) (by simp)
 have h2 := fe_all h (classesE cl) (by simp)
 have h3 := fe_all h (vehsE cl vl) (by simp)
 have h4 := fe_all h (platesE vl pl) (by simp)
 have hc : ∀ x ∈ cl, GoodW x.key /\ (x.up = ⟨#[]⟩ ∨ (GoodW x.up /\ x.up ≠ dashS)) := fun x hx => by
  unfold classesE at h2
  split at h2
  ·cases h2
  ·split at h2
   ·rename_i h5; exact absurd h2 h5
   ·rename_i h5
    obtain ⟨q, hq⟩ := scanE_all (by simpa using h5 : scanE csE none cl = 0) x hx
    unfold csE at hq
    cases hk : keyB x.key with
    | false => rw [hk] at hq; simp at hq
    | true =>
     refine ⟨(key_good hk).1, ?_⟩
     cases he : emptyS x.up with
     | true => exact .inl (bytes_ext (by unfold emptyS at he; simpa using he))
     | false =>
      cases hu : keyB x.up with
      | true => exact .inr (key_good hu)
      | false =>
       rw [hk, he, hu] at hq
       simp at hq
       split at hq <;> cases hq
 have hv : ∀ x ∈ vl, GoodW x.key /\ GoodW x.cls := fun x hx => by
  unfold vehsE at h3
  split at h3
  ·cases h3
  ·obtain ⟨i1, i2⟩ := (rise_of h3).2.2 x hx
   obtain ⟨y, hy, e⟩ := fix_key (k := Cs.key) (fun z hz => bytes_ext (by unfold csP at hz; simpa using hz)) i2
   exact ⟨(key_good i1).1, by rw [<- e]; exact (hc y hy).1⟩
 refine ⟨fun x hx => ?_, hc, hv, fun x hx => ?_⟩
 ·unfold stationsE at h1
  split at h1
  ·cases h1
  ·obtain ⟨q, hq⟩ := scanE_all h1 x hx
   unfold stationE at hq
   split at hq
   ·cases hq
   ·rename_i i1
    split at hq
    ·cases hq
    ·split at hq
     ·cases hq
     ·rename_i i3
      exact ⟨(key_good (by simpa using i1)).1, (ho x hx).1, hrsK_ok (ho x hx).1 (by simpa using i3)⟩
 ·unfold platesE at h4
  split at h4
  ·cases h4
  ·obtain ⟨q, hq⟩ := plG_all h4 x hx
   unfold plE at hq
   split at hq
   ·cases hq
   ·rename_i i1
    split at hq
    ·cases hq
    ·rename_i i2
     split at hq
     ·cases hq
     ·rename_i i3
      obtain ⟨y, hy, e⟩ := fix_key (k := Vh.key) (b := x.veh) (fun z hz => bytes_ext (by unfold vhP at hz; simpa using hz)) (show 0 <= ixP (vhP x.veh) vl 0 by omega)
      have k1 := inB_iff.1 (show inB x.fr 0 5761439 = true by simpa using i1)
      exact ⟨by omega, by rw [<- e]; exact (hv y hy).1, plate_good (by simpa using i3)⟩
theorem w_good : GoodW stW /\ GoodW clW /\ GoodW vhW /\ GoodW plW := by
 unfold GoodW stW clW vhW plW
 decide +kernel
theorem dsh_und {u : ByteArray} (h : u = ⟨#[]⟩ ∨ (GoodW u /\ u ≠ dashS)) : GoodW (dsh u) /\ und (dsh u) = u := by
  rcases h with rfl | ⟨h1, h2⟩
  · rw [show dsh ⟨#[]⟩ = dashS from if_pos (beq_self_eq_true _)]
    exact ⟨by unfold GoodW dashS; decide +kernel, if_pos (beq_self_eq_true _)⟩
  · have e : dsh u = u := if_neg fun hq => by
      have h3 : u = ⟨#[]⟩ := bytes_ext (by simpa using hq)
      have h4 := h1.1
      rw [h3] at h4
      exact absurd h4 (by decide)
    rw [e]
    exact ⟨h1, if_neg fun hq => h2 (bytes_ext (by simpa using hq))⟩
theorem st_it {x : St} (h : GoodW x.key /\ x.hs.length = 14 /\ ∀ h ∈ x.hs, 0 <= h /\ h <= 999999999) : fIt (fLn (stPs x)) = some (.st x) /\ (10 : UInt8) ∉ (fLn (stPs x)).data.toList /\ (fLn (stPs x)).data.toList ++ [10] = stLnL x := by
 obtain ⟨k, hs⟩ := x
 obtain ⟨hk, hl, hb⟩ := h
 dsimp only at hk hl hb
 obtain ⟨h0, h1, h2, h3, h4, h5, h6, h7, h8, h9, h10, h11, h12, h13, rfl⟩ := bkL14 hl
 have o0 := winW_ok (hb h0 (by simp)) (hb h1 (by simp))
 have o1 := winW_ok (hb h2 (by simp)) (hb h3 (by simp))
 have o2 := winW_ok (hb h4 (by simp)) (hb h5 (by simp))
 have o3 := winW_ok (hb h6 (by simp)) (hb h7 (by simp))
 have o4 := winW_ok (hb h8 (by simp)) (hb h9 (by simp))
 have o5 := winW_ok (hb h10 (by simp)) (hb h11 (by simp))
 have o6 := winW_ok (hb h12 (by simp)) (hb h13 (by simp))
 have hg : ∀ y ∈ [stW, k, winW h0 h1, winW h2 h3, winW h4 h5, winW h6 h7, winW h8 h9, winW h10 h11, winW h12 h13], GoodW y := fun y hy => by
  simp only [List.mem_cons, List.not_mem_nil, or_false] at hy
  rcases hy with rfl | rfl | rfl | rfl | rfl | rfl | rfl | rfl | rfl
  ·exact w_good.1
  ·exact hk
  all_goals exact winW_good _ _
 obtain ⟨e1, e2⟩ := line_back (ws := [stW, k, winW h0 h1, winW h2 h3, winW h4 h5, winW h6 h7, winW h8 h9, winW h10 h11, winW h12 h13]) (by simp) hg
 refine ⟨e1.trans ?_, e2, (st_parts ..).symm⟩
 rw [item_st (by simp [o0.1, o1.1, o2.1, o3.1, o4.1, o5.1, o6.1])]
 unfold stOf
 rw [o0.2.1, o0.2.2, o1.2.1, o1.2.2, o2.2.1, o2.2.2, o3.2.1, o3.2.2, o4.2.1, o4.2.2, o5.2.1, o5.2.2, o6.2.1, o6.2.2]
theorem cs_it {x : Cs} (h : GoodW x.key /\ (x.up = ⟨#[]⟩ ∨ (GoodW x.up /\ x.up ≠ dashS))) : fIt (fLn (csPs x)) = some (.cs x) /\ (10 : UInt8) ∉ (fLn (csPs x)).data.toList /\ (fLn (csPs x)).data.toList ++ [10] = (clLn x).data.toList := by
 obtain ⟨k, u⟩ := x
 obtain ⟨hk, hu⟩ := h
 obtain ⟨d1, d2⟩ := dsh_und hu
 obtain ⟨e1, e2⟩ := line_back (ws := csPs ⟨k, u⟩) (by simp [csPs]) fun y hy => by
  simp only [csPs, List.mem_cons, List.not_mem_nil, or_false] at hy
  rcases hy with rfl | rfl | rfl
  ·exact w_good.2.1
  ·exact hk
  ·exact d1
 refine ⟨e1.trans ?_, e2, (ln_nl _).symm⟩
 unfold csPs
 rw [item_cs]
 dsimp only at d2 ⊢
 rw [d2]
theorem vh_it {x : Vh} (h : GoodW x.key /\ GoodW x.cls) : fIt (fLn (vhPs x)) = some (.vh x) /\ (10 : UInt8) ∉ (fLn (vhPs x)).data.toList /\ (fLn (vhPs x)).data.toList ++ [10] = (vhLn x).data.toList := by
 obtain ⟨k, u⟩ := x
 obtain ⟨e1, e2⟩ := line_back (ws := vhPs ⟨k, u⟩) (by simp [vhPs]) fun y hy => by
  simp only [vhPs, List.mem_cons, List.not_mem_nil, or_false] at hy
  rcases hy with rfl | rfl | rfl
  ·exact w_good.2.2.1
  ·exact h.1
  ·exact h.2
 exact ⟨e1.trans (item_vh _ _), e2, (ln_nl _).symm⟩
theorem pl_it {x : Pl} (h : (0 <= x.fr /\ x.fr <= 999999999) /\ GoodW x.veh /\ GoodW x.plate) : fIt (fLn (plPs x)) = some (.pl x) /\ (10 : UInt8) ∉ (fLn (plPs x)).data.toList /\ (fLn (plPs x)).data.toList ++ [10] = (plLn x).data.toList := by
 obtain ⟨f, v, p⟩ := x
 obtain ⟨hf, hv, hp⟩ := h
 dsimp only at hf hv hp
 have hn := num_back (v := f) (by omega)
 obtain ⟨e1, e2⟩ := line_back (ws := plPs ⟨f, v, p⟩) (by simp [plPs]) fun y hy => by
  simp only [plPs, List.mem_cons, List.not_mem_nil, or_false] at hy
  rcases hy with rfl | rfl | rfl | rfl
  ·exact w_good.2.2.2
  ·exact itoa_good _
  ·exact hv
  ·exact hp
 refine ⟨e1.trans ?_, e2, (ln_nl _).symm⟩
 unfold plPs
 rw [item_pl _ _ hn.1, hn.2]
theorem run_st : ∀ (l : List St) (st : FsZ), (∀ x ∈ l, fIt (fLn (stPs x)) = some (.st x)) -> st.last <= 1 -> ∃ la : Int, la <= 1 /\ runL fStep (l.map (fLn ∘ stPs)) st = some ⟨st.sl ++ l, st.cl, st.vl, st.pl, la⟩
 | [], st, _, hl => ⟨st.last, hl, by simp [runL]⟩
 | x :: l, st, h, hl => by
  have hi := h x (List.mem_cons_self ..)
  have hs := fStep_yes (s := st) hi (show ¬ (1 : Int) < st.last by omega)
  obtain ⟨la, h1, h2⟩ := run_st l ⟨st.sl ++ [x], st.cl, st.vl, st.pl, 1⟩ (fun y hy => h y (List.mem_cons_of_mem _ hy)) (Int.le_refl _)
  refine ⟨la, h1, ?_⟩
  rw [List.map_cons]
  unfold runL
  rw [show (fLn ∘ stPs) x = fLn (stPs x) from rfl, hs, if_pos rfl]
  refine Eq.trans h2 ?_
  simp
theorem run_cs : ∀ (l : List Cs) (st : FsZ), (∀ x ∈ l, fIt (fLn (csPs x)) = some (.cs x)) -> st.last <= 2 -> ∃ la : Int, la <= 2 /\ runL fStep (l.map (fLn ∘ csPs)) st = some ⟨st.sl, st.cl ++ l, st.vl, st.pl, la⟩
 | [], st, _, hl => ⟨st.last, hl, by simp [runL]⟩
 | x :: l, st, h, hl => by
  have hi := h x (List.mem_cons_self ..)
  have hs := fStep_yes (s := st) hi (show ¬ (2 : Int) < st.last by omega)
  obtain ⟨la, h1, h2⟩ := run_cs l ⟨st.sl, st.cl ++ [x], st.vl, st.pl, 2⟩ (fun y hy => h y (List.mem_cons_of_mem _ hy)) (Int.le_refl _)
  refine ⟨la, h1, ?_⟩
  rw [List.map_cons]
  unfold runL
  rw [show (fLn ∘ csPs) x = fLn (csPs x) from rfl, hs, if_pos rfl]
  refine Eq.trans h2 ?_
  simp
theorem run_vh : ∀ (l : List Vh) (st : FsZ), (∀ x ∈ l, fIt (fLn (vhPs x)) = some (.vh x)) -> st.last <= 3 -> ∃ la : Int, la <= 3 /\ runL fStep (l.map (fLn ∘ vhPs)) st = some ⟨st.sl, st.cl, st.vl ++ l, st.pl, la⟩
 | [], st, _, hl => ⟨st.last, hl, by simp [runL]⟩
 | x :: l, st, h, hl => by
  have hi := h x (List.mem_cons_self ..)
  have hs := fStep_yes (s := st) hi (show ¬ (3 : Int) < st.last by omega)
  obtain ⟨la, h1, h2⟩ := run_vh l ⟨st.sl, st.cl, st.vl ++ [x], st.pl, 3⟩ (fun y hy => h y (List.mem_cons_of_mem _ hy)) (Int.le_refl _)
  refine ⟨la, h1, ?_⟩
  rw [List.map_cons]
  unfold runL
  rw [show (fLn ∘ vhPs) x = fLn (vhPs x) from rfl, hs, if_pos rfl]
  refine Eq.trans h2 ?_
  simp
theorem run_pl : ∀ (l : List Pl) (st : FsZ), (∀ x ∈ l, fIt (fLn (plPs x)) = some (.pl x)) -> st.last <= 4 -> ∃ la : Int, la <= 4 /\ runL fStep (l.map (fLn ∘ plPs)) st = some ⟨st.sl, st.cl, st.vl, st.pl ++ l, la⟩
 | [], st, _, hl => ⟨st.last, hl, by simp [runL]⟩
 | x :: l, st, h, hl => by
  have hi := h x (List.mem_cons_self ..)
  have hs := fStep_yes (s := st) hi (show ¬ (4 : Int) < st.last by omega)
  obtain ⟨la, h1, h2⟩ := run_pl l ⟨st.sl, st.cl, st.vl, st.pl ++ [x], 4⟩ (fun y hy => h y (List.mem_cons_of_mem _ hy)) (Int.le_refl _)
  refine ⟨la, h1, ?_⟩
  rw [List.map_cons]
  unfold runL
  rw [show (fLn ∘ plPs) x = fLn (plPs x) from rfl, hs, if_pos rfl]
  refine Eq.trans h2 ?_
  simp
def flLs (sl : List St) (cl : List Cs) (vl : List Vh) (pl : List Pl) : List ByteArray := ((sl.map (fLn ∘ stPs) ++ cl.map (fLn ∘ csPs)) ++ vl.map (fLn ∘ vhPs)) ++ pl.map (fLn ∘ plPs)
theorem fleet_back {sl : List St} {cl : List Cs} {vl : List Vh} {pl : List Pl} (hk : FtK sl cl vl pl) : ∃ la, flR (mkB (flD sl cl vl pl)) = (0, true, ⟨sl, cl, vl, pl, la⟩) := by
 obtain ⟨k1, k2, k3, k4⟩ := hk
 have e : lnT (flLs sl cl vl pl) = flD sl cl vl pl := by
  unfold flLs flD flC flB flA
  rw [lnT_app, lnT_app, lnT_app, lnT_map (f := fLn ∘ stPs) fun x hx => (st_it (k1 x hx)).2.2, lnT_map (f := fLn ∘ csPs) fun x hx => (cs_it (k2 x hx)).2.2, lnT_map (f := fLn ∘ vhPs) fun x hx => (vh_it (k3 x hx)).2.2, lnT_map (f := fLn ∘ plPs) fun x hx => (pl_it (k4 x hx)).2.2]
 obtain ⟨a1, b1, r1⟩ := run_st sl fs0 (fun x hx => (st_it (k1 x hx)).1) (by show (1 : Int) <= 1; decide)
 obtain ⟨a2, b2, r2⟩ := run_cs cl ⟨sl, [], [], [], a1⟩ (fun x hx => (cs_it (k2 x hx)).1) (by dsimp only; omega)
 obtain ⟨a3, b3, r3⟩ := run_vh vl ⟨sl, cl, [], [], a2⟩ (fun x hx => (vh_it (k3 x hx)).1) (by dsimp only; omega)
 obtain ⟨a4, b4, r4⟩ := run_pl pl ⟨sl, cl, vl, [], a3⟩ (fun x hx => (pl_it (k4 x hx)).1) (by dsimp only; omega)
 refine ⟨a4, ?_⟩
 rw [<- e]
 unfold flR linesR
 refine lines_run (flLs sl cl vl pl) _ _ _ _ (fun c hc => ?_) ?_ (by rw [mkB_sz]; omega)
 ·unfold flLs at hc
  simp only [List.mem_append, List.mem_map] at hc
  rcases hc with ((⟨x, hx, rfl⟩ | ⟨x, hx, rfl⟩) | ⟨x, hx, rfl⟩) | ⟨x, hx, rfl⟩
  ·exact (st_it (k1 x hx)).2.1
  ·exact (cs_it (k2 x hx)).2.1
  ·exact (vh_it (k3 x hx)).2.1
  ·exact (pl_it (k4 x hx)).2.1
 ·unfold flLs
  rw [List.append_assoc, List.append_assoc, runL_app _ _ _ _ r1]
  refine (runL_app _ _ _ _ r2).trans ?_
  exact (runL_app _ _ _ _ r3).trans r4
theorem item_ln {c : ByteArray} {x : FIt} (h : fIt c = some x) : c.data.toList ++ [10] = lnOf x := by
 obtain ⟨e, hi, hne⟩ := back_line h
 rw [<- e]
 revert hi hne
 generalize wdL c = ws
 intro hi hne
 unfold fItem at hi
 split at hi
 ·rename_i a0 a1 a2
  split at hi
  ·rename_i h0
   cases hi
   have hd : dsh (und a2) = a2 := by
    unfold und
    split
    ·rename_i hq
     rw [show dsh ⟨#[]⟩ = dashS from if_pos (beq_self_eq_true _)]
     exact (bytes_ext (by simpa using hq)).symm
    ·exact if_neg fun hq => hne a2 (by simp) (bytes_ext (by simpa using hq))
   rw [eqS_iff.1 h0]
   show _ = ((joinS [clW, a1, dsh (und a2)] ⟨#[32]⟩) ++ (⟨#[10]⟩ : ByteArray)).data.toList
   rw [hd, ln_nl]
  ·split at hi
   ·rename_i h0
    cases hi
    rw [eqS_iff.1 h0]
    exact (ln_nl _).symm
   ·cases hi
 ·split at hi
  ·rename_i h0
   rw [Bool.and_eq_true] at h0
   cases hi
   rw [eqS_iff.1 h0.1]
   show _ = ((joinS [plW, itoaS (numV _), _, _] ⟨#[32]⟩) ++ (⟨#[10]⟩ : ByteArray)).data.toList
   rw [back_num h0.2, ln_nl]
  ·cases hi
 ·split at hi
  ·rename_i h0
   rw [Bool.and_eq_true] at h0
   cases hi
   rw [eqS_iff.1 h0.1]
   obtain ⟨g1, h2⟩ := h0
   simp only [List.all_cons, List.all_nil, Bool.and_eq_true, and_true] at h2
   obtain ⟨j0, j1, j2, j3, j4, j5, j6⟩ := h2
   unfold stOf
   show _ = stLnL _
   rw [st_parts, winW_back j0, winW_back j1, winW_back j2, winW_back j3, winW_back j4, winW_back j5, winW_back j6]; rfl
  ·cases hi
 ·cases hi
def FOrd (s : FsZ) : Prop := (s.last <= 1 -> s.cl = [] /\ s.vl = [] /\ s.pl = []) /\ (s.last <= 2 -> s.vl = [] /\ s.pl = []) /\ (s.last <= 3 -> s.pl = [])
theorem push_ln {s : FsZ} {x : FIt} (ho : FOrd s) (h : ¬ x.kd < s.last) : flD (fPush s x).sl (fPush s x).cl (fPush s x).vl (fPush s x).pl = flD s.sl s.cl s.vl s.pl ++ lnOf x /\ FOrd (fPush s x) := by
 obtain ⟨sl, cl, vl, pl, la⟩ := s
 obtain ⟨o1, o2, o3⟩ := ho
 dsimp only at o1 o2 o3 h
 cases x with
 | st y =>
  obtain ⟨rfl, rfl, rfl⟩ := o1 (by have h2 : ¬ (1 : Int) < la := h; omega)
  refine ⟨by unfold fPush flD flC flB flA lnOf; simp, fun _ => ⟨rfl, rfl, rfl⟩, fun _ => ⟨rfl, rfl⟩, fun _ => rfl⟩
 | cs y =>
  obtain ⟨rfl, rfl⟩ := o2 (by have h2 : ¬ (2 : Int) < la := h; omega)
  refine ⟨by unfold fPush flD flC flB flA lnOf; simp, fun h9 => absurd (show (2 : Int) <= 1 from h9) (by decide), fun _ => ⟨rfl, rfl⟩, fun _ => rfl⟩
 | vh y =>
  obtain rfl := o3 (by have h2 : ¬ (3 : Int) < la := h; omega)
  refine ⟨by unfold fPush flD flC flB flA lnOf; simp, fun h9 => absurd (show (3 : Int) <= 1 from h9) (by decide), fun h9 => absurd (show (3 : Int) <= 2 from h9) (by decide), fun _ => rfl⟩
 | pl y =>
  refine ⟨by unfold fPush flD flC flB flA lnOf; simp, fun h9 => absurd (show (4 : Int) <= 1 from h9) (by decide), fun h9 => absurd (show (4 : Int) <= 2 from h9) (by decide), fun h9 => absurd (show (4 : Int) <= 3 from h9) (by decide)⟩
theorem run_ln : ∀ (ls : List ByteArray) (s s' : FsZ), FOrd s -> runL fStep ls s = some s' -> flD s'.sl s'.cl s'.vl s'.pl = flD s.sl s.cl s.vl s.pl ++ lnT ls
 | [], s, s', _, h => by cases h; unfold lnT; simp
 | c :: r, s, s', ho, h => by
  unfold runL at h
  split at h
  ·rename_i h1
   cases hi : fIt c with
   | none => rw [fStep_no hi] at h1; cases h1
   | some x =>
    by_cases hk : x.kd < s.last
    ·rw [fStep_low hi hk] at h1; cases h1
    ·rw [fStep_yes hi hk] at h
     obtain ⟨p1, p2⟩ := push_ln ho hk
     rw [run_ln r _ s' p2 h, p1, List.append_assoc, <- item_ln hi, lnT_cons]
     simp
  ·cases h
theorem back_fleet {t : ByteArray} (h : (flR t).2.1 = true) : mkB (flD (flR t).2.2.sl (flR t).2.2.cl (flR t).2.2.vl (flR t).2.2.pl) = t := by
 obtain ⟨n, b, s', hR⟩ : ∃ n b s', flR t = (n, b, s') := ⟨_, _, _, rfl⟩
 rw [hR] at h ⊢
 dsimp only at h ⊢
 subst h
 obtain ⟨ls, _, e, hr⟩ := run_lines (t.size + 1) t 0 n fs0 s' (Nat.lt_succ_self _) hR
 have h2 := run_ln ls fs0 s' ⟨fun _ => ⟨rfl, rfl, rfl⟩, fun _ => ⟨rfl, rfl⟩, fun _ => rfl⟩ hr
 rw [h2, e]
 have e0 : flD fs0.sl fs0.cl fs0.vl fs0.pl = [] := rfl
 rw [e0, List.nil_append, <- e]
theorem fl_back {sl : List St} {cl : List Cs} {vl : List Vh} {pl : List Pl} (h : fleetE sl cl vl pl = 0) (ho : ∀ x ∈ sl, StOk x) (hz : (flD sl cl vl pl).length <= 200000) : flE (mkB (flD sl cl vl pl)) = 0 /\ ∃ la, flF (mkB (flD sl cl vl pl)) = ⟨sl, cl, vl, pl, la⟩ := by
 obtain ⟨la, hR⟩ := fleet_back (ftK_of h ho)
 have h1 := fl_right (t := mkB (flD sl cl vl pl)) (by rw [mkB_sz]; omega) (by rw [hR]) (by rw [hR]; exact h)
 rw [hR] at h1
 exact ⟨h1.1, la, h1.2.2⟩
theorem fl_again {u : ByteArray} (h : flE u = 0) : mkB (flD (flF u).sl (flF u).cl (flF u).vl (flF u).pl) = u /\ fsE (flF u) = 0 := by
 by_cases h1 : 200000 < u.size
 ·rw [(fl_big h1).1] at h; cases h
 ·cases h2 : (flR u).2.1 with
  | false => rw [(fl_syn h1 h2).1] at h; cases h
  | true =>
   by_cases h3 : fsE (flR u).2.2 = 0
   ·rw [(fl_right h1 h2 h3).2.2]
    exact ⟨back_fleet h2, h3⟩
   ·rw [(fl_form h1 h2 h3).1] at h
    exact absurd h h3
end Go.Proofs.YtempjmpfdniecaaGreatDoor
namespace Go.Proofs.YtempjmpfdniecaaGreatDoor
open Go.RowKit
structure Ev where
  at_ : Int
  veh : ByteArray
  sta : ByteArray
  kd : Int
  to_ : ByteArray
def evEnc (x : Ev) : List Value := [.int .i64 x.at_, .string x.veh, .string x.sta, .int .i64 x.kd, .string x.to_]
theorem ev_len (x : Ev) : (evEnc x).length = 5 := rfl
def EvOk (x : Ev) : Prop := (-4000000000000000000 <= x.at_ /\ x.at_ <= 4000000000000000000) /\ (-4000000000000000000 <= x.kd /\ x.kd <= 4000000000000000000) /\ x.veh.size <= 1000000 /\ x.sta.size <= 1000000 /\ x.to_.size <= 1000000
structure Sa where
  st : Int
  sta : ByteArray
  since : Int
def saEnc (x : Sa) : List Value := [.int .i64 x.st, .string x.sta, .int .i64 x.since]
theorem sa_len (x : Sa) : (saEnc x).length = 3 := rfl
def sa0 : Sa := ⟨0, ⟨#[]⟩, 0⟩
def stP (k : ByteArray) (x : St) : Bool := x.key.toList == k.toList
def evOrd (a b : Ev) : Int := firstE [cmpI a.at_ b.at_, cmpS a.veh b.veh]
def evO (p : Option Ev) (x : Ev) : Bool := match p with
 | none => false
 | some q => decide (0 <= evOrd q x)
def evE (ss : List St) (vs : List Vh) (p : Option Ev) (x : Ev) : Int :=
 if inB x.at_ 0 5761439 = false then 1 else if (decide (ixP (vhP x.veh) vs 0 < 0) || !ss.any (stP x.sta)) = true then 8 else if inB x.kd 1 8 = false then 4
 else if (!decide (x.kd = 6) && !(x.to_.toList == (⟨#[]⟩ : ByteArray).toList)) = true then 3 else if (decide (x.kd = 6) && !ss.any (stP x.to_)) = true then 8 else if (x.to_.toList == x.sta.toList) = true then 14 else if evO p x = true then 7 else 0
def logE (ss : List St) (vs : List Vh) (l : List Ev) : Int := if 3000 < l.length then 2 else scanE (evE ss vs) none l
theorem cmpI_neg {a b : Int} : cmpI a b < 0 ↔ a < b := by unfold cmpI; split <;> (try split) <;> omega
theorem cmpI_zero {a b : Int} : cmpI a b = 0 ↔ a = b := by unfold cmpI; split <;> (try split) <;> omega
theorem evOrd_neg {a b : Ev} : evOrd a b < 0 ↔ a.at_ < b.at_ ∨ (a.at_ = b.at_ /\ Go.Op.bytesLess a.veh.toList b.veh.toList = true) := by
 unfold evOrd
 by_cases h : cmpI a.at_ b.at_ = 0
 ·have e := cmpI_zero.1 h
  have e2 : firstE [cmpI a.at_ b.at_, cmpS a.veh b.veh] = cmpS a.veh b.veh := by
   by_cases h2 : cmpS a.veh b.veh = 0
   ·simp [firstE, h, h2]
   ·simp only [firstE, if_pos h, if_neg h2]
  rw [e2, cmpS_neg]
  exact ⟨fun h4 => .inr ⟨e, h4⟩, fun h4 => by
   rcases h4 with h4 | h4
   ·omega
   ·exact h4.2⟩
 ·have e2 : firstE [cmpI a.at_ b.at_, cmpS a.veh b.veh] = cmpI a.at_ b.at_ := by simp [firstE, h]
  rw [e2, cmpI_neg]
  have : a.at_ ≠ b.at_ := fun e => h (cmpI_zero.2 e)
  exact ⟨.inl, fun h4 => by
   rcases h4 with h4 | h4
   ·exact h4
   ·exact absurd h4.1 this⟩
theorem evOrd_trans {a b d : Ev} (h1 : evOrd a b < 0) (h2 : evOrd b d < 0) : evOrd a d < 0 := by
 rw [evOrd_neg] at *
 rcases h1 with h1 | ⟨h1, h3⟩ <;> rcases h2 with h2 | ⟨h2, h4⟩
 ·exact .inl (by omega)
 ·exact .inl (by omega)
 ·exact .inl (by omega)
 ·exact .inr ⟨by omega, bl_trans h3 h4⟩
def ESort (l : List Ev) : Prop := l.Pairwise fun a b => evOrd a b < 0
structure EvFine (ss : List St) (vs : List Vh) (x : Ev) : Prop where
  at_ : 0 <= x.at_ /\ x.at_ <= 5761439
  veh : 0 <= ixP (vhP x.veh) vs 0
  sta : ss.any (stP x.sta) = true
  kd : 1 <= x.kd /\ x.kd <= 8
  ne : x.to_ ≠ x.sta
theorem evE_zero {ss : List St} {vs : List Vh} {p : Option Ev} {x : Ev} (h : evE ss vs p x = 0) : EvFine ss vs x /\ evO p x = false := by
 unfold evE at h
 split at h
 ·cases h
 ·rename_i h1
  split at h
  ·cases h
  ·rename_i h2
   split at h
   ·cases h
   ·rename_i h3
    split at h
    ·cases h
    ·split at h
     ·cases h
     ·split at h
      ·cases h
      ·rename_i h6
       split at h
       ·cases h
       ·rename_i h7
        simp only [Bool.not_eq_false] at h1 h3
        simp only [Bool.or_eq_true, decide_eq_true_eq, Bool.not_eq_true', not_or, Bool.not_eq_false] at h2
        exact ⟨⟨inB_iff.1 h1, by omega, h2.2, inB_iff.1 h3, fun e => h6 (by rw [e]; exact beq_self_eq_true _)⟩, by simpa using h7⟩
theorem log_fine {ss : List St} {vs : List Vh} : ∀ {l : List Ev} {p : Option Ev}, scanE (evE ss vs) p l = 0 -> ESort l /\ (∀ q, p = some q -> ∀ x ∈ l, evOrd q x < 0) /\ ∀ x ∈ l, EvFine ss vs x
 | [], _, _ => ⟨List.Pairwise.nil, (fun _ _ x hx => by cases hx), (fun x hx => by cases hx)⟩
 | b :: r, p, h => by
  unfold scanE at h
  by_cases hb : evE ss vs p b = 0
  ·rw [if_pos hb] at h
   obtain ⟨h1, h2, h3⟩ := log_fine h
   obtain ⟨hf, ho⟩ := evE_zero hb
   refine ⟨List.Pairwise.cons (fun x hx => h2 b rfl x hx) h1, fun q hq x hx => ?_, fun x hx => ?_⟩
   ·subst hq
    have hlt : evOrd q b < 0 := by
     have := of_decide_eq_false (show decide (0 <= evOrd q b) = false from ho)
     omega
    rcases List.mem_cons.1 hx with rfl | hx
    ·exact hlt
    ·exact evOrd_trans hlt (h2 b rfl x hx)
   ·rcases List.mem_cons.1 hx with rfl | hx
    ·exact hf
    ·exact h3 x hx
  ·rw [if_neg hb] at h
   exact absurd h hb
def goodB (s : Sa) (x : Ev) : Bool :=
 if x.kd = 1 then decide (s.st = 0) else if x.kd = 3 then decide (s.st = 2) else if x.kd = 5 then decide (s.st = 3) && s.sta.toList == x.sta.toList else if x.kd = 7 then decide (s.st = 4) && s.sta.toList == x.sta.toList
 else if x.kd = 2 ∨ x.kd = 4 ∨ x.kd = 6 ∨ x.kd = 8 then decide (s.st = 1) && s.sta.toList == x.sta.toList else false
def nextS (x : Ev) : Sa :=
 if x.kd = 2 then ⟨2, ⟨#[]⟩, x.at_⟩ else if x.kd = 4 then ⟨3, x.sta, x.at_⟩ else if x.kd = 6 then ⟨4, x.to_, x.at_⟩ else if x.kd = 8 then ⟨5, ⟨#[]⟩, x.at_⟩ else ⟨1, x.sta, x.at_⟩
theorem nextS_st (x : Ev) : 1 <= (nextS x).st /\ (nextS x).st <= 5 := by
 unfold nextS
 repeat' split
 all_goals exact ⟨by simp, by simp⟩
def stgs (v : ByteArray) : List Ev -> Sa -> List Sa
 | [], _ => []
 | x :: r, s => if (x.veh.toList == v.toList) = true then (if goodB s x = true then nextS x :: stgs v r (nextS x) else stgs v r s) else stgs v r s
def brks (v : ByteArray) : List Ev -> Nat -> Sa -> List Nat
 | [], _, _ => []
 | x :: r, i, s => if (x.veh.toList == v.toList) = true then (if goodB s x = true then brks v r (i + 1) (nextS x) else i :: brks v r (i + 1) s) else brks v r (i + 1) s
def stages (l : List Ev) (v : ByteArray) : List Sa := sa0 :: stgs v l sa0
def stateR (l : List Ev) (v : ByteArray) (at_ : Int) : Sa := ((stages l v).reverse.find? fun s => decide (s.since <= at_)).getD sa0
def SaFine (s : Sa) : Prop := 0 <= s.st /\ s.st <= 5 /\ s.sta.size <= 1000000
theorem nextS_fine {x : Ev} (h : EvOk x) : SaFine (nextS x) := by
 have := nextS_st x
 refine ⟨by omega, by omega, ?_⟩
 obtain ⟨_, _, _, h1, h2⟩ := h
 unfold nextS
 repeat' split
 all_goals first | exact h1 | exact h2 | exact Nat.zero_le _
theorem stgs_fine {v : ByteArray} : ∀ {l : List Ev} {s : Sa}, (∀ x ∈ l, EvOk x) -> ∀ z ∈ stgs v l s, SaFine z
 | [], _, _, z, hz => by cases hz
 | x :: r, s, h, z, hz => by
  have hr : ∀ y ∈ r, EvOk y := fun y hy => h y (List.mem_cons_of_mem _ hy)
  unfold stgs at hz
  split at hz
  ·split at hz
   ·rcases List.mem_cons.1 hz with rfl | hz
    ·exact nextS_fine (h x (List.mem_cons_self ..))
    ·exact stgs_fine hr z hz
   ·exact stgs_fine hr z hz
  ·exact stgs_fine hr z hz
theorem stages_fine {l : List Ev} {v : ByteArray} (h : ∀ x ∈ l, EvOk x) : ∀ z ∈ stages l v, SaFine z := fun z hz => by
 rcases List.mem_cons.1 hz with rfl | hz
 ·exact ⟨by decide, by decide, by decide⟩
 ·exact stgs_fine h z hz
theorem stateR_fine {l : List Ev} {v : ByteArray} {at_ : Int} (h : ∀ x ∈ l, EvOk x) : SaFine (stateR l v at_) := by
 unfold stateR
 cases hf : (stages l v).reverse.find? (fun s => decide (s.since <= at_)) with
 | none => exact ⟨by decide, by decide, by decide⟩
 | some z => exact stages_fine h z (List.mem_reverse.1 (List.mem_of_find?_eq_some hf))
theorem stgs_at {v : ByteArray} {l : List Ev} {i : Nat} {x : Ev} {s : Sa} (h : l[i]? = some x) : stgs v (l.drop i) s = if (x.veh.toList == v.toList) = true then (if goodB s x = true then nextS x :: stgs v (l.drop (i + 1)) (nextS x) else stgs v (l.drop (i + 1)) s) else stgs v (l.drop (i + 1)) s := by
 obtain ⟨hi, rfl⟩ := List.getElem?_eq_some_iff.1 h
 rw [List.drop_eq_getElem_cons hi]; rfl
theorem brks_at {v : ByteArray} {l : List Ev} {i : Nat} {x : Ev} {s : Sa} (h : l[i]? = some x) : brks v (l.drop i) i s = if (x.veh.toList == v.toList) = true then (if goodB s x = true then brks v (l.drop (i + 1)) (i + 1) (nextS x) else i :: brks v (l.drop (i + 1)) (i + 1) s) else brks v (l.drop (i + 1)) (i + 1) s := by
 obtain ⟨hi, rfl⟩ := List.getElem?_eq_some_iff.1 h
 rw [List.drop_eq_getElem_cons hi]; rfl
end Go.Proofs.YtempjmpfdniecaaGreatDoor
