/- The walk of lot.CheckStations. -/
import Derived.Test.YtcggbojhalbkjaaDoorWkey
import Derived.Test.YtcggbojhalbkjaaDoorCells
import Derived.Deep.LoopGhost
import Derived.Deep.DeepCutAuto
namespace Go.Proofs.YtcggbojhalbkjaaDoor
open Go.RowKit

def stEnc (s : St) : List Value := stCells s.key s.hs
def StOk (s : St) : Prop := s.hs.length = 14 ∧ s.key.size ≤ 1000000 ∧ ∀ h ∈ s.hs, -9223372036854775808 ≤ h ∧ h ≤ 9223372036854775807


theorem hrs_pair (hs : List Int) (j : Nat) (h : j * 2 + 1 < hs.length) : ((hs.map (Value.int .i64)).drop (j * 2)).take 2 = [.int .i64 (frAt hs j), .int .i64 (toAt hs j)] := by
  have h0 : j * 2 < (hs.map (Value.int .i64)).length := by simp; omega
  have h1 : j * 2 + 1 < (hs.map (Value.int .i64)).length := by simp; omega
  rw [List.drop_eq_getElem_cons h0, List.drop_eq_getElem_cons h1]
  simp [frAt, toAt, List.getD_eq_getElem?_getD, List.getElem?_eq_getElem (show j * 2 < hs.length by omega), List.getElem?_eq_getElem h]

set_option maxRecDepth 100000 in
set_option maxHeartbeats 1000000 in
theorem checkStations_any (l : List St) (A : Option Addr) (n c : Nat) (w : World) (hl : SlT stEnc 15 56 w A n l) (hok : ∀ s ∈ l, StOk s) (hn : n ≤ 1000000) :
    Calls Tryd.prog 32 #[.slice A n c] w fun e w' => e = .returned (.int .i64 (stationsE l)) ∧ w.grownBy w' none := by
  by_cases h50 : 50 < n
  · have hsp : stationsE l = 2 := by simp [stationsE, hl.len, h50]
    have Hsp := Lib.hid hsp; clear hsp
    go_enter Tryd.func32, Tryd.ntmps32
    go_wp2_with fail
    go_ret
    exact ⟨by rw [Hsp.out]; rfl, World.grownBy.refl _ _⟩
  · have hsp : stationsE l = scanE stationE (prevOf l 0) (l.drop 0) := by simp [stationsE, hl.len, h50, prevOf]
    have Hsp := Lib.hid hsp; clear hsp
    have hd : decide ((50 : Int) < (n : Int)) = false := by simp; omega
    go_enter Tryd.func32, Tryd.ntmps32
    go_wp2_with fail
    go_loopw [12] (fun i wr => ∃ k : Nat, k ≤ n ∧ i = .int .i64 k ∧ stationsE l = scanE stationE (prevOf l k) (l.drop k) ∧ w.grownBy wr none) (fun i _ => n - (intOf i).toNat)
    case atStart => exact ⟨0, Nat.zero_le _, rfl, Hsp.out, World.grownBy.refl _ _⟩
    case round =>
      obtain ⟨k, hk, rfl, hE, hgr⟩ := hrel
      have HE := Lib.hid hE; clear hE
      by_cases hlt : k < n
      · have hlr := hl.grow0 hgr
        obtain ⟨b, off, rfl, hbl, hrg⟩ := hlr.get (by omega)
        obtain ⟨x, hx⟩ : ∃ x, l[k]? = some x := ⟨_, List.getElem?_eq_getElem (by have := hl.len; omega)⟩
        have hxo := hok x (List.mem_of_getElem? hx)
        have hrx := hrg k x hx
        have hat := scanE_at stationE l k x hx
        have Hat := Lib.hid hat; clear hat
        have Hrg := Lib.hid hrg; clear hrg
        obtain ⟨key, hs⟩ := x
        have hrx : wr.rangeAt b (off + k * 15) (stCells key hs) := hrx
        have hl14 := Lib.hid (show hs.length = 14 from hxo.1)
        have hks : key.size ≤ 1000000 := hxo.2.1
        have hhb : ∀ h ∈ hs, -9223372036854775808 ≤ h ∧ h ≤ 9223372036854775807 := hxo.2.2
        have hln := fun (_ : True) => (st_len key hs hl14.out)
        have hst : (Tryd.prog.info? 56).map (·.size) = some (stCells key hs).length := by rw [hln trivial]; exact info_st
        have Hst := Lib.hid hst; clear hst hxo hln
        have hnew : Blk (wr.alloc (.cells #[.string ⟨#[]⟩, .int .i64 0, .int .i64 0, .int .i64 0, .int .i64 0, .int .i64 0, .int .i64 0, .int .i64 0, .int .i64 0, .int .i64 0, .int .i64 0, .int .i64 0, .int .i64 0, .int .i64 0, .int .i64 0] 56)) wr.heap.size 56 (stCells (⟨#[]⟩ : ByteArray) (List.replicate 14 0)) := Blk.at_ wr rfl _ _
        go_wp2_with (first
          | (with_reducible refine wpList_load_mid rfl 56 (.tmp 15) rfl b (off + k * 15) rfl (stCells key hs) _ hrx Tryd.underlying56 rfl Hst.out ?_)
          | (with_reducible refine wpList_store_all rfl 56 (.tmp 4) (.tmp 16) rfl wr.heap.size _ _ (stCells key hs) hnew rfl rfl 15 info_st (st_len _ _ hl14.out) (st_len _ _ (by simp)) (st_one _ _) ?_
             intro w1 hb1 hg1
             have hk1 : w1.cell? ⟨wr.heap.size, 0, none⟩ = some (.string key) := hb1.cell_of rfl))
        refine (isKey_any key _ (by omega)).mono ?_
        rintro e w2 ⟨rfl, rfl⟩
        have hgr1 : w.grownBy w1 none := grow_own (grow_alloc hgr _) hg1 (by simpa using hgr.size)
        have hgw : wr.grownBy w1 none := grow_own (grow_alloc (World.grownBy.refl _ _) _) hg1 (by simp)
        clear hrx hnew hg1
        by_cases hkey : keyB key = false
        · have h5 : stationE (prevOf l k) ⟨key, hs⟩ = 5 := by simp [stationE, hkey]
          have H5 := Lib.hid h5; clear h5
          go_wp2_with fail
          go_ret
          exact ⟨by rw [HE.out, Hat.out, if_neg (by rw [H5.out]; decide), H5.out]; rfl, hgr1⟩
        · have hkey : keyB key = true := by simpa using hkey
          obtain ⟨o8, ho8⟩ : ∃ o, o = prevB (prevOf l k) (fun q => leB key q.key) := ⟨_, rfl⟩
          have Ho8 := Lib.hid ho8; clear ho8
          go_upto_region 8 with fail
          go_cut [22] (fun v wx => v = .bool o8 ∧ ∃ nq, wx = w1.drewN nq)
          case first =>
            by_cases hk0 : k = 0
            · have hz : decide ((0 : Int) < (k : Int)) = false := by simp; omega
              have hz2 : decide (0 < k) = false := by simp; omega
              have ho : o8 = false := by rw [Ho8.out]; simp [prevB, prevOf, hk0]
              have Ho := Lib.hid ho
              clear ho hk0
              go_quiet (fail)
              go_wp2_with fail
              go_meet
              exact ⟨by rw [Ho.out], _, rfl⟩
            · have hz : (0 : Int) < (k : Int) := by omega
              have hz2 : decide (0 < k) = true := decide_eq_true (by omega)
              obtain ⟨q, hq⟩ : ∃ q, l[k - 1]? = some q := ⟨_, List.getElem?_eq_getElem (by have := hl.len; omega)⟩
              have hrq := Hrg.out (k - 1) q hq
              have ho : o8 = leB key q.key := by rw [Ho8.out]; simp [prevB, prevOf, hk0, hq]
              have Ho := Lib.hid ho
              have hqk : wr.cell? ⟨b, off + (k - 1) * 15, none⟩ = some (.string q.key) := hrq 0 _ rfl
              have hki : (k : Int) - 1 = ((k - 1 : Nat) : Int) := by omega
              have hk1n : (k : Int) - 1 < (n : Int) := by omega
              have hqk1 : w1.cell? ⟨b, off + (k - 1) * 15, none⟩ = some (.string q.key) := (World.cell?_of_block (hgw.block b hbl (by simp))).trans hqk
              clear ho hk0 hq hrq
              go_quiet (fail)
              go_wp2_with fail
              go_meet
              exact ⟨by rw [Ho.out]; rfl, _, rfl⟩
          case rest =>
            obtain ⟨rfl, nq, rfl⟩ := hcut
            have hb2 : Blk (w1.drewN nq) wr.heap.size 56 (stCells key hs) := hb1.drewN nq
            have hgr2 : w.grownBy (w1.drewN nq) none := grow_drewN hgr1 nq
            clear hb1 hgr1 hgw
            obtain ⟨w2, hw2⟩ : ∃ w2, w2 = w1.drewN nq := ⟨_, rfl⟩
            rw [← hw2] at hb2 hgr2 ⊢
            clear hw2
            cases o8
            · have hE1 : stationE (prevOf l k) ⟨key, hs⟩ = if hoursBad hs then 1 else 0 := by
                have ho := Ho8.out
                unfold stationE
                rw [if_neg (by simp [hkey]), show prevB (prevOf l k) (fun q => leB (⟨key, hs⟩ : St).key q.key) = _ from ho.symm]
                rfl
              have HE1 := Lib.hid hE1; clear hE1
              have hvv : ∀ j v, (hs.map (Value.int .i64))[j]? = some v → (stCells key hs)[1 + j]? = some v := fun j v hv => by rw [Nat.add_comm]; exact hv
              have Hvv := Lib.hid hvv; clear hvv
              go_wp2_with (with_reducible refine wpList_load_blk rfl 54 (.tmp 36) rfl wr.heap.size 1 _ (stCells key hs) (hs.map (Value.int .i64)) _ hb2 rfl Tryd.underlying54 rfl 14 info_hours (by simpa using hl14.out) Hvv.out ?_)
              obtain ⟨wo, hwo⟩ : ∃ wo : World, wo = wr := ⟨_, rfl⟩
              rw [← hwo] at hb2 ⊢
              clear hwo
              go_loopw [38] (fun i wr => ∃ j : Nat, j ≤ 7 ∧ i = .int .i64 j ∧ (∀ t, t < j → winBad (frAt hs t) (toAt hs t) = false) ∧ w.grownBy wr none) (fun i _ => 7 - (intOf i).toNat)
              case atStart => exact ⟨0, by omega, rfl, fun t ht => absurd ht (by omega), hgr2⟩
              case round =>
                obtain ⟨j, hj, rfl, hJ, hgj⟩ := hrel
                have HJ := Lib.hid hJ; clear hJ
                by_cases hj7 : j < 7
                · have hvs : ((hs.map (Value.int .i64)).drop (j * 2)).take 2 = [.int .i64 (frAt hs j), .int .i64 (toAt hs j)] := hrs_pair hs j (by have := hl14.out; omega)
                  have Hvs := Lib.hid hvs; clear hvs
                  obtain ⟨f, hf⟩ : ∃ f, f = frAt hs j := ⟨_, rfl⟩
                  obtain ⟨t, ht⟩ : ∃ t, t = toAt hs j := ⟨_, rfl⟩
                  rw [← hf, ← ht] at Hvs
                  have Hf := Lib.hid hf
                  have Ht := Lib.hid ht
                  clear hf ht
                  go_wp2_with (with_reducible refine wpList_index_row rfl 54 (.tmp 37) (.tmp 38) rfl (hs.map (Value.int .i64)) j rfl rfl 7 _ Tryd.underlying54 _ Tryd.underlying31 rfl 2 info_win hj7 [.int .i64 f, .int .i64 t] Hvs.out ?_)
                  refine (in_any _ _ _ _).mono ?_
                  rintro e w3 ⟨rfl, rfl⟩
                  obtain ⟨x, hx⟩ : ∃ x, inB f 0 t = x := ⟨_, rfl⟩
                  rw [hx]
                  have Hx := Lib.hid hx; clear hx
                  by_cases hbad : winBad f t = true
                  · have hany : hoursBad hs = true := by
                      simp only [hoursBad, List.any_eq_true, List.mem_range]
                      exact ⟨j, hj7, by rw [← Hf.out, ← Ht.out]; exact hbad⟩
                    have Hfin := Lib.hid (show stationE (prevOf l k) ⟨key, hs⟩ = 1 by rw [HE1.out, if_pos hany])
                    have Hb := Lib.hid hbad
                    clear hany hbad
                    cases x
                    · go_wp2_with fail
                      go_ret
                      exact ⟨by rw [HE.out, Hat.out, if_neg (by rw [Hfin.out]; decide), Hfin.out]; rfl, grow_alloc hgj _⟩
                    · have h14 : (1440 : Int) < t := by have := Hb.out; simp [winBad, Hx.out] at this; exact this
                      go_wp2_with fail
                      go_ret
                      exact ⟨by rw [HE.out, Hat.out, if_neg (by rw [Hfin.out]; decide), Hfin.out]; rfl, grow_alloc hgj _⟩
                  · have hx1 : x = true := by have := Hx.out; simp only [winBad, this] at hbad; cases x <;> simp_all
                    have h14 : ¬ (1440 : Int) < t := by intro h; apply hbad; simp [winBad, h]
                    have Hb := Lib.hid (show winBad f t = false by simpa using hbad)
                    subst hx1
                    clear hbad
                    go_wp2_with fail
                    go_roundw
                    case rel => exact ⟨j + 1, by omega, by go_num, fun i hi => by
                      rcases Nat.lt_or_ge i j with h | h
                      · exact HJ.out i h
                      · obtain rfl : i = j := by omega
                        rw [← Hf.out, ← Ht.out]; exact Hb.out, grow_alloc hgj _⟩
                    case measure => simp [intOf]; omega
                · have hno : hoursBad hs = false := by
                    simp only [hoursBad, List.any_eq_false, List.mem_range]
                    intro i hi
                    rw [HJ.out i (by omega)]
                    decide
                  have Hfin := Lib.hid (show stationE (prevOf l k) ⟨key, hs⟩ = 0 by rw [HE1.out, if_neg (by simp [hno])])
                  clear hno
                  go_wp2_with fail
                  go_roundw
                  case rel => exact ⟨k + 1, by omega, by go_num, by rw [HE.out, Hat.out, if_pos Hfin.out], hgj⟩
                  case measure => simp [intOf]; omega
            · have hE1 : stationE (prevOf l k) ⟨key, hs⟩ = 7 := by
                have ho := Ho8.out
                unfold stationE
                rw [if_neg (by simp [hkey]), show prevB (prevOf l k) (fun q => leB (⟨key, hs⟩ : St).key q.key) = _ from ho.symm]
                rfl
              have Hfin := Lib.hid hE1; clear hE1
              go_wp2_with fail
              go_ret
              exact ⟨by rw [HE.out, Hat.out, if_neg (by rw [Hfin.out]; decide), Hfin.out]; rfl, hgr2⟩
      · go_wp2_with fail
        go_ret
        exact ⟨by rw [HE.out, scanE_end _ _ _ _ (by have := hl.len; omega)]; rfl, hgr⟩

end Go.Proofs.YtcggbojhalbkjaaDoor
