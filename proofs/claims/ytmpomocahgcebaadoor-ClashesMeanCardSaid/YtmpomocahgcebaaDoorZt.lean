/- Several texts as one: Cells Lst Lop LopA Ry -/
import Derived.Test.YtmpomocahgcebaaDoorGa
import Derived.Test.YtmpomocahgcebaaDoorWkey
import Derived.Deep.LoopGhost
import Derived.Deep.DeepCutAuto
import Derived.StillTailTactics
import Derived.Test.YtmpomocahgcebaaDoorHf
import Derived.Test.YtmpomocahgcebaaDoorBq
import Derived.Test.YtmpomocahgcebaaDoorTd
/- The cells of the program's values. -/
namespace Go.Proofs.YtmpomocahgcebaaDoor
open Go.RowKit

def str (l : List UInt8) : ByteArray := ⟨l.toArray⟩

/-- A station as cells: a key and fourteen numbers. -/
def stCells (key : ByteArray) (hs : List Int) : List Value := .string key :: hs.map (Value.int .i64)

theorem st_splice (key : ByteArray) (hs : List Int) (o : Nat) (vs : List Int) : splice (stCells key hs) (1 + o) (vs.map (Value.int .i64)) = stCells key (splice hs o vs) := by
  unfold stCells
  rw [splice_cons, splice_map]

theorem st_one (key : ByteArray) (hs : List Int) : ∀ v ∈ stCells key hs, v.oneCell' = true := by
  intro v hv
  simp only [stCells, List.mem_cons] at hv
  rcases hv with rfl | hv
  · rfl
  · exact ints_one _ v hv

theorem info_st : (Tryd.prog.info? 148).map (·.size) = some 15 := by kernel_rfl
theorem info_win : (Tryd.prog.info? 56).map (·.size) = some 2 := by kernel_rfl
theorem st_len (key : ByteArray) (hs : List Int) (h : hs.length = 14) : (stCells key hs).length = 15 := by simp [stCells, h]
theorem info_hours : (Tryd.prog.info? 146).map (·.size) = some 14 := by kernel_rfl

end Go.Proofs.YtmpomocahgcebaaDoor
/- The walk of lot.CheckStations. -/
namespace Go.Proofs.YtmpomocahgcebaaDoor
open Go.RowKit

def stEnc (s : St) : List Value := stCells s.key s.hs
def StOk (s : St) : Prop := s.hs.length = 14 ∧ s.key.size ≤ 1000000 ∧ ∀ h ∈ s.hs, -9223372036854775808 ≤ h ∧ h ≤ 9223372036854775807


theorem hrs_pair (hs : List Int) (j : Nat) (h : j * 2 + 1 < hs.length) : ((hs.map (Value.int .i64)).drop (j * 2)).take 2 = [.int .i64 (frAt hs j), .int .i64 (toAt hs j)] := by
  have h0 : j * 2 < (hs.map (Value.int .i64)).length := by simp; omega
  have h1 : j * 2 + 1 < (hs.map (Value.int .i64)).length := by simp; omega
  rw [List.drop_eq_getElem_cons h0, List.drop_eq_getElem_cons h1]
  simp [frAt, toAt, List.getD_eq_getElem?_getD, List.getElem?_eq_getElem (show j * 2 < hs.length by omega), List.getElem?_eq_getElem h]

set_option maxRecDepth 100000 in
set_option maxHeartbeats 1000000 in
theorem checkStations_any (l : List St) (A : Option Addr) (n c : Nat) (w : World) (hl : SlT stEnc 15 148 w A n l) (hok : ∀ s ∈ l, StOk s) (hn : n ≤ 1000000) :
    Calls Tryd.prog 180 #[.slice A n c] w fun e w' => e = .returned (.int .i64 (stationsE l)) ∧ w.grownBy w' none := by
  by_cases h50 : 50 < n
  · have hsp : stationsE l = 2 := by simp [stationsE, hl.len, h50]
    have Hsp := Lib.hid hsp; clear hsp
    go_enter Tryd.func180, Tryd.ntmps180
    go_wp2_with fail
    go_ret
    exact ⟨by rw [Hsp.out]; rfl, World.grownBy.refl _ _⟩
  · have hsp : stationsE l = scanE stationE (prevOf l 0) (l.drop 0) := by simp [stationsE, hl.len, h50, prevOf]
    have Hsp := Lib.hid hsp; clear hsp
    have hd : decide ((50 : Int) < (n : Int)) = false := by simp; omega
    go_enter Tryd.func180, Tryd.ntmps180
    go_wp2_with fail
    go_loopw [12] (fun i wr => ∃ k : Nat, k ≤ n ∧ i = .int .i64 k ∧ stationsE l = scanE stationE (prevOf l k) (l.drop k) ∧ w.grownBy wr none) (fun i _ => n - (intOf i).toNat)
    case atStart => exact ⟨0, Nat.zero_le _, rfl, Hsp.out, World.grownBy.refl _ _⟩
    case round =>
      obtain ⟨k, hk, rfl, hE, hgr⟩ := hrel
      have HE := Lib.hid hE; clear hE
      by_cases hlt : k < n
      · have hlr := hl.grow0 hgr
        obtain ⟨b, off, rfl, hbl, hrg⟩ := hlr.get (by omega)
        obtain ⟨x, hx⟩ : ∃ x, l[k]? = some x := ⟨_, List.getElem?_eq_getElem (by have := hl.len; omega)⟩
        have hxo := hok x (List.mem_of_getElem? hx)
        have hrx := hrg k x hx
        have hat := scanE_at stationE l k x hx
        have Hat := Lib.hid hat; clear hat
        have Hrg := Lib.hid hrg; clear hrg
        obtain ⟨key, hs⟩ := x
        have hrx : wr.rangeAt b (off + k * 15) (stCells key hs) := hrx
        have hl14 := Lib.hid (show hs.length = 14 from hxo.1)
        have hks : key.size ≤ 1000000 := hxo.2.1
        have hhb : ∀ h ∈ hs, -9223372036854775808 ≤ h ∧ h ≤ 9223372036854775807 := hxo.2.2
        have hln := fun (_ : True) => (st_len key hs hl14.out)
        have hst : (Tryd.prog.info? 148).map (·.size) = some (stCells key hs).length := by rw [hln trivial]; exact info_st
        have Hst := Lib.hid hst; clear hst hxo hln
        have hnew : Blk (wr.alloc (.cells #[.string ⟨#[]⟩, .int .i64 0, .int .i64 0, .int .i64 0, .int .i64 0, .int .i64 0, .int .i64 0, .int .i64 0, .int .i64 0, .int .i64 0, .int .i64 0, .int .i64 0, .int .i64 0, .int .i64 0, .int .i64 0] 148)) wr.heap.size 148 (stCells (⟨#[]⟩ : ByteArray) (List.replicate 14 0)) := Blk.at_ wr rfl _ _
        go_wp2_with (first
          | (with_reducible refine wpList_load_mid rfl 148 (.tmp 15) rfl b (off + k * 15) rfl (stCells key hs) _ hrx Tryd.underlying148 rfl Hst.out ?_)
          | (with_reducible refine wpList_store_all rfl 148 (.tmp 4) (.tmp 16) rfl wr.heap.size _ _ (stCells key hs) hnew rfl rfl 15 info_st (st_len _ _ hl14.out) (st_len _ _ (by simp)) (st_one _ _) ?_
             intro w1 hb1 hg1
             have hk1 : w1.cell? ⟨wr.heap.size, 0, none⟩ = some (.string key) := hb1.cell_of rfl))
        refine (isKey_any key _ (by omega)).mono ?_
        rintro e w2 ⟨rfl, rfl⟩
        have hgr1 : w.grownBy w1 none := grow_own (grow_alloc hgr _) hg1 (by simpa using hgr.size)
        have hgw : wr.grownBy w1 none := grow_own (grow_alloc (World.grownBy.refl _ _) _) hg1 (by simp)
        clear hrx hnew hg1
        by_cases hkey : keyB key = false
        · have h5 : stationE (prevOf l k) ⟨key, hs⟩ = 5 := by simp [stationE, hkey]
          have H5 := Lib.hid h5; clear h5
          go_wp2_with fail
          go_ret
          exact ⟨by rw [HE.out, Hat.out, if_neg (by rw [H5.out]; decide), H5.out]; rfl, hgr1⟩
        · have hkey : keyB key = true := by simpa using hkey
          obtain ⟨o8, ho8⟩ : ∃ o, o = prevB (prevOf l k) (fun q => leB key q.key) := ⟨_, rfl⟩
          have Ho8 := Lib.hid ho8; clear ho8
          go_upto_region 8 with fail
          go_cut [22] (fun v wx => v = .bool o8 ∧ ∃ nq, wx = w1.drewN nq)
          case first =>
            by_cases hk0 : k = 0
            · have hz : decide ((0 : Int) < (k : Int)) = false := by simp; omega
              have hz2 : decide (0 < k) = false := by simp; omega
              have ho : o8 = false := by rw [Ho8.out]; simp [prevB, prevOf, hk0]
              have Ho := Lib.hid ho
              clear ho hk0
              go_quiet (fail)
              go_wp2_with fail
              go_meet
              exact ⟨by rw [Ho.out], _, rfl⟩
            · have hz : (0 : Int) < (k : Int) := by omega
              have hz2 : decide (0 < k) = true := decide_eq_true (by omega)
              obtain ⟨q, hq⟩ : ∃ q, l[k - 1]? = some q := ⟨_, List.getElem?_eq_getElem (by have := hl.len; omega)⟩
              have hrq := Hrg.out (k - 1) q hq
              have ho : o8 = leB key q.key := by rw [Ho8.out]; simp [prevB, prevOf, hk0, hq]
              have Ho := Lib.hid ho
              have hqk : wr.cell? ⟨b, off + (k - 1) * 15, none⟩ = some (.string q.key) := hrq 0 _ rfl
              have hki : (k : Int) - 1 = ((k - 1 : Nat) : Int) := by omega
              have hk1n : (k : Int) - 1 < (n : Int) := by omega
              have hqk1 : w1.cell? ⟨b, off + (k - 1) * 15, none⟩ = some (.string q.key) := (World.cell?_of_block (hgw.block b hbl (by simp))).trans hqk
              clear ho hk0 hq hrq
              go_quiet (fail)
              go_wp2_with fail
              go_meet
              exact ⟨by rw [Ho.out]; rfl, _, rfl⟩
          case rest =>
            obtain ⟨rfl, nq, rfl⟩ := hcut
            have hb2 : Blk (w1.drewN nq) wr.heap.size 148 (stCells key hs) := hb1.drewN nq
            have hgr2 : w.grownBy (w1.drewN nq) none := grow_drewN hgr1 nq
            clear hb1 hgr1 hgw
            obtain ⟨w2, hw2⟩ : ∃ w2, w2 = w1.drewN nq := ⟨_, rfl⟩
            rw [← hw2] at hb2 hgr2 ⊢
            clear hw2
            cases o8
            · have hE1 : stationE (prevOf l k) ⟨key, hs⟩ = if hoursBad hs then 1 else 0 := by
                have ho := Ho8.out
                unfold stationE
                rw [if_neg (by simp [hkey]), show prevB (prevOf l k) (fun q => leB (⟨key, hs⟩ : St).key q.key) = _ from ho.symm]
                rfl
              have HE1 := Lib.hid hE1; clear hE1
              have hvv : ∀ j v, (hs.map (Value.int .i64))[j]? = some v → (stCells key hs)[1 + j]? = some v := fun j v hv => by rw [Nat.add_comm]; exact hv
              have Hvv := Lib.hid hvv; clear hvv
              go_wp2_with (with_reducible refine wpList_load_blk rfl 146 (.tmp 36) rfl wr.heap.size 1 _ (stCells key hs) (hs.map (Value.int .i64)) _ hb2 rfl Tryd.underlying146 rfl 14 info_hours (by simpa using hl14.out) Hvv.out ?_)
              obtain ⟨wo, hwo⟩ : ∃ wo : World, wo = wr := ⟨_, rfl⟩
              rw [← hwo] at hb2 ⊢
              clear hwo
              go_loopw [38] (fun i wr => ∃ j : Nat, j ≤ 7 ∧ i = .int .i64 j ∧ (∀ t, t < j → winBad (frAt hs t) (toAt hs t) = false) ∧ w.grownBy wr none) (fun i _ => 7 - (intOf i).toNat)
              case atStart => exact ⟨0, by omega, rfl, fun t ht => absurd ht (by omega), hgr2⟩
              case round =>
                obtain ⟨j, hj, rfl, hJ, hgj⟩ := hrel
                have HJ := Lib.hid hJ; clear hJ
                by_cases hj7 : j < 7
                · have hvs : ((hs.map (Value.int .i64)).drop (j * 2)).take 2 = [.int .i64 (frAt hs j), .int .i64 (toAt hs j)] := hrs_pair hs j (by have := hl14.out; omega)
                  have Hvs := Lib.hid hvs; clear hvs
                  obtain ⟨f, hf⟩ : ∃ f, f = frAt hs j := ⟨_, rfl⟩
                  obtain ⟨t, ht⟩ : ∃ t, t = toAt hs j := ⟨_, rfl⟩
                  rw [← hf, ← ht] at Hvs
                  have Hf := Lib.hid hf
                  have Ht := Lib.hid ht
                  clear hf ht
                  go_wp2_with (with_reducible refine wpList_index_row rfl 146 (.tmp 37) (.tmp 38) rfl (hs.map (Value.int .i64)) j rfl rfl 7 _ Tryd.underlying146 _ Tryd.underlying56 rfl 2 info_win hj7 [.int .i64 f, .int .i64 t] Hvs.out ?_)
                  refine (in_any _ _ _ _).mono ?_
                  rintro e w3 ⟨rfl, rfl⟩
                  obtain ⟨x, hx⟩ : ∃ x, inB f 0 t = x := ⟨_, rfl⟩
                  rw [hx]
                  have Hx := Lib.hid hx; clear hx
                  by_cases hbad : winBad f t = true
                  · have hany : hoursBad hs = true := by
                      simp only [hoursBad, List.any_eq_true, List.mem_range]
                      exact ⟨j, hj7, by rw [← Hf.out, ← Ht.out]; exact hbad⟩
                    have Hfin := Lib.hid (show stationE (prevOf l k) ⟨key, hs⟩ = 1 by rw [HE1.out, if_pos hany])
                    have Hb := Lib.hid hbad
                    clear hany hbad
                    cases x
                    · go_wp2_with fail
                      go_ret
                      exact ⟨by rw [HE.out, Hat.out, if_neg (by rw [Hfin.out]; decide), Hfin.out]; rfl, grow_alloc hgj _⟩
                    · have h14 : (1440 : Int) < t := by have := Hb.out; simp [winBad, Hx.out] at this; exact this
                      go_wp2_with fail
                      go_ret
                      exact ⟨by rw [HE.out, Hat.out, if_neg (by rw [Hfin.out]; decide), Hfin.out]; rfl, grow_alloc hgj _⟩
                  · have hx1 : x = true := by have := Hx.out; simp only [winBad, this] at hbad; cases x <;> simp_all
                    have h14 : ¬ (1440 : Int) < t := by intro h; apply hbad; simp [winBad, h]
                    have Hb := Lib.hid (show winBad f t = false by simpa using hbad)
                    subst hx1
                    clear hbad
                    go_wp2_with fail
                    go_roundw
                    case rel => exact ⟨j + 1, by omega, by go_num, fun i hi => by
                      rcases Nat.lt_or_ge i j with h | h
                      · exact HJ.out i h
                      · obtain rfl : i = j := by omega
                        rw [← Hf.out, ← Ht.out]; exact Hb.out, grow_alloc hgj _⟩
                    case measure => simp [intOf]; omega
                · have hno : hoursBad hs = false := by
                    simp only [hoursBad, List.any_eq_false, List.mem_range]
                    intro i hi
                    rw [HJ.out i (by omega)]
                    decide
                  have Hfin := Lib.hid (show stationE (prevOf l k) ⟨key, hs⟩ = 0 by rw [HE1.out, if_neg (by simp [hno])])
                  clear hno
                  go_wp2_with fail
                  go_roundw
                  case rel => exact ⟨k + 1, by omega, by go_num, by rw [HE.out, Hat.out, if_pos Hfin.out], hgj⟩
                  case measure => simp [intOf]; omega
            · have hE1 : stationE (prevOf l k) ⟨key, hs⟩ = 7 := by
                have ho := Ho8.out
                unfold stationE
                rw [if_neg (by simp [hkey]), show prevB (prevOf l k) (fun q => leB (⟨key, hs⟩ : St).key q.key) = _ from ho.symm]
                rfl
              have Hfin := Lib.hid hE1; clear hE1
              go_wp2_with fail
              go_ret
              exact ⟨by rw [HE.out, Hat.out, if_neg (by rw [Hfin.out]; decide), Hfin.out]; rfl, hgr2⟩
      · go_wp2_with fail
        go_ret
        exact ⟨by rw [HE.out, scanE_end _ _ _ _ (by have := hl.len; omega)]; rfl, hgr⟩

end Go.Proofs.YtmpomocahgcebaaDoor
/- The walks of lot.hours, common, checkStation, IsOpen, NextOpen and OpenMinutes. -/
namespace Go.Proofs.YtmpomocahgcebaaDoor
open Go.RowKit

theorem list14 (hs : List Int) (h : hs.length = 14) : ∃ a0 a1 a2 a3 a4 a5 a6 a7 a8 a9 a10 a11 a12 a13, hs = [a0, a1, a2, a3, a4, a5, a6, a7, a8, a9, a10, a11, a12, a13] := by
  match hs, h with
  | [a0, a1, a2, a3, a4, a5, a6, a7, a8, a9, a10, a11, a12, a13], _ => exact ⟨a0, a1, a2, a3, a4, a5, a6, a7, a8, a9, a10, a11, a12, a13, rfl⟩

def hourFr (hs : List Int) (d : Int) : Int := d * 1440 + frAt hs (d % 7).toNat
def hourTo (hs : List Int) (d : Int) : Int := d * 1440 + toAt hs (d % 7).toNat

def GotWin (w : World) (a b : Int) (e : Ending) (w' : World) : Prop := e = .returned (.agg #[.int .i64 a, .int .i64 b]) ∧ w.grownBy w' none

set_option maxRecDepth 100000 in
set_option maxHeartbeats 1000000 in
theorem hours_any (key : ByteArray) (hs : List Int) (d : Int) (w : World) (hl : hs.length = 14) (hd0 : 0 ≤ d) (hd1 : d ≤ 1000000000) (hb : ∀ h ∈ hs, -1000000000000000000 ≤ h ∧ h ≤ 1000000000000000000) :
    Calls Tryd.prog 146 #[.agg (stCells key hs).toArray, .int .i64 d] w (GotWin w (hourFr hs d) (hourTo hs d)) := by
  obtain ⟨j, hj⟩ : ∃ j : Nat, (j : Int) = d % 7 := ⟨(d % 7).toNat, by omega⟩
  have hj7 : j < 7 := by omega
  have hF : hourFr hs d = d * 1440 + frAt hs j := by unfold hourFr; rw [← hj]; simp
  have hT : hourTo hs d = d * 1440 + toAt hs j := by unfold hourTo; rw [← hj]; simp
  have hf : -1000000000000000000 ≤ frAt hs j ∧ frAt hs j ≤ 1000000000000000000 := by
    unfold frAt; rw [List.getD_eq_getElem?_getD, List.getElem?_eq_getElem (by omega)]; exact hb _ (List.getElem_mem _)
  have ht : -1000000000000000000 ≤ toAt hs j ∧ toAt hs j ≤ 1000000000000000000 := by
    unfold toAt; rw [List.getD_eq_getElem?_getD, List.getElem?_eq_getElem (by omega)]; exact hb _ (List.getElem_mem _)
  rw [hF, hT]
  have hvs : ((hs.map (Value.int .i64)).drop (j * 2)).take 2 = [.int .i64 (frAt hs j), .int .i64 (toAt hs j)] := hrs_pair hs j (by omega)
  generalize frAt hs j = f at *
  generalize toAt hs j = t at *
  have hvv : ∀ i v, [Value.int .i64 f, Value.int .i64 t][i]? = some v → (stCells key hs)[1 + j * 2 + i]? = some v := fun i v hv => by
    rw [← hvs, List.getElem?_take] at hv
    split at hv
    · rw [List.getElem?_drop] at hv
      rw [show 1 + j * 2 + i = (j * 2 + i) + 1 by omega]
      exact hv
    · cases hv
  have Hvv := Lib.hid hvv
  have hj' : d % 7 = (j : Int) := hj.symm
  have hbox : Blk ((w.alloc (.cells (stCells key hs).toArray 148)).alloc (.cells #[.int .i64 0, .int .i64 0] 56)) w.heap.size 148 (stCells key hs) := (Blk.at_ w rfl _ _).alloc _
  clear hvv hvs hF hT hj
  go_enter Tryd.func146, Tryd.ntmps146
  go_wp2_with (with_reducible refine wpList_load_blk rfl 56 (.tmp 9) rfl w.heap.size (1 + j * 2) _ (stCells key hs) [.int .i64 f, .int .i64 t] _ hbox rfl Tryd.underlying56 rfl 2 info_win (by simp) Hvv.out ?_)
  refine bodyPost_ret (v := .agg #[.int .i64 (d * 1440 + f), .int .i64 (d * 1440 + t)]) (by simp [results, Tryd.results146, go_sem]) rfl ⟨rfl, ?_⟩
  exact grow_alloc (grow_alloc (grow_alloc (World.grownBy.refl _ _) _) _) _

def commonV (a b c d : Int) : Int := max 0 (min b d - max a c)
theorem st_self (key : ByteArray) (hs : List Int) : (stCells key hs) = [(⟨key, hs⟩ : St)].flatMap stEnc := by simp [stEnc]
theorem stEnc_len {s : St} (h : StOk s) : (stEnc s).length = 15 := st_len _ _ h.1
theorem sl_one {key : ByteArray} {hs : List Int} {w : World} {g : Nat} (h : Blk w g 148 (stCells key hs)) : SlT stEnc 15 148 w (some ⟨g, 0, none⟩) 1 [⟨key, hs⟩] :=
  ⟨rfl, fun _ => ⟨g, 0, _, _, rfl, h, fun i x hx j v hv => by
    match i, hx with
    | 0, hx =>
      simp at hx; subst hx
      simpa [stEnc] using hv⟩⟩

set_option maxRecDepth 100000 in
set_option maxHeartbeats 1000000 in
theorem checkStation_any (key : ByteArray) (hs : List Int) (f : Int) (w : World) (hok : StOk ⟨key, hs⟩) :
    Calls Tryd.prog 145 #[.agg (stCells key hs).toArray, .int .i64 f] w fun e w' => e = .returned (.int .i64 (firstE [stationsE [⟨key, hs⟩], f])) ∧ w.grownBy w' none := by
  have hsl := fun (wz : World) (hz : wz.heap.size = w.heap.size + 1) => sl_one (Blk.at_ wz hz 148 (stCells key hs))
  have Hsl := Lib.hid hsl
  have Hok := Lib.hid hok
  clear hsl
  obtain ⟨a0, a1, a2, a3, a4, a5, a6, a7, a8, a9, a10, a11, a12, a13, rfl⟩ := list14 hs hok.1
  clear hok
  show Calls Tryd.prog 145 #[.agg #[.string key, .int .i64 a0, .int .i64 a1, .int .i64 a2, .int .i64 a3, .int .i64 a4, .int .i64 a5, .int .i64 a6, .int .i64 a7, .int .i64 a8, .int .i64 a9, .int .i64 a10, .int .i64 a11, .int .i64 a12, .int .i64 a13], .int .i64 f] w _
  go_enter Tryd.func145, Tryd.ntmps145
  go_wp2_with fail
  refine (checkStations_any [⟨key, [a0, a1, a2, a3, a4, a5, a6, a7, a8, a9, a10, a11, a12, a13]⟩] _ _ _ _ (Hsl.out (w.alloc (.cells #[.string key, .int .i64 a0, .int .i64 a1, .int .i64 a2, .int .i64 a3, .int .i64 a4, .int .i64 a5, .int .i64 a6, .int .i64 a7, .int .i64 a8, .int .i64 a9, .int .i64 a10, .int .i64 a11, .int .i64 a12, .int .i64 a13] 148)) (by simp)) (by intro s hs; simp at hs; subst hs; exact Hok.out) (by omega)).mono ?_
  rintro e w1 ⟨rfl, hg1⟩
  have hg1' : w.grownBy w1 none := grow_trans (grow_alloc (grow_alloc (World.grownBy.refl _ _) _) _) hg1
  obtain ⟨E, hE⟩ : ∃ E, E = stationsE [⟨key, [a0, a1, a2, a3, a4, a5, a6, a7, a8, a9, a10, a11, a12, a13]⟩] := ⟨_, rfl⟩
  rw [← hE]
  have HE := Lib.hid hE; clear hE
  go_wp2_with fail
  refine (first_any [E, f] _ _ _ _ (Blk.at_ _ rfl _ _) (by simp)).mono ?_
  rintro e w2 ⟨rfl, rfl⟩
  go_wp2_with fail
  go_ret
  exact ⟨by rw [← HE.out]; rfl, grow_alloc hg1' _⟩


theorem hs_bound {hs : List Int} (h : ∀ x ∈ hs, -1000000000000000000 ≤ x ∧ x ≤ 1000000000000000000) (i : Nat) : -1000000000000000000 ≤ hs.getD i 0 ∧ hs.getD i 0 ≤ 1000000000000000000 := by
  rw [List.getD_eq_getElem?_getD]
  rcases Nat.lt_or_ge i hs.length with hl | hl
  · rw [List.getElem?_eq_getElem hl]; exact h _ (List.getElem_mem _)
  · rw [List.getElem?_eq_none hl]; decide

def isOpenE (s : St) (at_ : Int) : Int := firstE [stationsE [s], momentE at_]
def isOpenV (s : St) (at_ : Int) : Bool := isOpenE s at_ == 0 && decide (hourFr s.hs (at_ / 1440) ≤ at_) && decide (at_ < hourTo s.hs (at_ / 1440))

end Go.Proofs.YtmpomocahgcebaaDoor
/- The walk of lot.IsOpen. -/
namespace Go.Proofs.YtmpomocahgcebaaDoor
open Go.RowKit

set_option maxRecDepth 100000 in
set_option maxHeartbeats 2000000 in
theorem lotOpen_any (key : ByteArray) (hs : List Int) (at_ : Int) (w : World) (hok : StOk ⟨key, hs⟩) (hb : ∀ h ∈ hs, -1000000000000000000 ≤ h ∧ h ≤ 1000000000000000000) :
    Calls Tryd.prog 92 #[.agg (stCells key hs).toArray, .int .i64 at_] w (RetBE w (isOpenV ⟨key, hs⟩ at_) (isOpenE ⟨key, hs⟩ at_)) := by
  have Hok := Lib.hid hok
  have Hb := Lib.hid hb
  clear hb
  obtain ⟨a0, a1, a2, a3, a4, a5, a6, a7, a8, a9, a10, a11, a12, a13, rfl⟩ := list14 hs hok.1
  clear hok
  show Calls Tryd.prog 92 #[.agg #[.string key, .int .i64 a0, .int .i64 a1, .int .i64 a2, .int .i64 a3, .int .i64 a4, .int .i64 a5, .int .i64 a6, .int .i64 a7, .int .i64 a8, .int .i64 a9, .int .i64 a10, .int .i64 a11, .int .i64 a12, .int .i64 a13], .int .i64 at_] w _
  go_enter Tryd.func92, Tryd.ntmps92
  go_wp2_with fail
  refine wp_region_still_tail 3 (by kernel_rfl) (by kernel_rfl) ?_
  change wpStill _ _ (World.drew _) _ _ _
  simp only [List.take_succ_cons, List.take_zero, List.drop_succ_cons, List.drop_zero]
  still_step
  still_step
  still_call ((moment_any at_ _).mono fun _ _ h => ⟨h.1, h.2.symm⟩)
  refine wpStill_nil ?_
  change wpList _ _ _ _ _ (World.drew _)
  go_wp2_with fail
  refine (checkStation_any key [a0, a1, a2, a3, a4, a5, a6, a7, a8, a9, a10, a11, a12, a13] _ _ Hok.out).mono ?_
  rintro e w1 ⟨rfl, hg1⟩
  obtain ⟨E, hE⟩ : ∃ E, E = isOpenE ⟨key, [a0, a1, a2, a3, a4, a5, a6, a7, a8, a9, a10, a11, a12, a13]⟩ at_ := ⟨_, rfl⟩
  rw [show firstE [stationsE [⟨key, [a0, a1, a2, a3, a4, a5, a6, a7, a8, a9, a10, a11, a12, a13]⟩], momentE at_] = E from hE.symm]
  have HE := Lib.hid hE; clear hE
  have hbox : Blk w1 w.heap.size 148 (stCells key [a0, a1, a2, a3, a4, a5, a6, a7, a8, a9, a10, a11, a12, a13]) := ((Blk.at_ w rfl _ _).drewN 1).grown hg1 (by simp)
  have hgw : w.grownBy w1 none := grow_trans (grow_drew (grow_alloc (World.grownBy.refl _ _) _)) hg1
  clear hg1
  by_cases h0 : E = 0
  · have hm := momentE_ok (firstE_two (HE.out.symm.trans h0)).2
    have hdv : at_.tdiv 1440 = at_ / 1440 := Int.tdiv_eq_ediv_of_nonneg hm.1
    have hd0 : 0 ≤ at_ / 1440 := by omega
    have hd1 : at_ / 1440 ≤ 1000000000 := by omega
    obtain ⟨d, hd⟩ : ∃ d, d = at_ / 1440 := ⟨_, rfl⟩
    have hV : isOpenV ⟨key, [a0, a1, a2, a3, a4, a5, a6, a7, a8, a9, a10, a11, a12, a13]⟩ at_ = (decide (hourFr [a0, a1, a2, a3, a4, a5, a6, a7, a8, a9, a10, a11, a12, a13] d ≤ at_) && decide (at_ < hourTo [a0, a1, a2, a3, a4, a5, a6, a7, a8, a9, a10, a11, a12, a13] d)) := by
      unfold isOpenV
      rw [← HE.out, h0, ← hd]; rfl
    rw [← hd] at hdv hd0 hd1
    have hd' : at_ / 1440 = d := hd.symm
    have HV := Lib.hid hV
    subst h0
    clear hV hd
    go_wp2_with (with_reducible refine wpList_load_all rfl 148 (.tmp 2) rfl w.heap.size _ (stCells key [a0, a1, a2, a3, a4, a5, a6, a7, a8, a9, a10, a11, a12, a13]) _ hbox rfl Tryd.underlying148 rfl 15 info_st rfl ?_)
    refine (hours_any key [a0, a1, a2, a3, a4, a5, a6, a7, a8, a9, a10, a11, a12, a13] _ _ rfl hd0 hd1 Hb.out).mono ?_
    rintro e w2 ⟨rfl, hg2⟩
    have hgw2 := grow_trans hgw hg2
    obtain ⟨F, hF⟩ : ∃ F, F = hourFr [a0, a1, a2, a3, a4, a5, a6, a7, a8, a9, a10, a11, a12, a13] d := ⟨_, rfl⟩
    obtain ⟨T, hT⟩ : ∃ T, T = hourTo [a0, a1, a2, a3, a4, a5, a6, a7, a8, a9, a10, a11, a12, a13] d := ⟨_, rfl⟩
    rw [← hF, ← hT] at HV ⊢
    clear hF hT hbox hgw hg2
    go_wp2_with fail
    all_goals
      go_ret2
      exact ⟨ret_be (by rw [HV.out]; simp [*] <;> (intros; omega)) HE.out, grow_alloc hgw2 _⟩
  · have hne : (E != 0) = true := by simpa using h0
    have hV : isOpenV ⟨key, [a0, a1, a2, a3, a4, a5, a6, a7, a8, a9, a10, a11, a12, a13]⟩ at_ = false := by
      unfold isOpenV
      rw [← HE.out]; simp [h0]
    have HV := Lib.hid hV
    clear hV h0
    go_wp2_with fail
    go_ret2
    exact ⟨ret_be HV.out.symm HE.out, hgw⟩

end Go.Proofs.YtmpomocahgcebaaDoor
/- The walk of rentkeep1.ready. -/
namespace Go.Proofs.YtmpomocahgcebaaDoor
open Go.RowKit

theorem ready_open : isOpenV ⟨⟨#[115]⟩, [0, 9, 0, 0, 0, 0, 0, 0, 0, 0, 0, 0, 0, 0]⟩ 8 = true ∧ isOpenE ⟨⟨#[115]⟩, [0, 9, 0, 0, 0, 0, 0, 0, 0, 0, 0, 0, 0, 0]⟩ 8 = 0 := ⟨by kernel_rfl, by kernel_rfl⟩
theorem ready_days : (if timeE 0 1441 = 0 then daysV 0 1441 else 0) = 2 ∧ timeE 0 1441 = 0 := ⟨by decide +kernel, by decide +kernel⟩
theorem ready_hire : hireE ⟨⟨#[104]⟩, ⟨#[100]⟩, 5, 9, [startLeg ⟨#[118]⟩ ⟨5, ⟨#[115]⟩, 0, 0⟩]⟩ = 0 := by kernel_rfl

set_option maxRecDepth 100000 in
set_option maxHeartbeats 1000000 in
theorem ready_any (w : World) : Calls Tryd.prog 17 #[] w (fun e w' => e = .returned (.bool true) ∧ w.grownBy w' none) := by
  have cD : ∀ w, Calls Tryd.prog 31 #[.agg #[.int .i64 0, .int .i64 1441]] w (fun e w' => e = .returned (.tuple #[.int .i64 2, .int .i64 0]) ∧ w.grownBy w' none) := fun w => by
    have h := tdays_any 0 1441 w
    rw [ready_days.1, ready_days.2] at h
    exact h
  have cO : ∀ w, Calls Tryd.prog 92 #[.agg #[.string ⟨#[115]⟩, .int .i64 0, .int .i64 9, .int .i64 0, .int .i64 0, .int .i64 0, .int .i64 0, .int .i64 0, .int .i64 0, .int .i64 0, .int .i64 0, .int .i64 0, .int .i64 0, .int .i64 0, .int .i64 0], .int .i64 8] w (RetBE w true 0) := fun w => by
    have hs : ∀ h ∈ [0, 9, 0, 0, 0, 0, 0, 0, 0, 0, 0, 0, 0, (0 : Int)], 0 ≤ h ∧ h ≤ 9 := by decide
    have h := lotOpen_any ⟨#[115]⟩ [0, 9, 0, 0, 0, 0, 0, 0, 0, 0, 0, 0, 0, 0] 8 w ⟨rfl, (by decide : (⟨#[115]⟩ : ByteArray).size ≤ 1000000), fun h hh => by have := hs h hh; omega⟩ (fun h hh => by have := hs h hh; omega)
    rw [ready_open.1, ready_open.2] at h
    exact h
  have cH : ∀ w, Calls Tryd.prog 93 #[.string ⟨#[104]⟩, .string ⟨#[100]⟩, .agg #[.int .i64 5, .int .i64 9], .string ⟨#[118]⟩, .agg #[.int .i64 5, .string ⟨#[115]⟩, .int .i64 0, .int .i64 0]] w (fun e w' => ∃ A, e = .returned (.tuple #[.agg #[.string ⟨#[104]⟩, .string ⟨#[100]⟩, .int .i64 5, .int .i64 9, .slice A 1 1], .int .i64 0]) ∧ w.grownBy w' none) := fun w => by
    have h := start_any ⟨#[104]⟩ ⟨#[100]⟩ 5 9 ⟨#[118]⟩ ⟨5, ⟨#[115]⟩, 0, 0⟩ w (by decide) (by decide) (by decide) (by decide : (⟨#[115]⟩ : ByteArray).size ≤ 1000000)
    rw [ready_hire] at h
    exact h.mono fun e w' ⟨A, h1, _, h3⟩ => ⟨A, h1, h3⟩
  have CD := Lib.hid cD
  have CO := Lib.hid cO
  have CH := Lib.hid cH
  clear cD cO cH
  go_enter Tryd.func17, Tryd.ntmps17
  go_wp2_with fail
  refine (CD.out _).mono ?_
  rintro e w1 ⟨rfl, hg1⟩
  go_wp2_with fail
  refine (CO.out _).mono ?_
  rintro e w2 ⟨rfl, hg2⟩
  go_wp2_with fail
  refine (bspread_nil _).mono ?_
  rintro e w3 ⟨A3, c3, rfl, hg3⟩
  go_wp2_with fail
  refine (CH.out _).mono ?_
  rintro e w4 ⟨A4, rfl, hg4⟩
  go_wp2_with fail
  go_ret
  exact ⟨rfl, grow_alloc (grow_trans (grow_trans (grow_trans hg1 hg2) hg3) hg4) _⟩

end Go.Proofs.YtmpomocahgcebaaDoor
