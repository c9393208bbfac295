/- Several texts as one: Lst Mp Md Ev Yp Gox Goy Bv Goa Goz Fw Fx Fz Gf Gst Lop LopA LopB Win LopC Sq Sn Ix Sr Gg Goq Goe Rn Wn God Asp Asq Asr Ast Asu Asv Asw Asx Asy Az Gob Gos Gck Goc Gvc Agn -/
import Derived.Test.YtempjmpfdniecaaGreatDoorN4a
import Derived.Test.YtempjmpfdniecaaGreatDoorN4b
import Derived.Deep.LoopGhost
import Derived.Deep.DeepCutAuto
import Derived.Maps.Own
import Derived.MapKept
import Derived.StillTailTactics
import Derived.Laws.Concat
import Derived.Lib.AppendZeros
import Derived.OneCell
set_option maxRecDepth 100000
set_option maxHeartbeats 4000000
namespace Go.Proofs.YtempjmpfdniecaaGreatDoor
open Go.RowKit
def stEnc (s : St) : List Value := stCells s.key s.hs
def StOk (s : St) : Prop := s.hs.length = 14 ∧ s.key.size ≤ 1000000 ∧ ∀ h ∈ s.hs, -9223372036854775808 ≤ h ∧ h ≤ 9223372036854775807
theorem hrs_pair (hs : List Int) (j : Nat) (h : j * 2 + 1 < hs.length) : ((hs.map (Value.int .i64)).drop (j * 2)).take 2 = [.int .i64 (frAt hs j), .int .i64 (toAt hs j)] := by
  have h0 : j * 2 < (hs.map (Value.int .i64)).length := by simp; omega
  have h1 : j * 2 + 1 < (hs.map (Value.int .i64)).length := by simp; omega
  rw [List.drop_eq_getElem_cons h0, List.drop_eq_getElem_cons h1]
  simp [frAt, toAt, List.getD_eq_getElem?_getD, List.getElem?_eq_getElem (show j * 2 < hs.length by omega), List.getElem?_eq_getElem h]
set_option maxRecDepth 100000 in
set_option maxHeartbeats 1000000 in
theorem checkStations_any (l : List St) (A : Option Addr) (n c : Nat) (w : World) (hl : SlT stEnc 15 152 w A n l) (hok : ∀ s ∈ l, StOk s) (hn : n ≤ 1000000) :
    Calls Tryz.prog 207 #[.slice A n c] w fun e w' => e = .returned (.int .i64 (stationsE l)) ∧ w.grownBy w' none := by
  by_cases h50 : 50 < n
  · have hsp : stationsE l = 2 := by simp [stationsE, hl.len, h50]
    have Hsp := Lib.hid hsp; clear hsp
    go_enter Tryz.func207, Tryz.ntmps207
    go_wp2_with fail
    go_ret
    exact ⟨by rw [Hsp.out]; rfl, World.grownBy.refl _ _⟩
  · have hsp : stationsE l = scanE stationE (prevOf l 0) (l.drop 0) := by simp [stationsE, hl.len, h50, prevOf]
    have Hsp := Lib.hid hsp; clear hsp
    have hd : decide ((50 : Int) < (n : Int)) = false := by simp; omega
    go_enter Tryz.func207, Tryz.ntmps207
    go_wp2_with fail
    go_loopw [12] (fun i wr => ∃ k : Nat, k ≤ n ∧ i = .int .i64 k ∧ stationsE l = scanE stationE (prevOf l k) (l.drop k) ∧ w.grownBy wr none) (fun i _ => n - (intOf i).toNat)
    case atStart => exact ⟨0, Nat.zero_le _, rfl, Hsp.out, World.grownBy.refl _ _⟩
    case round =>
      obtain ⟨k, hk, rfl, hE, hgr⟩ := hrel
      have HE := Lib.hid hE; clear hE
      by_cases hlt : k < n
      · have hlr := hl.grow0 hgr
        obtain ⟨b, off, rfl, hbl, hrg⟩ := hlr.get (by omega)
        obtain ⟨x, hx⟩ : ∃ x, l[k]? = some x := ⟨_, List.getElem?_eq_getElem (by have := hl.len; omega)⟩
        have hxo := hok x (List.mem_of_getElem? hx)
        have hrx := hrg k x hx
        have hat := scanE_at stationE l k x hx
        have Hat := Lib.hid hat; clear hat
        have Hrg := Lib.hid hrg; clear hrg
        obtain ⟨key, hs⟩ := x
        have hrx : wr.rangeAt b (off + k * 15) (stCells key hs) := hrx
        have hl14 := Lib.hid (show hs.length = 14 from hxo.1)
        have hks : key.size ≤ 1000000 := hxo.2.1
        have hhb : ∀ h ∈ hs, -9223372036854775808 ≤ h ∧ h ≤ 9223372036854775807 := hxo.2.2
        have hln := fun (_ : True) => (st_len key hs hl14.out)
        have hst : (Tryz.prog.info? 152).map (·.size) = some (stCells key hs).length := by rw [hln trivial]; exact info_st
        have Hst := Lib.hid hst; clear hst hxo hln
        have hnew : Blk (wr.alloc (.cells #[.string ⟨#[]⟩, .int .i64 0, .int .i64 0, .int .i64 0, .int .i64 0, .int .i64 0, .int .i64 0, .int .i64 0, .int .i64 0, .int .i64 0, .int .i64 0, .int .i64 0, .int .i64 0, .int .i64 0, .int .i64 0] 152)) wr.heap.size 152 (stCells (⟨#[]⟩ : ByteArray) (List.replicate 14 0)) := Blk.at_ wr rfl _ _
        go_wp2_with (first
          | (with_reducible refine wpList_load_mid rfl 152 (.tmp 15) rfl b (off + k * 15) rfl (stCells key hs) _ hrx Tryz.underlying152 rfl Hst.out ?_)
          | (with_reducible refine wpList_store_all rfl 152 (.tmp 4) (.tmp 16) rfl wr.heap.size _ _ (stCells key hs) hnew rfl rfl 15 info_st (st_len _ _ hl14.out) (st_len _ _ (by simp)) (st_one _ _) ?_
             intro w1 hb1 hg1
             have hk1 : w1.cell? ⟨wr.heap.size, 0, none⟩ = some (.string key) := hb1.cell_of rfl))
        refine (isKey_any key _ (by omega)).mono ?_
        rintro e w2 ⟨rfl, rfl⟩
        have hgr1 : w.grownBy w1 none := grow_own (grow_alloc hgr _) hg1 (by simpa using hgr.size)
        have hgw : wr.grownBy w1 none := grow_own (grow_alloc (World.grownBy.refl _ _) _) hg1 (by simp)
        clear hrx hnew hg1
        by_cases hkey : keyB key = false
        · have h5 : stationE (prevOf l k) ⟨key, hs⟩ = 5 := by simp [stationE, hkey]
          have H5 := Lib.hid h5; clear h5
          go_wp2_with fail
          go_ret
          exact ⟨by rw [HE.out, Hat.out, if_neg (by rw [H5.out]; decide), H5.out]; rfl, hgr1⟩
        · have hkey : keyB key = true := by simpa using hkey
          obtain ⟨o8, ho8⟩ : ∃ o, o = prevB (prevOf l k) (fun q => leB key q.key) := ⟨_, rfl⟩
          have Ho8 := Lib.hid ho8; clear ho8
          go_upto_region 8 with fail
          go_cut [22] (fun v wx => v = .bool o8 ∧ ∃ nq, wx = w1.drewN nq)
          case first =>
            by_cases hk0 : k = 0
            · have hz : decide ((0 : Int) < (k : Int)) = false := by simp; omega
              have hz2 : decide (0 < k) = false := by simp; omega
              have ho : o8 = false := by rw [Ho8.out]; simp [prevB, prevOf, hk0]
              have Ho := Lib.hid ho
              clear ho hk0
              go_quiet (fail)
              go_wp2_with fail
              go_meet
              exact ⟨by rw [Ho.out], _, rfl⟩
            · have hz : (0 : Int) < (k : Int) := by omega
              have hz2 : decide (0 < k) = true := decide_eq_true (by omega)
              obtain ⟨q, hq⟩ : ∃ q, l[k - 1]? = some q := ⟨_, List.getElem?_eq_getElem (by have := hl.len; omega)⟩
              have hrq := Hrg.out (k - 1) q hq
              have ho : o8 = leB key q.key := by rw [Ho8.out]; simp [prevB, prevOf, hk0, hq]
              have Ho := Lib.hid ho
              have hqk : wr.cell? ⟨b, off + (k - 1) * 15, none⟩ = some (.string q.key) := hrq 0 _ rfl
              have hki : (k : Int) - 1 = ((k - 1 : Nat) : Int) := by omega
              have hk1n : (k : Int) - 1 < (n : Int) := by omega
              have hqk1 : w1.cell? ⟨b, off + (k - 1) * 15, none⟩ = some (.string q.key) := (World.cell?_of_block (hgw.block b hbl (by simp))).trans hqk
              clear ho hk0 hq hrq
              go_quiet (fail)
              go_wp2_with fail
              go_meet
              exact ⟨by rw [Ho.out]; rfl, _, rfl⟩
          case rest =>
            obtain ⟨rfl, nq, rfl⟩ := hcut
            have hb2 : Blk (w1.drewN nq) wr.heap.size 152 (stCells key hs) := hb1.drewN nq
            have hgr2 : w.grownBy (w1.drewN nq) none := grow_drewN hgr1 nq
            clear hb1 hgr1 hgw
            obtain ⟨w2, hw2⟩ : ∃ w2, w2 = w1.drewN nq := ⟨_, rfl⟩
            rw [← hw2] at hb2 hgr2 ⊢
            clear hw2
            cases o8
            · have hE1 : stationE (prevOf l k) ⟨key, hs⟩ = if hoursBad hs then 1 else 0 := by
                have ho := Ho8.out
                unfold stationE
                rw [if_neg (by simp [hkey]), show prevB (prevOf l k) (fun q => leB (⟨key, hs⟩ : St).key q.key) = _ from ho.symm]
                rfl
              have HE1 := Lib.hid hE1; clear hE1
              have hvv : ∀ j v, (hs.map (Value.int .i64))[j]? = some v → (stCells key hs)[1 + j]? = some v := fun j v hv => by rw [Nat.add_comm]; exact hv
              have Hvv := Lib.hid hvv; clear hvv
              go_wp2_with (with_reducible refine wpList_load_blk rfl 150 (.tmp 36) rfl wr.heap.size 1 _ (stCells key hs) (hs.map (Value.int .i64)) _ hb2 rfl Tryz.underlying150 rfl 14 info_hours (by simpa using hl14.out) Hvv.out ?_)
              obtain ⟨wo, hwo⟩ : ∃ wo : World, wo = wr := ⟨_, rfl⟩
              rw [← hwo] at hb2 ⊢
              clear hwo
              go_loopw [38] (fun i wr => ∃ j : Nat, j ≤ 7 ∧ i = .int .i64 j ∧ (∀ t, t < j → winBad (frAt hs t) (toAt hs t) = false) ∧ w.grownBy wr none) (fun i _ => 7 - (intOf i).toNat)
              case atStart => exact ⟨0, by omega, rfl, fun t ht => absurd ht (by omega), hgr2⟩
              case round =>
                obtain ⟨j, hj, rfl, hJ, hgj⟩ := hrel
                have HJ := Lib.hid hJ; clear hJ
                by_cases hj7 : j < 7
                · have hvs : ((hs.map (Value.int .i64)).drop (j * 2)).take 2 = [.int .i64 (frAt hs j), .int .i64 (toAt hs j)] := hrs_pair hs j (by have := hl14.out; omega)
                  have Hvs := Lib.hid hvs; clear hvs
                  obtain ⟨f, hf⟩ : ∃ f, f = frAt hs j := ⟨_, rfl⟩
                  obtain ⟨t, ht⟩ : ∃ t, t = toAt hs j := ⟨_, rfl⟩
                  rw [← hf, ← ht] at Hvs
                  have Hf := Lib.hid hf
                  have Ht := Lib.hid ht
                  clear hf ht
                  go_wp2_with (with_reducible refine wpList_index_row rfl 150 (.tmp 37) (.tmp 38) rfl (hs.map (Value.int .i64)) j rfl rfl 7 _ Tryz.underlying150 _ Tryz.underlying27 rfl 2 info_win hj7 [.int .i64 f, .int .i64 t] Hvs.out ?_)
                  refine (in_any _ _ _ _).mono ?_
                  rintro e w3 ⟨rfl, rfl⟩
                  obtain ⟨x, hx⟩ : ∃ x, inB f 0 t = x := ⟨_, rfl⟩
                  rw [hx]
                  have Hx := Lib.hid hx; clear hx
                  by_cases hbad : winBad f t = true
                  · have hany : hoursBad hs = true := by
                      simp only [hoursBad, List.any_eq_true, List.mem_range]
                      exact ⟨j, hj7, by rw [← Hf.out, ← Ht.out]; exact hbad⟩
                    have Hfin := Lib.hid (show stationE (prevOf l k) ⟨key, hs⟩ = 1 by rw [HE1.out, if_pos hany])
                    have Hb := Lib.hid hbad
                    clear hany hbad
                    cases x
                    · go_wp2_with fail
                      go_ret
                      exact ⟨by rw [HE.out, Hat.out, if_neg (by rw [Hfin.out]; decide), Hfin.out]; rfl, grow_alloc hgj _⟩
                    · have h14 : (1440 : Int) < t := by have := Hb.out; simp [winBad, Hx.out] at this; exact this
                      go_wp2_with fail
                      go_ret
                      exact ⟨by rw [HE.out, Hat.out, if_neg (by rw [Hfin.out]; decide), Hfin.out]; rfl, grow_alloc hgj _⟩
                  · have hx1 : x = true := by have := Hx.out; simp only [winBad, this] at hbad; cases x <;> simp_all
                    have h14 : ¬ (1440 : Int) < t := by intro h; apply hbad; simp [winBad, h]
                    have Hb := Lib.hid (show winBad f t = false by simpa using hbad)
                    subst hx1
                    clear hbad
                    go_wp2_with fail
                    go_roundw
                    case rel => exact ⟨j + 1, by omega, by go_num, fun i hi => by
                      rcases Nat.lt_or_ge i j with h | h
                      · exact HJ.out i h
                      · obtain rfl : i = j := by omega
                        rw [← Hf.out, ← Ht.out]; exact Hb.out, grow_alloc hgj _⟩
                    case measure => simp [intOf]; omega
                · have hno : hoursBad hs = false := by
                    simp only [hoursBad, List.any_eq_false, List.mem_range]
                    intro i hi
                    rw [HJ.out i (by omega)]
                    decide
                  have Hfin := Lib.hid (show stationE (prevOf l k) ⟨key, hs⟩ = 0 by rw [HE1.out, if_neg (by simp [hno])])
                  clear hno
                  go_wp2_with fail
                  go_roundw
                  case rel => exact ⟨k + 1, by omega, by go_num, by rw [HE.out, Hat.out, if_pos Hfin.out], hgj⟩
                  case measure => simp [intOf]; omega
            · have hE1 : stationE (prevOf l k) ⟨key, hs⟩ = 7 := by
                have ho := Ho8.out
                unfold stationE
                rw [if_neg (by simp [hkey]), show prevB (prevOf l k) (fun q => leB (⟨key, hs⟩ : St).key q.key) = _ from ho.symm]
                rfl
              have Hfin := Lib.hid hE1; clear hE1
              go_wp2_with fail
              go_ret
              exact ⟨by rw [HE.out, Hat.out, if_neg (by rw [Hfin.out]; decide), Hfin.out]; rfl, hgr2⟩
      · go_wp2_with fail
        go_ret
        exact ⟨by rw [HE.out, scanE_end _ _ _ _ (by have := hl.len; omega)]; rfl, hgr⟩
end Go.Proofs.YtempjmpfdniecaaGreatDoor
namespace Go.Proofs.YtempjmpfdniecaaGreatDoor
open Go.RowKit
open Go.ChangeMaps (setBlock)
/-- The map at block g holds es. -/
def MapAt (g : Nat) (es : Array MapEntry) (ck : Nat) (w : World) : Prop := w.heap[g]? = some (.map es ck)
theorem MapAt.lasts2 {N : Nat} {row : Option Nat} {Tt : List TypeId} {g : Nat} {es : Array MapEntry} {ck : Nat} : Lasts2 N row Tt (MapAt g es ck) :=
  ⟨fun w w' h hx => (h.block g (Array.getElem?_eq_some_iff.1 hx).1 (by simp)).trans hx,
   fun w w' r T c h1 _ _ h3 hx => (h3.block g (Array.getElem?_eq_some_iff.1 hx).1 (fun e => by
     have e2 : g = r := by injection e
     subst e2
     unfold MapAt at hx
     rw [h1] at hx; cases hx)).trans hx⟩
/-- The map at block g, one of the call's own. -/
def OwnMap (N g : Nat) (es : Array MapEntry) (ck : Nat) (w : World) : Prop := N ≤ g ∧ MapAt g es ck w
theorem OwnMap.lasts2 {N M : Nat} {row : Option Nat} {Tt : List TypeId} {g : Nat} {es : Array MapEntry} {ck : Nat} : Lasts2 N row Tt (OwnMap M g es ck) :=
  ⟨fun w w' h hx => ⟨hx.1, MapAt.lasts2.gr (N := N) (row := row) (Tt := Tt) w w' h hx.2⟩, fun w w' r T c h1 h2 h3 h4 hx => ⟨hx.1, MapAt.lasts2.st w w' r T c h1 h2 h3 h4 hx.2⟩⟩
theorem BlkOld.far {N g b : Nat} {row : Option Nat} {T : TypeId} {cs : List Value} : ∀ w w' : World, N ≤ g → w.grownBy w' (some g) → BlkOld N row b T cs w → BlkOld N row b T cs w' := fun _ _ h1 h2 ⟨h3, h4⟩ => ⟨h3, h4.grown h2 (fun e => by
  have e2 : b = g := by injection e
  omega)⟩
end Go.Proofs.YtempjmpfdniecaaGreatDoor
namespace Go.Proofs.YtempjmpfdniecaaGreatDoor
open Go.RowKit Go.MapKept
open Go.ChangeMaps (setBlock)
theorem bytes_ext {a b : ByteArray} (h : a.toList = b.toList) : a = b := by
  rw [ByteArray.toList_eq, ByteArray.toList_eq] at h
  cases a; cases b
  simp only at h
  exact congrArg ByteArray.mk (Array.toList_inj.1 h)
theorem bytes_eqb {a b : ByteArray} : (a.toList == b.toList) = true ↔ a = b :=
  ⟨fun h => bytes_ext (by simpa using h), fun h => by subst h; simp⟩
def fDel {α : Type} (f : ByteArray → Option α) (k : ByteArray) : ByteArray → Option α := fun j => if (j.toList == k.toList) = true then none else f j
def fNil {α : Type} : ByteArray → Option α := fun _ => none
theorem fDel_same {α : Type} (f : ByteArray → Option α) (k : ByteArray) : fDel f k k = none := by unfold fDel; rw [if_pos (by simp)]
theorem fDel_other {α : Type} (f : ByteArray → Option α) {k j : ByteArray} (h : j ≠ k) : fDel f k j = f j := by unfold fDel; rw [if_neg (fun e => h (bytes_eqb.1 e))]
/-- What a map's block holds, key by key. -/
def Entries {α : Type} (enc : α → Value) (f : ByteArray → Option α) (es : Array MapEntry) (ck : Nat) : Prop :=
  Stamped es ck ∧ (∀ x ∈ es.toList, IsKey .string x.key) ∧ ∀ k v, (∃ e ∈ es.toList, e.key = .string k ∧ e.val = v) ↔ ∃ x, f k = some x ∧ v = enc x
/-- The map at block g, one of the call's own, has under each key what f says. -/
def MapF {α : Type} (enc : α → Value) (N g : Nat) (f : ByteArray → Option α) (w : World) : Prop :=
  N ≤ g ∧ ∃ es ck, w.heap[g]? = some (.map es ck) ∧ Entries enc f es ck
theorem MapF.lt {α : Type} {enc : α → Value} {N g : Nat} {f : ByteArray → Option α} {w : World} (h : MapF enc N g f w) : g < w.heap.size := by
  obtain ⟨_, es, ck, hb, _⟩ := h
  exact (Array.getElem?_eq_some_iff.1 hb).1
theorem MapF.kept {α : Type} {enc : α → Value} {N g : Nat} {f : ByteArray → Option α} {w w' : World} {row : Option Nat} (h : MapF enc N g f w) (hg : w.grownBy w' row) (hne : some g ≠ row) : MapF enc N g f w' := by
  have hlt := h.lt
  obtain ⟨h0, es, ck, hb, he⟩ := h
  exact ⟨h0, es, ck, (hg.block g hlt hne).trans hb, he⟩
theorem MapF.lasts2 {α : Type} {enc : α → Value} {N M : Nat} {row : Option Nat} {Tt : List TypeId} {g : Nat} {f : ByteArray → Option α} : Lasts2 N row Tt (MapF enc M g f) :=
  ⟨fun w w' h hx => hx.kept h (by simp),
   fun w w' r T c h1 _ _ h3 hx => hx.kept h3 (fun e => by
     have e2 : g = r := by injection e
     subst e2
     obtain ⟨_, es, ck, hb, _⟩ := hx
     rw [h1] at hb; cases hb)⟩
theorem MapF.far {α : Type} {enc : α → Value} {N M g g1 : Nat} {f : ByteArray → Option α} (hne : g1 ≠ g) : ∀ w w' : World, N ≤ g → w.grownBy w' (some g) → MapF enc M g1 f w → MapF enc M g1 f w' :=
  fun _ _ _ hg h => h.kept hg (fun e => hne (by injection e))
theorem SlOld.far {α : Type} {enc : α → List Value} {k N g : Nat} {T : TypeId} {row : Option Nat} {A : Option Addr} {n : Nat} {l : List α} : ∀ w w' : World, N ≤ g → w.grownBy w' (some g) → SlOld enc k T N row A n l w → SlOld enc k T N row A n l w' := fun w w' h1 h2 ⟨h3, h4⟩ => by
  refine ⟨⟨h3.len, fun hn => ?_⟩, h4⟩
  obtain ⟨b, off, cells, fz, e, hh, hr⟩ := h3.at_ hn
  exact ⟨b, off, cells, fz, e, (h2.block b (Array.getElem?_eq_some_iff.1 hh).1 (fun e2 => by
    have e3 : b = g := by injection e2
    obtain ⟨h5, _⟩ := h4 b off e hn
    omega)).trans hh, hr⟩
section
variable {α : Type} {enc : α → Value} {f : ByteArray → Option α} {es : Array MapEntry} {ck : Nat}
theorem Entries.nil : Entries enc fNil #[] 0 := ⟨stamped_empty 0, by simp, fun k v => by simp [fNil]⟩
/-- Where a key is, or that it is not there. -/
theorem Entries.find (h : Entries enc f es ck) (k : ByteArray) : (Instr.findNow .string (.string k) es.toList 0 = some none ∧ f k = none ∧ ∀ x ∈ es.toList, x.key ≠ .string k) ∨ ∃ j e x, Instr.findNow .string (.string k) es.toList 0 = some (some (j, e.val)) ∧ es[j]? = some e ∧ e.key = .string k ∧ f k = some x ∧ e.val = enc x := by
  have hk : IsKey .string (.string k) := trivial
  rcases findNow_spec hk es.toList 0 h.2.1 with ⟨h1, h2⟩ | ⟨j, e, h1, h2, h3⟩
  · left
    refine ⟨h1, ?_, h2⟩
    cases hf : f k with
    | none => rfl
    | some x =>
      obtain ⟨e, he, hek, _⟩ := (h.2.2 k (enc x)).2 ⟨x, hf, rfl⟩
      exact absurd hek (h2 e he)
  · right
    obtain ⟨x, hx, hv⟩ := (h.2.2 k e.val).1 ⟨e, List.mem_of_getElem? h2, h3, rfl⟩
    refine ⟨j, e, x, by simpa using h1, by simpa using h2, h3, hx, hv⟩
theorem Entries.same (h : Entries enc f es ck) {k : ByteArray} (hn : f k = none) : Entries enc (fDel f k) es ck := by
  have e : fDel f k = f := by
    funext j
    by_cases hj : j = k
    · subst hj; rw [fDel_same, hn]
    · rw [fDel_other _ hj]
  rw [e]; exact h
end
end Go.Proofs.YtempjmpfdniecaaGreatDoor
namespace Go.Proofs.YtempjmpfdniecaaGreatDoor
def lfF (l : List Bk) (got : List Gv) (k : Nat) : Option ByteArray := if 0 < (gvAt got k).unit then none else some (bkAt l k).key
end Go.Proofs.YtempjmpfdniecaaGreatDoor
namespace Go.Proofs.YtempjmpfdniecaaGreatDoor
open Go.RowKit
def TimOk (T : List (Int × Int)) : Prop := ∀ t ∈ T, 0 ≤ t.1 ∧ t.1 < t.2 ∧ t.2 ≤ 5761439
def BkTim (l : List Bk) : Prop := ∀ b ∈ l, 0 ≤ b.fr ∧ b.fr < b.to_ ∧ b.to_ ≤ 5761439
theorem form_tim {l : List Bk} (h : formE l = 0) : BkTim l := fun b hb => by
  unfold formE at h
  split at h
  · cases h
  · obtain ⟨q, hq⟩ := scanE_all h b hb
    have := bookE_ok hq
    exact ⟨this.1, this.2.1, this.2.2.1⟩
def busyT (T : List (Int × Int)) (a b : Int) : Int × Int := busyF (onT T) (sortI (a :: frsM a b T))
theorem busyF_stp {f : Int → Nat} {S : List Int} {k : Nat} {x : Int} (h : S[k]? = some x) (hc : (busyF f (S.take k)).1 < (f x : Int)) : (busyF f (S.take (k + 1))).1 = (f x : Int) ∧ (busyF f (S.take (k + 1))).2 = x := by
  rw [busyF_take h]; unfold busyS; rw [if_pos hc]; exact ⟨rfl, rfl⟩
theorem busyF_sty {f : Int → Nat} {S : List Int} {k : Nat} {x : Int} (h : S[k]? = some x) (hc : ¬ (busyF f (S.take k)).1 < (f x : Int)) : busyF f (S.take (k + 1)) = busyF f (S.take k) := by
  rw [busyF_take h]; unfold busyS; rw [if_neg hc]
theorem busiest_any (T : List (Int × Int)) (A : Option Addr) (n c : Nat) (a b : Int) (w : World) (ht : SlT wEnc 2 27 w A n T) (hT : TimOk T) (hn : n ≤ 1000) (hb : 0 ≤ b ∧ b ≤ 5761440) :
  Calls Tryz.prog 320 #[.slice A n c, .agg #[.int .i64 a, .int .i64 b]] w (fun e w' => e = .returned (.tuple #[.int .i64 (busyT T a b).1, .int .i64 (busyT T a b).2]) ∧ w.grownBy w' none) := by
 refine gw_enter ⟨71, w, none, []⟩ Tryz.func320 rfl Tryz.ntmps320 rfl (mem0 (X := [SlOld wEnc 2 27 w.heap.size none A n T]) (allF_cons ht.old allF_nil) (allL_cons SlOld.lasts allL_nil)) ?_
 refine sr_ ?_
 have hlen := ht.len
 refine wl_box rfl rfl rfl fun g1 => ?_
 refine sg_ rfl (sg_ rfl (nn_ (sr_ (fd_ fo27_0 rfl rfl (lk_ sc3 0 rfl rfl rfl ?_)))))
 refine wl_buildSlice (e := 3) (cs := [.int .i64 a]) rfl (by kernel_rfl) rfl fun g2 => ?_
 refine sg_ rfl (nn_ (gw_seq (sr_ (mv_ rfl (wl_ov (ov_len es341 rfl) rfl (mv_ rfl (nn_ (gw_block ?_))))))))
 refine gw_toOwn (sz := 1) (n := 1) 0 [1] rfl rfl rfl (by unfold maxLen; omega) ?_
 refine gw_loop (γ := Nat × Nat × Value × List Value) (fun g => g.1 ≤ n ∧ (frsM a b (T.take g.1)).length = g.2.1 ∧ g.2.1 ≤ g.1 ∧ g.2.2.2 = (a :: frsM a b (T.take g.1)).flatMap iEnc) (fun g => [(0, .slice A n c), (3, .pointer (some ⟨g1, 0, none⟩)), (4, .int .i64 0), (5, .int .i64 0), (6, g.2.2.1), (19, .slice A n c), (20, .int .i64 ((n : Nat) : Int)), (21, .int .i64 ((g.1 : Nat) : Int))]) (fun g => fun _ => True) (fun g => [(g1, 27, [.int .i64 a, .int .i64 b])]) (fun g => [⟨g.2.2.1, 3, 1, (g.2.1 + 1), g.2.2.2⟩]) (fun g => [SlOld wEnc 2 27 w.heap.size none A n T]) (fun g => n - g.1) (0, 0, .slice (some ⟨g2, 0, none⟩) 1 1, [.int .i64 a]) ⟨Nat.zero_le _, by simp [frsM], Nat.le_refl _, by simp [frsM, iEnc]⟩ ⟨rfl, rfl, rfl, rfl, rfl, rfl, rfl, rfl, trivial⟩ (fun _ hm => hm.pick [0] [0] [0] rfl rfl) ?_
 rintro ⟨i, k, v, xs⟩ hinv
 replace hinv : i ≤ n ∧ (frsM a b (T.take i)).length = k ∧ k ≤ i ∧ xs = (a :: frsM a b (T.take i)).flatMap iEnc := hinv
 dsimp only
 refine sr_ ?_
 obtain ⟨hi0, hk, hki, rfl⟩ := hinv
 refine wl_ov (ov_lss rfl rfl) rfl (nn_ (gw_seq ?_))
 refine gw_cond rfl (fun hh => ?_) (fun hh => ?_)
 ·have hi : ((i : Nat) : Int) < ((n : Nat) : Int) := by simpa using hh
  clear hh
  refine gw_skip (nx_then (gw_seq (gw_block (sr_ ?_))))
  obtain ⟨bt, off, hA, _, _⟩ := ht.get (by omega)
  subst hA
  obtain ⟨x, hx⟩ : ∃ x, T[i]? = some x := ⟨_, List.getElem?_eq_getElem (by omega)⟩
  obtain ⟨fr, tt⟩ := x
  obtain ⟨ht0, ht1, ht2⟩ := hT _ (List.mem_of_getElem? hx)
  dsimp only at ht0 ht1 ht2
  have hft := frsM_take (a := a) (b := b) hx
  refine wl_ov (ov_index (j := i) es341 rfl rfl (by omega)) rfl ?_
  refine wl_ov (ov_elem (vs := [.int .i64 fr, .int .i64 tt]) rz27 rfl (fun _ hm => (hm.fact 0 rfl).1) hx rfl rfl) rfl ?_
  refine wl_alloc zc27 rfl fun g3 => ?_
  refine wl_stores (cs' := [.int .i64 fr, .int .i64 tt]) 0 rz27 rfl rfl rfl rfl rfl rfl rfl rfl ?_
  refine nn_ (sr_ (fd_ fo27_0 rfl rfl (lk_ sc3 0 rfl rfl rfl (fd_ fo27_0 rfl rfl (lk_ sc3 1 rfl rfl rfl (fd_ fo27_1 rfl rfl (lk_ sc3 1 rfl rfl rfl ?_)))))))
  refine wl_ov (ov_sub rfl rfl (by omega) (by omega)) rfl ?_
  refine wl_callw rfl cb166 rfl rfl (fun wx hm => (in_any _ _ _ wx)) ?_
  refine nn_ ?_
  refine gw_cond rfl (fun hh => ?_) (fun hh => ?_)
  ·have hq : (inB fr a (b - 1)) = true := by simpa using hh
   clear hh
   refine gw_region ?_
   rw [if_pos hq] at hft
   refine mv_ rfl (fd_ fo27_0 rfl rfl (lk_ sc3 0 rfl rfl rfl ?_))
   refine wl_buildSlice (e := 3) (cs := [.int .i64 fr]) rfl (by kernel_rfl) rfl fun g4 => ?_
   refine wl_append (news := [.int .i64 fr]) 0 0 ap22 rfl rfl rfl rfl rfl rfl rfl (by omega) (by unfold maxLen; omega) rfl rfl fun v2 hv2 => ?_
   refine sg_ rfl (wl_nil (nx_blk_nrm (nx_then (gw_region (ad_ rfl rfl (mv_ rfl (wl_nil ?_)))))))
   exact nx_round (i + 1, k + 1, v2, (a :: frsM a b (T.take i)).flatMap iEnc ++ ([.int .i64 fr] : List Value)) ⟨by dsimp only; omega, by rw [hft]; simp [hk], by dsimp only; omega, by rw [hft]; simp [iEnc]⟩ (by dsimp only; omega) ⟨rfl, rfl, rfl, rfl, rfl, rfl, rfl, (some_int (by omega)), trivial⟩ (fun _ hm => hm.pick [2] [0] [0] rfl rfl)
  have hq : (inB fr a (b - 1)) = false := by simpa using hh
  clear hh
  refine gw_skip (nx_blk_nrm (nx_then (gw_region ?_)))
  rw [if_neg (by rw [hq]; decide), List.append_nil] at hft
  refine ad_ rfl rfl (mv_ rfl (wl_nil ?_))
  exact nx_round (i + 1, k, v, (a :: frsM a b (T.take i)).flatMap iEnc) ⟨by dsimp only; omega, by rw [hft]; exact hk, by dsimp only; omega, by rw [hft]⟩ (by dsimp only; omega) ⟨rfl, rfl, rfl, rfl, rfl, rfl, rfl, (some_int (by omega)), trivial⟩ (fun _ hm => hm.pick [1] [0] [0] rfl rfl)
 have hi : ¬ (((i : Nat) : Int) < ((n : Nat) : Int)) := by simpa using hh
 clear hh
 refine gw_exit ?_
 refine nx_then_exit (nx_then_exit ?_)
 refine nx_blk_here ?_
 refine nx_then (sr_ ?_)
 have hall : T.take i = T := List.take_of_length_le (by omega)
 rw [hall] at hk ⊢
 obtain ⟨S, hS⟩ : ∃ S, S = sortI (a :: frsM a b T) := ⟨_, rfl⟩
 have hSl : S.length = k + 1 := by rw [hS, sortI_len, List.length_cons, hk]
 have hgoal : busyT T a b = busyF (onT T) S := by unfold busyT; rw [hS]
 rw [hgoal]
 refine wl_look (R := ∃ A cc, v = .slice A (k + 1) cc) (fun wx hm => own_slice (hm.ownI 0 rfl)) ?_
 rintro ⟨A3, c3, rfl⟩
 refine wl_look (R := ∃ g, A3 = some ⟨g, 0, none⟩) (fun wx hm => own_addr (hm.ownI 0 rfl) (by omega)) ?_
 rintro ⟨g3, rfl⟩
 refine mv_ rfl ?_
 refine wl_callr (v := .tuple #[]) (xs' := S.flatMap iEnc) 0 rfl rfl rfl cb136 rfl rfl (fun wx hm => (by have h := sort_own (a :: frsM a b T) g3 (k + 1) c3 _ wx (hm.ownI 0 rfl) (by simp [hk]) (by omega); rw [← hS] at h; exact h)) ?_
 refine nn_ (sr_ (sg_ rfl ?_))
 refine wl_set 9 (v' := .int .i64 (-1)) rfl rfl ?_
 refine sg_ rfl (nn_ (gw_seq (sr_ (mv_ rfl (wl_ov (ov_len es22 rfl) rfl (mv_ rfl (nn_ (gw_block ?_))))))))
 refine gw_loop (γ := Nat) (fun (j : Nat) => j ≤ k + 1) (fun (j : Nat) => [(0, .slice A n c), (4, .int .i64 0), (5, .int .i64 0), (9, .int .i64 ((busyF (onT T) (S.take j)).1)), (10, .int .i64 ((busyF (onT T) (S.take j)).2)), (41, .slice (some ⟨g3, 0, none⟩) (k + 1) c3), (42, .int .i64 (((k + 1) : Nat) : Int)), (43, .int .i64 ((j : Nat) : Int))]) (fun (j : Nat) => fun _ => True) (fun (j : Nat) => [(g1, 27, [.int .i64 a, .int .i64 b])]) (fun (j : Nat) => [⟨.slice (some ⟨g3, 0, none⟩) (k + 1) c3, 3, 1, (k + 1), S.flatMap iEnc⟩]) (fun (j : Nat) => [SlOld wEnc 2 27 w.heap.size none A n T]) (fun (j : Nat) => k + 1 - j) 0 (Nat.zero_le _) ⟨rfl, rfl, rfl, (some_int (by rw [List.take_zero]; rfl)), (some_int (by rw [List.take_zero]; rfl)), rfl, rfl, rfl, trivial⟩ (fun _ hm => hm.pick [0] [0] [0] rfl rfl) ?_
 intro j hinv
 replace hinv : j ≤ k + 1 := hinv
 refine sr_ (wl_ov (ov_lss rfl rfl) rfl (nn_ (gw_seq ?_)))
 refine gw_cond rfl (fun hh => ?_) (fun hh => ?_)
 ·have hj : ((j : Nat) : Int) < (((k + 1) : Nat) : Int) := by simpa using hh
  clear hh
  refine gw_skip (nx_then (gw_seq (gw_block (sr_ ?_))))
  obtain ⟨x, hxS⟩ : ∃ x, S[j]? = some x := ⟨_, List.getElem?_eq_getElem (by omega)⟩
  refine wl_ov (ov_index (j := j) es22 rfl rfl (by omega)) rfl ?_
  refine wl_ov (ov_elem1 (k := 0) (v := .int .i64 x) sc3 rfl (fun _ hm => (SlT.ofOwn i_len (hm.ownI 0 rfl) hSl)) hxS rfl rfl) rfl ?_
  refine sg_ rfl (nn_ (sr_ (sg_ rfl (nn_ (gw_seq (sr_ (mv_ rfl (wl_ov (ov_len es341 rfl) rfl (mv_ rfl ?_)))))))))
  refine nn_ (gw_block ?_)
  refine gw_loop (γ := Nat) (fun (i : Nat) => i ≤ n) (fun (i : Nat) => [(0, .slice A n c), (4, .int .i64 0), (5, .int .i64 0), (9, .int .i64 ((busyF (onT T) (S.take j)).1)), (10, .int .i64 ((busyF (onT T) (S.take j)).2)), (12, .int .i64 x), (13, .int .i64 ((onT (T.take i) x : Nat) : Int)), (41, .slice (some ⟨g3, 0, none⟩) (k + 1) c3), (42, .int .i64 (((k + 1) : Nat) : Int)), (43, .int .i64 ((j : Nat) : Int)), (47, .slice A n c), (48, .int .i64 ((n : Nat) : Int)), (49, .int .i64 ((i : Nat) : Int))]) (fun (i : Nat) => fun _ => True) (fun (i : Nat) => [(g1, 27, [.int .i64 a, .int .i64 b])]) (fun (i : Nat) => [⟨.slice (some ⟨g3, 0, none⟩) (k + 1) c3, 3, 1, (k + 1), S.flatMap iEnc⟩]) (fun (i : Nat) => [SlOld wEnc 2 27 w.heap.size none A n T]) (fun (i : Nat) => n - i) 0 (Nat.zero_le _) ⟨rfl, rfl, rfl, rfl, rfl, rfl, (some_int (by rw [List.take_zero]; rfl)), rfl, rfl, rfl, rfl, rfl, rfl, trivial⟩ (fun _ hm => hm.pick [0] [0] [0] rfl rfl) ?_
  intro i hinv
  replace hinv : i ≤ n := hinv
  refine sr_ (wl_ov (ov_lss rfl rfl) rfl (nn_ (gw_seq ?_)))
  refine gw_cond rfl (fun hh => ?_) (fun hh => ?_)
  ·have hi3 : ((i : Nat) : Int) < ((n : Nat) : Int) := by simpa using hh
   clear hh
   refine gw_skip (nx_then (gw_seq (gw_block (sr_ ?_))))
   obtain ⟨bt, off, hA, _, _⟩ := ht.get (by omega)
   subst hA
   obtain ⟨x3, hx3⟩ : ∃ x, T[i]? = some x := ⟨_, List.getElem?_eq_getElem (by omega)⟩
   obtain ⟨fr, tt⟩ := x3
   obtain ⟨ht0, ht1, ht2⟩ := hT _ (List.mem_of_getElem? hx3)
   dsimp only at ht0 ht1 ht2
   have hon := onT_take (x := x) hx3
   have hob := onT_le (T.take i) x
   have hobl : (T.take i).length ≤ n := by rw [List.length_take]; omega
   refine wl_ov (ov_index (j := i) es341 rfl rfl (by omega)) rfl ?_
   refine wl_ov (ov_elem (vs := [.int .i64 fr, .int .i64 tt]) rz27 rfl (fun _ hm => (hm.fact 0 rfl).1) hx3 rfl rfl) rfl ?_
   refine wl_alloc zc27 rfl fun g5 => ?_
   refine wl_stores (cs' := [.int .i64 fr, .int .i64 tt]) 0 rz27 rfl rfl rfl rfl rfl rfl rfl rfl ?_
   refine nn_ (sr_ (mv_ rfl (fd_ fo27_0 rfl rfl (lk_ sc3 0 rfl rfl rfl (fd_ fo27_1 rfl rfl (lk_ sc3 0 rfl rfl rfl ?_))))))
   refine wl_ov (ov_sub rfl rfl (by omega) (by omega)) rfl ?_
   refine wl_callw rfl cb166 rfl rfl (fun wx hm => (in_any _ _ _ wx)) ?_
   refine nn_ ?_
   refine gw_cond rfl (fun hh => ?_) (fun hh => ?_)
   ·have hq : (inB x fr (tt - 1)) = true := by simpa using hh
    clear hh
    refine gw_region ?_
    rw [if_pos hq] at hon
    refine mv_ rfl (ad_ rfl rfl (sg_ rfl (wl_nil (nx_blk_nrm (nx_then (gw_region (ad_ rfl rfl (mv_ rfl (wl_nil ?_)))))))))
    exact nx_round (i + 1) (by omega) (by omega) ⟨rfl, rfl, rfl, rfl, rfl, rfl, (some_int (by rw [hon]; omega)), rfl, rfl, rfl, rfl, rfl, (some_int (by omega)), trivial⟩ (fun _ hm => hm.pick [1] [0] [0] rfl rfl)
   have hq : (inB x fr (tt - 1)) = false := by simpa using hh
   clear hh
   refine gw_skip (nx_blk_nrm (nx_then (gw_region ?_)))
   rw [if_neg (by rw [hq]; decide)] at hon
   refine ad_ rfl rfl (mv_ rfl (wl_nil ?_))
   exact nx_round (i + 1) (by omega) (by omega) ⟨rfl, rfl, rfl, rfl, rfl, rfl, (some_int (by rw [hon]; omega)), rfl, rfl, rfl, rfl, rfl, (some_int (by omega)), trivial⟩ (fun _ hm => hm.pick [1] [0] [0] rfl rfl)
  have hi3 : ¬ (((i : Nat) : Int) < ((n : Nat) : Int)) := by simpa using hh
  clear hh
  refine gw_exit ?_
  refine nx_then_exit (nx_then_exit ?_)
  refine nx_blk_here ?_
  refine nx_then (sr_ ?_)
  have hall3 : T.take i = T := List.take_of_length_le (by omega)
  rw [hall3]
  refine mv_ rfl (mv_ rfl ?_)
  refine wl_ov (ov_gtr rfl rfl) rfl ?_
  refine nn_ ?_
  refine gw_cond rfl (fun hh => ?_) (fun hh => ?_)
  ·have hc : (busyF (onT T) (S.take j)).1 < ((onT T x : Nat) : Int) := by simpa using hh
   clear hh
   refine gw_region ?_
   have hst := busyF_stp (f := onT T) hxS hc
   refine mv_ rfl (mv_ rfl (sg_ rfl (sg_ rfl (wl_nil (nx_blk_nrm (nx_then (gw_region (ad_ rfl rfl (mv_ rfl (wl_nil ?_))))))))))
   exact nx_round (j + 1) (by omega) (by omega) ⟨rfl, rfl, rfl, (some_int hst.1.symm), (some_int hst.2.symm), rfl, rfl, (some_int (by omega)), trivial⟩ (fun _ hm => hm.pick [0] [0] [0] rfl rfl)
  have hc : ¬ ((busyF (onT T) (S.take j)).1 < ((onT T x : Nat) : Int)) := by simpa using hh
  clear hh
  refine gw_skip (nx_blk_nrm (nx_then (gw_region ?_)))
  have hst := busyF_sty (f := onT T) hxS hc
  refine ad_ rfl rfl (mv_ rfl (wl_nil ?_))
  exact nx_round (j + 1) (by omega) (by omega) ⟨rfl, rfl, rfl, (some_int (by rw [hst])), (some_int (by rw [hst])), rfl, rfl, (some_int (by omega)), trivial⟩ (fun _ hm => hm.pick [0] [0] [0] rfl rfl)
 have hj : ¬ (((j : Nat) : Int) < (((k + 1) : Nat) : Int)) := by simpa using hh
 clear hh
 refine gw_exit ?_
 refine nx_then_exit (nx_then_exit ?_)
 refine nx_blk_here ?_
 refine nx_then (sr_ (mv_ rfl (mv_ rfl (sg_ rfl (sg_ rfl (nn_ ?_))))))
 refine gw_ret ?_
 have hall2 : S.take j = S := List.take_of_length_le (by omega)
 refine nx_ret2 rfl rfl rfl fun wx hm => ?_
 exact ⟨by rw [hall2], hm.g⟩
theorem checkE_eq (cs : List Cs) (l : List Bk) : checkE cs l = firstE [classesE cs, formE l, if l.any (fun b => noB cs b.cls) = true then 8 else 0] := by
  unfold checkE classedE
  by_cases h : classesE cs = 0
  · rw [h]
    by_cases h2 : formE l = 0
    · rw [if_neg (by simpa using h2), h2]; simp [firstE]
    · rw [if_pos h2]; simp [firstE, h2]
  · simp [firstE, h]
theorem bf1_any (cs : List Cs) (A0 : Option Addr) (n0 c0 : Nat) (gc : Nat) (w : World) (hcs : SlT csEnc 2 158 w A0 n0 cs) (hco : ∀ x ∈ cs, CsOk x) (hn0 : n0 ≤ 1000) (hgc : Blk w gc 58 [.slice A0 n0 c0]) :
  Calls Tryz.prog 147 #[.pointer (some ⟨gc, 0, none⟩)] w (GotE w (classesE cs)) := by
 refine gw_enter ⟨4, w, none, []⟩ Tryz.func147 rfl Tryz.ntmps147 rfl (mem0 (X := [SlOld csEnc 2 158 w.heap.size none A0 n0 cs, BlkOld w.heap.size none gc 58 [.slice A0 n0 c0]]) (allF_cons hcs.old (allF_cons hgc.old allF_nil)) (allL_cons SlOld.lasts (allL_cons BlkOld.lasts allL_nil))) ?_
 refine sr_ ?_
 obtain ⟨EE, hEE⟩ : ∃ E : Int, E = (classesE cs) := ⟨_, rfl⟩
 rw [← hEE]
 refine sg_ rfl (nn_ (sr_ ?_))
 refine wl_ov (ov_load (v := .slice A0 n0 c0) sc58 rfl (fun _ hm => (hm.fact 1 rfl).2) rfl) rfl ?_
 refine wl_callv (v := .int .i64 EE) rfl cb148 rfl rfl (fun wx hm => (by rw [hEE]; exact classesFault_any cs A0 n0 c0 wx (hm.fact 0 rfl).1 hco (by omega))) ?_
 refine sg_ rfl (nn_ ?_)
 refine gw_ret ?_
 refine nx_ret1 rfl rfl fun wx hm => ?_
 exact ⟨rfl, hm.g⟩
theorem bf2_any (l : List Bk) (A : Option Addr) (n c : Nat) (gb : Nat) (w : World) (hl : SlT bkEnc 6 92 w A n l) (hok : ∀ x ∈ l, BkOk x) (hn : n ≤ 1000) (hgb : Blk w gb 76 [.slice A n c]) :
  Calls Tryz.prog 149 #[.pointer (some ⟨gb, 0, none⟩)] w (GotE w (formE l)) := by
 refine gw_enter ⟨4, w, none, []⟩ Tryz.func149 rfl Tryz.ntmps149 rfl (mem0 (X := [SlOld bkEnc 6 92 w.heap.size none A n l, BlkOld w.heap.size none gb 76 [.slice A n c]]) (allF_cons hl.old (allF_cons hgb.old allF_nil)) (allL_cons SlOld.lasts (allL_cons BlkOld.lasts allL_nil))) ?_
 refine sr_ ?_
 obtain ⟨EE, hEE⟩ : ∃ E : Int, E = (formE l) := ⟨_, rfl⟩
 rw [← hEE]
 refine sg_ rfl (nn_ (sr_ ?_))
 refine wl_ov (ov_load (v := .slice A n c) sc76 rfl (fun _ hm => (hm.fact 1 rfl).2) rfl) rfl ?_
 refine wl_callv (v := .int .i64 EE) rfl cb137 rfl rfl (fun wx hm => (by rw [hEE]; exact bookingForm_any l A n c wx (hm.fact 0 rfl).1 hok (by omega))) ?_
 refine sg_ rfl (nn_ ?_)
 refine gw_ret ?_
 refine nx_ret1 rfl rfl fun wx hm => ?_
 exact ⟨rfl, hm.g⟩
theorem bf3_any (cs : List Cs) (A0 : Option Addr) (n0 c0 : Nat) (l : List Bk) (A : Option Addr) (n c : Nat) (gc gb : Nat) (w : World) (hcs : SlT csEnc 2 158 w A0 n0 cs) (hco : ∀ x ∈ cs, CsOk x) (hn0 : n0 ≤ 1000) (hl : SlT bkEnc 6 92 w A n l) (hok : ∀ x ∈ l, BkOk x) (hn : n ≤ 1000) (hgc : Blk w gc 58 [.slice A0 n0 c0]) (hgb : Blk w gb 76 [.slice A n c]) :
  Calls Tryz.prog 150 #[.pointer (some ⟨gc, 0, none⟩), .pointer (some ⟨gb, 0, none⟩)] w (GotE w (if l.any (fun b => noB cs b.cls) = true then 8 else 0)) := by
 refine gw_enter ⟨6, w, none, []⟩ Tryz.func150 rfl Tryz.ntmps150 rfl (mem0 (X := [SlOld csEnc 2 158 w.heap.size none A0 n0 cs, SlOld bkEnc 6 92 w.heap.size none A n l, BlkOld w.heap.size none gc 58 [.slice A0 n0 c0], BlkOld w.heap.size none gb 76 [.slice A n c]]) (allF_cons hcs.old (allF_cons hl.old (allF_cons hgc.old (allF_cons hgb.old allF_nil)))) (allL_cons SlOld.lasts (allL_cons SlOld.lasts (allL_cons BlkOld.lasts (allL_cons BlkOld.lasts allL_nil))))) ?_
 refine sr_ ?_
 obtain ⟨EE, hEE⟩ : ∃ E : Int, E = (if l.any (fun b => noB cs b.cls) = true then 8 else 0) := ⟨_, rfl⟩
 rw [← hEE]
 refine sg_ rfl (nn_ (sr_ ?_))
 refine wl_ov (ov_load (v := .slice A0 n0 c0) sc58 rfl (fun _ hm => (hm.fact 2 rfl).2) rfl) rfl ?_
 refine wl_ov (ov_load (v := .slice A n c) sc76 rfl (fun _ hm => (hm.fact 3 rfl).2) rfl) rfl ?_
 refine wl_callv (v := .int .i64 EE) rfl cb138 rfl rfl (fun wx hm => (by rw [hEE]; exact known_any cs A0 n0 c0 l A n c wx (hm.fact 0 rfl).1 hco hn0 (hm.fact 1 rfl).1 hok hn)) ?_
 refine sg_ rfl (nn_ ?_)
 refine gw_ret ?_
 refine nx_ret1 rfl rfl fun wx hm => ?_
 exact ⟨rfl, hm.g⟩
theorem bookingsFault_any (cs : List Cs) (A0 : Option Addr) (n0 c0 : Nat) (l : List Bk) (A : Option Addr) (n c : Nat) (w : World) (hcs : SlT csEnc 2 158 w A0 n0 cs) (hco : ∀ x ∈ cs, CsOk x) (hn0 : n0 ≤ 1000) (hl : SlT bkEnc 6 92 w A n l) (hok : ∀ x ∈ l, BkOk x) (hn : n ≤ 1000) :
  Calls Tryz.prog 51 #[.slice A0 n0 c0, .slice A n c] w (GotE w (checkE cs l)) := by
 refine gw_enter ⟨23, w, none, []⟩ Tryz.func51 rfl Tryz.ntmps51 rfl (mem0 (X := [SlOld csEnc 2 158 w.heap.size none A0 n0 cs, SlOld bkEnc 6 92 w.heap.size none A n l]) (allF_cons hcs.old (allF_cons hl.old allF_nil)) (allL_cons SlOld.lasts (allL_cons SlOld.lasts allL_nil))) ?_
 refine sr_ ?_
 rw [checkE_eq]
 obtain ⟨CE, hCE⟩ : ∃ E, E = classesE cs := ⟨_, rfl⟩
 obtain ⟨FE, hFE⟩ : ∃ E, E = formE l := ⟨_, rfl⟩
 obtain ⟨KE, hKE⟩ : ∃ E, E = (if l.any (fun b => noB cs b.cls) = true then (8 : Int) else 0) := ⟨_, rfl⟩
 rw [← hCE, ← hFE, ← hKE]
 refine wl_box rfl rfl rfl fun g1 => ?_
 refine wl_box rfl rfl rfl fun g2 => ?_
 refine sg_ rfl (nn_ (gw_seq (sr_ (wl_ov (ov_makeFunc rfl rfl) rfl (wl_ov (ov_makeFunc rfl rfl) rfl (wl_ov (ov_makeFunc rfl rfl) rfl ?_))))))
 refine wl_buildSlice (e := 84) (cs := [.func (.func 147) #[] #[.pointer (some ⟨g1, 0, none⟩)], .func (.func 149) #[] #[.pointer (some ⟨g2, 0, none⟩)], .func (.func 150) #[] #[.pointer (some ⟨g1, 0, none⟩), .pointer (some ⟨g2, 0, none⟩)]]) rfl (by kernel_rfl) rfl fun g3 => ?_
 refine wl_ov (ov_len es208 rfl) rfl ?_
 refine wl_set 12 (v' := .int .i64 3) rfl rfl ?_
 refine mv_ rfl (nn_ (gw_block ?_))
 refine gw_rounds 4 ?_
 refine gr_next ?_
 refine sr_ (wl_ov (ov_lss rfl rfl) rfl ?_)
 refine wl_set 14 (v' := .bool true) rfl (congrArg Value.bool (by decide)) ?_
 refine nn_ (gw_seq (ct_ rfl (gw_skip (nx_then (gw_seq (gw_block (sr_ ?_)))))))
 refine wl_ov (ov_index (j := 0) es208 rfl rfl (by decide)) rfl ?_
 refine lk_ sc84 0 rfl rfl rfl (sg_ rfl (nn_ (sr_ (mv_ rfl ?_))))
 refine wl_callv (v := .int .i64 CE) rfl cb147 rfl rfl (fun wx hm => (by rw [hCE]; exact bf1_any cs A0 n0 c0 _ wx (hm.fact 0 rfl).1 hco hn0 (hm.blkI 2 rfl))) ?_
 refine sg_ rfl (nn_ (sr_ (mv_ rfl (wl_ov (ov_neq rfl rfl) rfl (nn_ ?_)))))
 refine gw_cond rfl (fun hh => ?_) (fun hh => ?_)
 ·have h0 : ¬ (CE = 0) := by simpa using hh
  clear hh
  refine sr_ (mv_ rfl (sg_ rfl (nn_ ?_)))
  refine gw_ret ?_
  refine nx_blk_ret (nx_then_ret (nx_then_ret (nx_blk_ret (nx_then_ret ?_))))
  refine nx_ret1 rfl rfl fun wx hm => ?_
  exact ⟨ret_int (by simp [firstE, h0]), hm.g⟩
 have h0 : CE = 0 := by simpa using hh
 clear hh
 refine gw_skip (nx_blk_nrm (nx_then (gw_region (ad_ rfl rfl ?_))))
 refine wl_set 22 (v' := .int .i64 1) rfl rfl ?_
 refine mv_ rfl (wl_nil ?_)
 refine nx_next ?_
 refine gr_next ?_
 refine sr_ (wl_ov (ov_lss rfl rfl) rfl ?_)
 refine wl_set 14 (v' := .bool true) rfl (congrArg Value.bool (by decide)) ?_
 refine nn_ (gw_seq (ct_ rfl (gw_skip (nx_then (gw_seq (gw_block (sr_ ?_)))))))
 refine wl_ov (ov_index (j := 1) es208 rfl rfl (by decide)) rfl ?_
 refine lk_ sc84 0 rfl rfl rfl (sg_ rfl (nn_ (sr_ (mv_ rfl ?_))))
 refine wl_callv (v := .int .i64 FE) rfl cb149 rfl rfl (fun wx hm => (by rw [hFE]; exact bf2_any l A n c _ wx (hm.fact 1 rfl).1 hok hn (hm.blkI 1 rfl))) ?_
 refine sg_ rfl (nn_ (sr_ (mv_ rfl (wl_ov (ov_neq rfl rfl) rfl (nn_ ?_)))))
 refine gw_cond rfl (fun hh => ?_) (fun hh => ?_)
 ·have h1 : ¬ (FE = 0) := by simpa using hh
  clear hh
  refine sr_ (mv_ rfl (sg_ rfl (nn_ ?_)))
  refine gw_ret ?_
  refine nx_blk_ret (nx_then_ret (nx_then_ret (nx_blk_ret (nx_then_ret ?_))))
  refine nx_ret1 rfl rfl fun wx hm => ?_
  exact ⟨ret_int (by simp [firstE, h0, h1]), hm.g⟩
 have h1 : FE = 0 := by simpa using hh
 clear hh
 refine gw_skip (nx_blk_nrm (nx_then (gw_region (ad_ rfl rfl ?_))))
 refine wl_set 22 (v' := .int .i64 2) rfl rfl ?_
 refine mv_ rfl (wl_nil ?_)
 refine nx_next ?_
 refine gr_next ?_
 refine sr_ (wl_ov (ov_lss rfl rfl) rfl ?_)
 refine wl_set 14 (v' := .bool true) rfl (congrArg Value.bool (by decide)) ?_
 refine nn_ (gw_seq (ct_ rfl (gw_skip (nx_then (gw_seq (gw_block (sr_ ?_)))))))
 refine wl_ov (ov_index (j := 2) es208 rfl rfl (by decide)) rfl ?_
 refine lk_ sc84 0 rfl rfl rfl (sg_ rfl (nn_ (sr_ (mv_ rfl ?_))))
 refine wl_callv (v := .int .i64 KE) rfl cb150 rfl rfl (fun wx hm => (by rw [hKE]; exact bf3_any cs A0 n0 c0 l A n c _ _ wx (hm.fact 0 rfl).1 hco hn0 (hm.fact 1 rfl).1 hok hn (hm.blkI 2 rfl) (hm.blkI 1 rfl))) ?_
 refine sg_ rfl (nn_ (sr_ (mv_ rfl (wl_ov (ov_neq rfl rfl) rfl (nn_ ?_)))))
 refine gw_cond rfl (fun hh => ?_) (fun hh => ?_)
 ·have h2 : ¬ (KE = 0) := by simpa using hh
  clear hh
  refine sr_ (mv_ rfl (sg_ rfl (nn_ ?_)))
  refine gw_ret ?_
  refine nx_blk_ret (nx_then_ret (nx_then_ret (nx_blk_ret (nx_then_ret ?_))))
  refine nx_ret1 rfl rfl fun wx hm => ?_
  exact ⟨ret_int (by simp [firstE, h0, h1, h2]), hm.g⟩
 have h2 : KE = 0 := by simpa using hh
 clear hh
 refine gw_skip (nx_blk_nrm (nx_then (gw_region (ad_ rfl rfl ?_))))
 refine wl_set 22 (v' := .int .i64 3) rfl rfl ?_
 refine mv_ rfl (wl_nil ?_)
 refine nx_next ?_
 refine gr_next ?_
 refine sr_ (wl_ov (ov_lss rfl rfl) rfl ?_)
 refine wl_set 14 (v' := .bool false) rfl (congrArg Value.bool (by decide)) ?_
 refine nn_ (gw_seq (cf_ rfl ?_))
 refine gw_exit ?_
 refine nx_then_exit (nx_then_exit ?_)
 refine nx_blk_here ?_
 refine nx_then (sr_ (sg_ rfl (nn_ ?_)))
 refine gw_ret ?_
 refine nx_ret1 rfl rfl fun wx hm => ?_
 exact ⟨ret_int (by simp [firstE, h0, h1, h2]), hm.g⟩
end Go.Proofs.YtempjmpfdniecaaGreatDoor
namespace Go.Proofs.YtempjmpfdniecaaGreatDoor
/-- The units of a class, from number u + 1 on. -/
def unitsF (sl : List Sk) (k : ByteArray) (u : Nat) : List Cand := ((List.range (manyV sl k).toNat).drop u).map fun i => (k, ((i + 1 : Nat) : Int))
theorem unitsF_more {sl : List Sk} {k : ByteArray} {u : Nat} (h : ((u + 1 : Nat) : Int) ≤ manyV sl k) : unitsF sl k u = (k, ((u + 1 : Nat) : Int)) :: unitsF sl k (u + 1) := by
  unfold unitsF
  have hu : u < (List.range (manyV sl k).toNat).length := by rw [List.length_range]; omega
  rw [List.drop_eq_getElem_cons hu, List.map_cons, List.getElem_range]
theorem unitsF_end {sl : List Sk} {k : ByteArray} {u : Nat} (h : ¬ ((u + 1 : Nat) : Int) ≤ manyV sl k) : unitsF sl k u = [] := by
  unfold unitsF
  rw [List.drop_eq_nil_of_le (by rw [List.length_range]; omega)]; rfl
def candsF (sl : List Sk) (ks : List ByteArray) : List Cand := ks.flatMap fun k => unitsF sl k 0
theorem candsF_at {sl : List Sk} {ks : List ByteArray} {i : Nat} {k : ByteArray} (h : ks[i]? = some k) : candsF sl (ks.drop i) = unitsF sl k 0 ++ candsF sl (ks.drop (i + 1)) := by
  obtain ⟨hi, rfl⟩ := List.getElem?_eq_some_iff.1 h
  rw [List.drop_eq_getElem_cons hi]; rfl
theorem candsF_end {sl : List Sk} {ks : List ByteArray} {i : Nat} (h : ks.length ≤ i) : candsF sl (ks.drop i) = [] := by
  rw [List.drop_eq_nil_of_le h]; rfl
/-- The classes of a booking: its own, then those above. -/
def clsF (cs : List Cs) (b : Bk) : List ByteArray := b.cls :: pathN cs cs.length b.cls
def cdB (cs : List Cs) (sl : List Sk) (b : Bk) : List Cand := candsF sl (clsF cs b)
theorem cd_pos {cs : List Cs} {sl : List Sk} : ∀ b, ∀ c ∈ cdB cs sl b, 1 ≤ c.2 := fun b c hc => by
  unfold cdB candsF at hc
  obtain ⟨k, _, hc⟩ := List.mem_flatMap.1 hc
  unfold unitsF at hc
  obtain ⟨i, _, rfl⟩ := List.mem_map.1 hc
  show (1 : Int) ≤ ((i + 1 : Nat) : Int)
  omega
theorem any_take1 {α : Type} {p : α → Bool} {l : List α} {i : Nat} {x : α} (h : l[i]? = some x) : (l.take (i + 1)).any p = ((l.take i).any p || p x) := by
  rw [List.take_add_one, h, List.any_append]; simp
theorem zip_at {α β : Type} {l : List α} {m : List β} {i : Nat} {x : α} {y : β} (h1 : l[i]? = some x) (h2 : m[i]? = some y) : (l.zip m)[i]? = some (x, y) := by
  rw [List.getElem?_zip_eq_some]; exact ⟨h1, h2⟩
/-- One booking more, in order. -/
theorem gAll_at {cd : Bk → List Cand} {ord : List Bk} {i : Nat} {b : Bk} (h : ord[i]? = some b) : gAll cd (ord.take (i + 1)) = gStep cd (gAll cd (ord.take i)) b := by
  rw [List.take_add_one, h]; exact gAll_snoc
/-- The program's row after the numbers of a list. -/
def gotF (cs : List Cs) (sl : List Sk) (l : List Bk) (ids : List Nat) : List Gv × List Nat := ids.foldl (fun p i => (gStepI (cdB cs sl) l p.1 p.2 i, p.2 ++ [i])) (List.replicate l.length gvZ, [])
theorem gotF_snoc {cs : List Cs} {sl : List Sk} {l : List Bk} {ids : List Nat} {i : Nat} : gotF cs sl l (ids ++ [i]) = (gStepI (cdB cs sl) l (gotF cs sl l ids).1 (gotF cs sl l ids).2 i, (gotF cs sl l ids).2 ++ [i]) := by
  unfold gotF; rw [List.foldl_append]; rfl
theorem gotF_done {cs : List Cs} {sl : List Sk} {l : List Bk} (ids : List Nat) : (gotF cs sl l ids).2 = ids := by
  have h : ∀ (ids : List Nat) (p : List Gv × List Nat), (ids.foldl (fun p i => (gStepI (cdB cs sl) l p.1 p.2 i, p.2 ++ [i])) p).2 = p.2 ++ ids := by
    intro ids
    induction ids with
    | nil => intro p; simp
    | cons x r ih => intro p; rw [List.foldl_cons, ih]; simp
  unfold gotF; rw [h]; rfl
theorem gStepI_len {cd : Bk → List Cand} {l : List Bk} {got : List Gv} {done : List Nat} {i : Nat} : (gStepI cd l got done i).length = got.length := by
  unfold gStepI; split
  · exact List.length_set ..
  · rfl
theorem gotF_len {cs : List Cs} {sl : List Sk} {l : List Bk} (ids : List Nat) : (gotF cs sl l ids).1.length = l.length := by
  have h : ∀ (ids : List Nat) (p : List Gv × List Nat), (ids.foldl (fun p i => (gStepI (cdB cs sl) l p.1 p.2 i, p.2 ++ [i])) p).1.length = p.1.length := by
    intro ids
    induction ids with
    | nil => intro p; rfl
    | cons x r ih => intro p; rw [List.foldl_cons, ih]; exact gStepI_len
  unfold gotF; rw [h]; exact List.length_replicate ..
theorem gotF_at {cs : List Cs} {sl : List Sk} {l : List Bk} {ids : List Nat} {j i : Nat} (h : ids[j]? = some i) : (gotF cs sl l (ids.take (j + 1))).1 = gStepI (cdB cs sl) l (gotF cs sl l (ids.take j)).1 (ids.take j) i := by
  rw [List.take_add_one, h]
  have := gotF_snoc (cs := cs) (sl := sl) (l := l) (ids := ids.take j) (i := i)
  rw [gotF_done] at this
  exact congrArg Prod.fst this
theorem gvAt_rep (n i : Nat) : gvAt (List.replicate n gvZ) i = gvZ := by
  unfold gvAt
  by_cases h : i < n
  · rw [List.getElem?_replicate_of_lt h]; rfl
  · rw [List.getElem?_eq_none (by simpa using h)]; rfl
/-- What has not been served yet has got nothing. -/
theorem gotF_zero {cs : List Cs} {sl : List Sk} {l : List Bk} {i : Nat} : ∀ (k : Nat) (ids : List Nat), ids.length = k → (∀ x ∈ ids, x < l.length) → i ∉ ids → gvAt (gotF cs sl l ids).1 i = gvZ
  | 0, ids, hk, _, _ => by
    obtain rfl : ids = [] := List.eq_nil_of_length_eq_zero hk
    exact gvAt_rep _ _
  | k + 1, ids, hk, hb, hn => by
    obtain ⟨r, x, rfl⟩ : ∃ r x, ids = r ++ [x] := ⟨ids.dropLast, ids.getLast (by intro h; subst h; cases hk), (List.dropLast_concat_getLast _).symm⟩
    have hr := gotF_zero (cs := cs) (sl := sl) (l := l) (i := i) k r (by simpa using hk) (fun y hy => hb y (List.mem_append_left _ hy)) (fun h => hn (List.mem_append_left _ h))
    have hx : i ≠ x := fun e => hn (by rw [e]; simp)
    rw [gotF_snoc]
    show gvAt (gStepI _ l (gotF cs sl l r).1 (gotF cs sl l r).2 x) i = gvZ
    unfold gStepI
    split
    · rw [gvAt_set (by rw [gotF_len]; exact hb x (by simp)), if_neg hx]; exact hr
    · exact hr
/-- The program's row is what the one list says. -/
theorem gotF_ok {cs : List Cs} {sl : List Sk} {l : List Bk} : ∀ (k : Nat) (ids : List Nat), ids.length = k → (∀ x ∈ ids, x < l.length) → ids.Nodup → GotOk l (gotF cs sl l ids).1 ids (gAll (cdB cs sl) (ids.map (bkAt l)))
  | 0, ids, hk, _, _ => by
    obtain rfl : ids = [] := List.eq_nil_of_length_eq_zero hk
    exact ⟨rfl, fun j k h => by simp at h⟩
  | k + 1, ids, hk, hb, hd => by
    obtain ⟨r, x, rfl⟩ : ∃ r x, ids = r ++ [x] := ⟨ids.dropLast, ids.getLast (by intro h; subst h; cases hk), (List.dropLast_concat_getLast _).symm⟩
    obtain ⟨hd1, hd2⟩ : r.Nodup ∧ x ∉ r := by
      have h := List.nodup_append.1 hd
      exact ⟨h.1, fun hx => h.2.2 x hx x (by simp) rfl⟩
    have hbr : ∀ y ∈ r, y < l.length := fun y hy => hb y (List.mem_append_left _ hy)
    have hr := gotF_ok (cs := cs) (sl := sl) (l := l) k r (by simpa using hk) hbr hd1
    have h := gotOk_step (cd := cdB cs sl) (i := x) cd_pos hr (by rw [gotF_len]; exact hb x (by simp)) hd2 (gotF_zero (cs := cs) (sl := sl) k r (by simpa using hk) hbr hd2)
    rw [gotF_snoc, gotF_done, List.map_append, List.map_singleton, gAll_snoc]
    exact h
/-- The numbers of the bookings in the order of their begin. -/
def idsI (l : List Bk) : List Int := isort (idLt l) ((List.range l.length).map fun k => ((k : Nat) : Int))
def idsN (l : List Bk) : List Nat := isort (fun a b => decide (cmpI (bkAt l a).fr (bkAt l b).fr < 0)) (List.range l.length)
theorem gfrAt_bk {l : List Bk} {k : Nat} : gfrAt l ((k : Nat) : Int) = (bkAt l k).fr := by
  unfold gfrAt bkAt
  rw [Int.toNat_natCast]
  cases h : l[k]? with
  | none => rfl
  | some b => rfl
theorem ids_eq (l : List Bk) : idsI l = (idsN l).map fun k => ((k : Nat) : Int) := by
  unfold idsI idsN
  exact isort_mapF (f := fun k : Nat => ((k : Nat) : Int)) (fun x y => by unfold idLt; rw [gfrAt_bk, gfrAt_bk]) _
theorem range_bk (l : List Bk) : (List.range l.length).map (bkAt l) = l := by
  apply List.ext_getElem?
  intro i
  rw [List.getElem?_map]
  by_cases hi : i < l.length
  · rw [List.getElem?_range hi, List.getElem?_eq_getElem hi]
    show some ((l[i]?).getD _) = _
    rw [List.getElem?_eq_getElem hi]; rfl
  · rw [List.getElem?_eq_none (by rw [List.length_range]; omega), List.getElem?_eq_none (by omega)]; rfl
theorem ids_ord (l : List Bk) : (idsN l).map (bkAt l) = isort grLt l := by
  unfold idsN
  rw [← isort_mapF (lt := fun a b => decide (cmpI (bkAt l a).fr (bkAt l b).fr < 0)) (lt' := grLt) (f := bkAt l) (fun x y => rfl), range_bk]
theorem ids_perm (l : List Bk) : (idsN l).Perm (List.range l.length) := isort_perm _ _
theorem ids_lt (l : List Bk) : ∀ x ∈ idsN l, x < l.length := fun x hx => by
  have := (ids_perm l).mem_iff.1 hx
  simpa using this
theorem ids_nodup (l : List Bk) : (idsN l).Nodup := (ids_perm l).nodup_iff.2 List.nodup_range
/-- The program's row at the end; what is given, who waits. -/
def gotE (cs : List Cs) (sl : List Sk) (l : List Bk) : List Gv := (gotF cs sl l (idsN l)).1
def givenE (cs : List Cs) (sl : List Sk) (l : List Bk) : List Gv := (gotE cs sl l).filter fun g => decide (0 < g.unit)
def waitE (cs : List Cs) (sl : List Sk) (l : List Bk) : List ByteArray := (List.range l.length).filterMap (lfF l (gotE cs sl l))
theorem gotE_len (cs : List Cs) (sl : List Sk) (l : List Bk) : (gotE cs sl l).length = l.length := gotF_len _
theorem gotE_ok (cs : List Cs) (sl : List Sk) (l : List Bk) : GotOk l (gotE cs sl l) (idsN l) (gAll (cdB cs sl) (isort grLt l)) := by
  have h := gotF_ok (cs := cs) (sl := sl) (l := l) _ (idsN l) rfl (ids_lt l) (ids_nodup l)
  rw [ids_ord] at h
  exact h
/-- Where something is given, its key is the booking's. -/
theorem gotE_key {cs : List Cs} {sl : List Sk} {l : List Bk} {i : Nat} (hi : i < l.length) (h : 0 < (gvAt (gotE cs sl l) i).unit) : (gvAt (gotE cs sl l) i).bk = (bkAt l i).key := by
  have hm : i ∈ idsN l := (ids_perm l).mem_iff.2 (by simpa using hi)
  obtain ⟨j, hj⟩ := List.getElem?_of_mem hm
  obtain ⟨o, _, hg⟩ := (gotE_ok cs sl l).2 j i hj
  rw [hg] at h ⊢
  cases o with
  | none => exact absurd h (by show ¬ (0 : Int) < 0; omega)
  | some c => rfl
end Go.Proofs.YtempjmpfdniecaaGreatDoor
namespace Go.Proofs.YtempjmpfdniecaaGreatDoor
open Go.RowKit
theorem greedyT_any (l : List Bk) (got : List Gv) (A G : Option Addr) (nb cb gc g1 g2 g3 g4 g5 i k : Nat) (c : ByteArray) (u : Int) (w : World) (hl : SlT bkEnc 6 92 w A nb l) (hv : SlT gvEnc 3 90 w G nb got) (hg1 : Blk w g1 80 [.slice G nb gc]) (hg2 : Blk w g2 9 [.string c]) (hg3 : Blk w g3 3 [.int .i64 u]) (hg4 : Blk w g4 76 [.slice A nb cb]) (hg5 : Blk w g5 3 [.int .i64 ((i : Nat) : Int)]) (hi : i < nb) (hk : k < nb) :
  Calls Tryz.prog 160 #[.int .i64 ((k : Nat) : Int), .pointer (some ⟨g1, 0, none⟩), .pointer (some ⟨g2, 0, none⟩), .pointer (some ⟨g3, 0, none⟩), .pointer (some ⟨g4, 0, none⟩), .pointer (some ⟨g5, 0, none⟩)] w (fun e w' => e = .returned (.bool ((gvAt got k).cls.toList == c.toList && decide ((gvAt got k).unit = u) && meetB (bkAt l i) (bkAt l k))) ∧ w.grownBy w' none) := by
 refine gw_enter ⟨37, w, none, []⟩ Tryz.func160 rfl Tryz.ntmps160 rfl (mem0 (X := [SlOld bkEnc 6 92 w.heap.size none A nb l, SlOld gvEnc 3 90 w.heap.size none G nb got, BlkOld w.heap.size none g1 80 [.slice G nb gc], BlkOld w.heap.size none g2 9 [.string c], BlkOld w.heap.size none g3 3 [.int .i64 u], BlkOld w.heap.size none g4 76 [.slice A nb cb], BlkOld w.heap.size none g5 3 [.int .i64 ((i : Nat) : Int)]]) (allF_cons hl.old (allF_cons hv.old (allF_cons hg1.old (allF_cons hg2.old (allF_cons hg3.old (allF_cons hg4.old (allF_cons hg5.old allF_nil))))))) (allL_cons SlOld.lasts (allL_cons SlOld.lasts (allL_cons BlkOld.lasts (allL_cons BlkOld.lasts (allL_cons BlkOld.lasts (allL_cons BlkOld.lasts (allL_cons BlkOld.lasts allL_nil)))))))) ?_
 refine sr_ ?_
 have hlen := hl.len
 have hlen2 := hv.len
 obtain ⟨b, off, hA, _, _⟩ := hl.get (by omega)
 subst hA
 obtain ⟨d, of2, hA, _, _⟩ := hv.get (by omega)
 subst hA
 obtain ⟨x, hx⟩ : ∃ x, l[i]? = some x := ⟨_, List.getElem?_eq_getElem (by omega)⟩
 obtain ⟨x0, x1, x2, x3, x4, x5⟩ := x
 obtain ⟨y, hy⟩ : ∃ x, l[k]? = some x := ⟨_, List.getElem?_eq_getElem (by omega)⟩
 obtain ⟨y0, y1, y2, y3, y4, y5⟩ := y
 obtain ⟨z, hz⟩ : ∃ x, got[k]? = some x := ⟨_, List.getElem?_eq_getElem (by omega)⟩
 obtain ⟨z0, z1, z2⟩ := z
 have e1 : bkAt l i = ⟨x0, x1, x2, x3, x4, x5⟩ := by unfold bkAt; rw [hx]; rfl
 have e2 : bkAt l k = ⟨y0, y1, y2, y3, y4, y5⟩ := by unfold bkAt; rw [hy]; rfl
 have e3 : gvAt got k = ⟨z0, z1, z2⟩ := by unfold gvAt; rw [hz]; rfl
 rw [e1, e2, e3]
 refine sg_ rfl (nn_ (gw_seq ?_))
 refine gd (fun wz => (SlOld bkEnc 6 92 w.heap.size none (some ⟨b, off, none⟩) nb l) wz ∧ (SlOld gvEnc 3 90 w.heap.size none (some ⟨d, of2, none⟩) nb got) wz ∧ (BlkOld w.heap.size none g1 80 [.slice (some ⟨d, of2, none⟩) nb gc]) wz ∧ (BlkOld w.heap.size none g2 9 [.string c]) wz ∧ (BlkOld w.heap.size none g3 3 [.int .i64 u]) wz ∧ (BlkOld w.heap.size none g4 76 [.slice (some ⟨b, off, none⟩) nb cb]) wz ∧ (BlkOld w.heap.size none g5 3 [.int .i64 ((i : Nat) : Int)]) wz ∧ True) mixed (fun _ hm => ⟨hm.fa 0, hm.fa 1, hm.fa 2, hm.fa 3, hm.fa 4, hm.fa 5, hm.fa 6, trivial⟩) fun z => ?_
 refine wt 0 30 1 rfl z (ov_load (v := .slice (some ⟨d, of2, none⟩) nb gc) sc80 rfl (fun _ hm => (hm.2.2.1).2) rfl) ?_
 refine wt 1 30 3 rfl z (ov_move rfl) ?_
 refine wt 2 30 7 rfl z (ov_index (j := k) es80 rfl rfl (by omega)) ?_
 refine wt 3 30 15 rfl z (ov_field fo90_1 rfl rfl) ?_
 refine wt 4 30 31 rfl z (ov_elem1 (k := 1) (v := .string z1) sc9 rfl (fun _ hm => (hm.2.1).1) hz rfl rfl) ?_
 refine wt 5 30 63 rfl z (ov_load (v := .string c) sc9 rfl (fun _ hm => (hm.2.2.2.1).2) rfl) ?_
 refine wt 6 30 127 rfl z (ov_seql rfl rfl) ?_
 refine wt 7 30 255 rfl z (ov_move rfl) ?_
 rcases Bool.eq_false_or_eq_true (z1.toList == c.toList) with hb1 | hb1
 ·refine wa_set 15 rfl (congrArg Value.bool hb1) ?_
  refine wto 8 30 511 rfl rfl rfl z (ov_load (v := .slice (some ⟨d, of2, none⟩) nb gc) sc80 rfl (fun _ hm => (hm.2.2.1).2) rfl) ?_
  refine wto 9 30 1023 rfl rfl rfl z (ov_move rfl) ?_
  refine wto 10 30 2047 rfl rfl rfl z (ov_index (j := k) es80 rfl rfl (by omega)) ?_
  refine wto 11 30 4095 rfl rfl rfl z (ov_field fo90_2 rfl rfl) ?_
  refine wto 12 30 8191 rfl rfl rfl z (ov_elem1 (k := 2) (v := .int .i64 z2) sc3 rfl (fun _ hm => (hm.2.1).1) hz rfl rfl) ?_
  refine wto 13 30 16383 rfl rfl rfl z (ov_load (v := .int .i64 u) sc3 rfl (fun _ hm => (hm.2.2.2.2.1).2) rfl) ?_
  refine wto 14 30 32767 rfl rfl rfl z (ov_eql rfl rfl) ?_
  refine wt 15 30 65535 rfl z (ov_pick_t rfl rfl) ?_
  refine wt 16 30 131071 rfl z (ov_move rfl) ?_
  rcases Bool.eq_false_or_eq_true (decide (z2 = u)) with hb2 | hb2
  ·refine wa_set 24 rfl (congrArg Value.bool hb2) ?_
   refine wto 17 30 262143 rfl rfl rfl z (ov_load (v := .slice (some ⟨b, off, none⟩) nb cb) sc76 rfl (fun _ hm => (hm.2.2.2.2.2.1).2) rfl) ?_
   refine wto 18 30 524287 rfl rfl rfl z (ov_load (v := .int .i64 ((i : Nat) : Int)) sc3 rfl (fun _ hm => (hm.2.2.2.2.2.2.1).2) rfl) ?_
   refine wto 19 30 1048575 rfl rfl rfl z (ov_index (j := i) es76 rfl rfl (by omega)) ?_
   refine wto 20 30 2097151 rfl rfl rfl z (ov_field fo92_2 rfl rfl) ?_
   refine wto 21 30 4194303 rfl rfl rfl z (ov_elemN (k := 2) (vs := [.int .i64 x2, .int .i64 x3]) rz27 rfl (fun _ hm => (hm.1).1) hx rfl rfl rfl) ?_
   refine wto 22 30 8388607 rfl rfl rfl z (ov_load (v := .slice (some ⟨b, off, none⟩) nb cb) sc76 rfl (fun _ hm => (hm.2.2.2.2.2.1).2) rfl) ?_
   refine wto 23 30 16777215 rfl rfl rfl z (ov_move rfl) ?_
   refine wto 24 30 33554431 rfl rfl rfl z (ov_index (j := k) es76 rfl rfl (by omega)) ?_
   refine wto 25 30 67108863 rfl rfl rfl z (ov_field fo92_2 rfl rfl) ?_
   refine wto 26 30 134217727 rfl rfl rfl z (ov_elemN (k := 2) (vs := [.int .i64 y2, .int .i64 y3]) rz27 rfl (fun _ hm => (hm.1).1) hy rfl rfl rfl) ?_
   refine wa1 27 rfl ?_
   refine wl_guard_on rfl rfl rfl ?_
   refine wl_callv rfl cb161 rfl rfl (fun wx hm => (meet_any x2 x3 y2 y3 wx)) ?_
   refine wl_nil ?_
   refine nw 30 268435455 (fun _ hm => ⟨hm.fa 0, hm.fa 1, hm.fa 2, hm.fa 3, hm.fa 4, hm.fa 5, hm.fa 6, trivial⟩) fun z => ?_
   refine wt 28 30 536870911 rfl z (ov_pick_t rfl rfl) ?_
   refine wt 29 30 1073741823 rfl z (ov_assign rfl) ?_
   refine wa_done (by kernel_rfl) ?_
   refine nx_then ?_
   refine gw_ret ?_
   refine nx_ret1 rfl rfl fun wx hm => ?_
   exact ⟨by simp [meetB, hb1, hb2], hm.g⟩
  refine wa_set 24 rfl (congrArg Value.bool hb2) ?_
  refine wtf 17 30 262143 rfl rfl rfl z ?_
  refine wtf 18 30 524287 rfl rfl rfl z ?_
  refine wtf 19 30 1048575 rfl rfl rfl z ?_
  refine wtf 20 30 2097151 rfl rfl rfl z ?_
  refine wtf 21 30 4194303 rfl rfl rfl z ?_
  refine wtf 22 30 8388607 rfl rfl rfl z ?_
  refine wtf 23 30 16777215 rfl rfl rfl z ?_
  refine wtf 24 30 33554431 rfl rfl rfl z ?_
  refine wtf 25 30 67108863 rfl rfl rfl z ?_
  refine wtf 26 30 134217727 rfl rfl rfl z ?_
  refine wtf 27 30 268435455 rfl rfl rfl z ?_
  refine wt 28 30 536870911 rfl z (ov_pick_f rfl rfl) ?_
  refine wt 29 30 1073741823 rfl z (ov_assign rfl) ?_
  refine wa_done (by kernel_rfl) ?_
  refine nx_then ?_
  refine gw_ret ?_
  refine nx_ret1 rfl rfl fun wx hm => ?_
  exact ⟨by simp [meetB, hb1, hb2], hm.g⟩
 refine wa_set 15 rfl (congrArg Value.bool hb1) ?_
 refine wtf 8 30 511 rfl rfl rfl z ?_
 refine wtf 9 30 1023 rfl rfl rfl z ?_
 refine wtf 10 30 2047 rfl rfl rfl z ?_
 refine wtf 11 30 4095 rfl rfl rfl z ?_
 refine wtf 12 30 8191 rfl rfl rfl z ?_
 refine wtf 13 30 16383 rfl rfl rfl z ?_
 refine wtf 14 30 32767 rfl rfl rfl z ?_
 refine wt 15 30 65535 rfl z (ov_pick_f rfl rfl) ?_
 refine wt 16 30 131071 rfl z (ov_move rfl) ?_
 refine wtf 17 30 262143 rfl rfl rfl z ?_
 refine wtf 18 30 524287 rfl rfl rfl z ?_
 refine wtf 19 30 1048575 rfl rfl rfl z ?_
 refine wtf 20 30 2097151 rfl rfl rfl z ?_
 refine wtf 21 30 4194303 rfl rfl rfl z ?_
 refine wtf 22 30 8388607 rfl rfl rfl z ?_
 refine wtf 23 30 16777215 rfl rfl rfl z ?_
 refine wtf 24 30 33554431 rfl rfl rfl z ?_
 refine wtf 25 30 67108863 rfl rfl rfl z ?_
 refine wtf 26 30 134217727 rfl rfl rfl z ?_
 refine wtf 27 30 268435455 rfl rfl rfl z ?_
 refine wt 28 30 536870911 rfl z (ov_pick_f rfl rfl) ?_
 refine wt 29 30 1073741823 rfl z (ov_assign rfl) ?_
 refine wa_done (by kernel_rfl) ?_
 refine nx_then ?_
 refine gw_ret ?_
 refine nx_ret1 rfl rfl fun wx hm => ?_
 exact ⟨by simp [meetB, hb1], hm.g⟩
end Go.Proofs.YtempjmpfdniecaaGreatDoor
namespace Go.Proofs.YtempjmpfdniecaaGreatDoor
open Go.RowKit
theorem list14 (hs : List Int) (h : hs.length = 14) : ∃ a0 a1 a2 a3 a4 a5 a6 a7 a8 a9 a10 a11 a12 a13, hs = [a0, a1, a2, a3, a4, a5, a6, a7, a8, a9, a10, a11, a12, a13] := by
  match hs, h with
  | [a0, a1, a2, a3, a4, a5, a6, a7, a8, a9, a10, a11, a12, a13], _ => exact ⟨a0, a1, a2, a3, a4, a5, a6, a7, a8, a9, a10, a11, a12, a13, rfl⟩
def hourFr (hs : List Int) (d : Int) : Int := d * 1440 + frAt hs (d % 7).toNat
def hourTo (hs : List Int) (d : Int) : Int := d * 1440 + toAt hs (d % 7).toNat
def GotWin (w : World) (a b : Int) (e : Ending) (w' : World) : Prop := e = .returned (.agg #[.int .i64 a, .int .i64 b]) ∧ w.grownBy w' none
set_option maxRecDepth 100000 in
set_option maxHeartbeats 1000000 in
theorem hours_any (key : ByteArray) (hs : List Int) (d : Int) (w : World) (hl : hs.length = 14) (hd0 : 0 ≤ d) (hd1 : d ≤ 1000000000) (hb : ∀ h ∈ hs, -1000000000000000000 ≤ h ∧ h ≤ 1000000000000000000) :
    Calls Tryz.prog 190 #[.agg (stCells key hs).toArray, .int .i64 d] w (GotWin w (hourFr hs d) (hourTo hs d)) := by
  obtain ⟨j, hj⟩ : ∃ j : Nat, (j : Int) = d % 7 := ⟨(d % 7).toNat, by omega⟩
  have hj7 : j < 7 := by omega
  have hF : hourFr hs d = d * 1440 + frAt hs j := by unfold hourFr; rw [← hj]; simp
  have hT : hourTo hs d = d * 1440 + toAt hs j := by unfold hourTo; rw [← hj]; simp
  have hf : -1000000000000000000 ≤ frAt hs j ∧ frAt hs j ≤ 1000000000000000000 := by
    unfold frAt; rw [List.getD_eq_getElem?_getD, List.getElem?_eq_getElem (by omega)]; exact hb _ (List.getElem_mem _)
  have ht : -1000000000000000000 ≤ toAt hs j ∧ toAt hs j ≤ 1000000000000000000 := by
    unfold toAt; rw [List.getD_eq_getElem?_getD, List.getElem?_eq_getElem (by omega)]; exact hb _ (List.getElem_mem _)
  rw [hF, hT]
  have hvs : ((hs.map (Value.int .i64)).drop (j * 2)).take 2 = [.int .i64 (frAt hs j), .int .i64 (toAt hs j)] := hrs_pair hs j (by omega)
  generalize frAt hs j = f at *
  generalize toAt hs j = t at *
  have hvv : ∀ i v, [Value.int .i64 f, Value.int .i64 t][i]? = some v → (stCells key hs)[1 + j * 2 + i]? = some v := fun i v hv => by
    rw [← hvs, List.getElem?_take] at hv
    split at hv
    · rw [List.getElem?_drop] at hv
      rw [show 1 + j * 2 + i = (j * 2 + i) + 1 by omega]
      exact hv
    · cases hv
  have Hvv := Lib.hid hvv
  have hj' : d % 7 = (j : Int) := hj.symm
  have hbox : Blk ((w.alloc (.cells (stCells key hs).toArray 152)).alloc (.cells #[.int .i64 0, .int .i64 0] 27)) w.heap.size 152 (stCells key hs) := (Blk.at_ w rfl _ _).alloc _
  clear hvv hvs hF hT hj
  go_enter Tryz.func190, Tryz.ntmps190
  go_wp2_with (with_reducible refine wpList_load_blk rfl 27 (.tmp 9) rfl w.heap.size (1 + j * 2) _ (stCells key hs) [.int .i64 f, .int .i64 t] _ hbox rfl Tryz.underlying27 rfl 2 info_win (by simp) Hvv.out ?_)
  refine bodyPost_ret (v := .agg #[.int .i64 (d * 1440 + f), .int .i64 (d * 1440 + t)]) (by simp [results, Tryz.results190, go_sem]) rfl ⟨rfl, ?_⟩
  exact grow_alloc (grow_alloc (grow_alloc (World.grownBy.refl _ _) _) _) _
theorem sl_one {key : ByteArray} {hs : List Int} {w : World} {g : Nat} (h : Blk w g 152 (stCells key hs)) : SlT stEnc 15 152 w (some ⟨g, 0, none⟩) 1 [⟨key, hs⟩] :=
  ⟨rfl, fun _ => ⟨g, 0, _, _, rfl, h, fun i x hx j v hv => by
    match i, hx with
    | 0, hx =>
      simp at hx; subst hx
      simpa [stEnc] using hv⟩⟩
set_option maxRecDepth 100000 in
set_option maxHeartbeats 1000000 in
theorem checkStation_any (key : ByteArray) (hs : List Int) (f : Int) (w : World) (hok : StOk ⟨key, hs⟩) :
    Calls Tryz.prog 188 #[.agg (stCells key hs).toArray, .int .i64 f] w fun e w' => e = .returned (.int .i64 (firstE [stationsE [⟨key, hs⟩], f])) ∧ w.grownBy w' none := by
  have hsl := fun (wz : World) (hz : wz.heap.size = w.heap.size + 1) => sl_one (Blk.at_ wz hz 152 (stCells key hs))
  have Hsl := Lib.hid hsl
  have Hok := Lib.hid hok
  clear hsl
  obtain ⟨a0, a1, a2, a3, a4, a5, a6, a7, a8, a9, a10, a11, a12, a13, rfl⟩ := list14 hs hok.1
  clear hok
  show Calls Tryz.prog 188 #[.agg #[.string key, .int .i64 a0, .int .i64 a1, .int .i64 a2, .int .i64 a3, .int .i64 a4, .int .i64 a5, .int .i64 a6, .int .i64 a7, .int .i64 a8, .int .i64 a9, .int .i64 a10, .int .i64 a11, .int .i64 a12, .int .i64 a13], .int .i64 f] w _
  go_enter Tryz.func188, Tryz.ntmps188
  go_wp2_with fail
  refine (checkStations_any [⟨key, [a0, a1, a2, a3, a4, a5, a6, a7, a8, a9, a10, a11, a12, a13]⟩] _ _ _ _ (Hsl.out (w.alloc (.cells #[.string key, .int .i64 a0, .int .i64 a1, .int .i64 a2, .int .i64 a3, .int .i64 a4, .int .i64 a5, .int .i64 a6, .int .i64 a7, .int .i64 a8, .int .i64 a9, .int .i64 a10, .int .i64 a11, .int .i64 a12, .int .i64 a13] 152)) (by simp)) (by intro s hs; simp at hs; subst hs; exact Hok.out) (by omega)).mono ?_
  rintro e w1 ⟨rfl, hg1⟩
  have hg1' : w.grownBy w1 none := grow_trans (grow_alloc (grow_alloc (World.grownBy.refl _ _) _) _) hg1
  obtain ⟨E, hE⟩ : ∃ E, E = stationsE [⟨key, [a0, a1, a2, a3, a4, a5, a6, a7, a8, a9, a10, a11, a12, a13]⟩] := ⟨_, rfl⟩
  rw [← hE]
  have HE := Lib.hid hE; clear hE
  go_wp2_with fail
  refine (first_any [E, f] _ _ _ _ (Blk.at_ _ rfl _ _) (by simp)).mono ?_
  rintro e w2 ⟨rfl, rfl⟩
  go_wp2_with fail
  go_ret
  exact ⟨by rw [← HE.out]; rfl, grow_alloc hg1' _⟩
def isOpenE (s : St) (at_ : Int) : Int := firstE [stationsE [s], momentE at_]
def isOpenV (s : St) (at_ : Int) : Bool := isOpenE s at_ == 0 && decide (hourFr s.hs (at_ / 1440) ≤ at_) && decide (at_ < hourTo s.hs (at_ / 1440))
end Go.Proofs.YtempjmpfdniecaaGreatDoor
namespace Go.Proofs.YtempjmpfdniecaaGreatDoor
open Go.RowKit
set_option maxRecDepth 100000 in
set_option maxHeartbeats 2000000 in
theorem lotOpen_any (key : ByteArray) (hs : List Int) (at_ : Int) (w : World) (hok : StOk ⟨key, hs⟩) (hb : ∀ h ∈ hs, -1000000000000000000 ≤ h ∧ h ≤ 1000000000000000000) :
    Calls Tryz.prog 94 #[.agg (stCells key hs).toArray, .int .i64 at_] w (RetBE w (isOpenV ⟨key, hs⟩ at_) (isOpenE ⟨key, hs⟩ at_)) := by
  have Hok := Lib.hid hok
  have Hb := Lib.hid hb
  clear hb
  obtain ⟨a0, a1, a2, a3, a4, a5, a6, a7, a8, a9, a10, a11, a12, a13, rfl⟩ := list14 hs hok.1
  clear hok
  show Calls Tryz.prog 94 #[.agg #[.string key, .int .i64 a0, .int .i64 a1, .int .i64 a2, .int .i64 a3, .int .i64 a4, .int .i64 a5, .int .i64 a6, .int .i64 a7, .int .i64 a8, .int .i64 a9, .int .i64 a10, .int .i64 a11, .int .i64 a12, .int .i64 a13], .int .i64 at_] w _
  go_enter Tryz.func94, Tryz.ntmps94
  go_wp2_with fail
  refine wp_region_still_tail 3 (by kernel_rfl) (by kernel_rfl) ?_
  change wpStill _ _ (World.drew _) _ _ _
  simp only [List.take_succ_cons, List.take_zero, List.drop_succ_cons, List.drop_zero]
  still_step
  still_step
  still_call ((moment_any at_ _).mono fun _ _ h => ⟨h.1, h.2.symm⟩)
  refine wpStill_nil ?_
  change wpList _ _ _ _ _ (World.drew _)
  go_wp2_with fail
  refine (checkStation_any key [a0, a1, a2, a3, a4, a5, a6, a7, a8, a9, a10, a11, a12, a13] _ _ Hok.out).mono ?_
  rintro e w1 ⟨rfl, hg1⟩
  obtain ⟨E, hE⟩ : ∃ E, E = isOpenE ⟨key, [a0, a1, a2, a3, a4, a5, a6, a7, a8, a9, a10, a11, a12, a13]⟩ at_ := ⟨_, rfl⟩
  rw [show firstE [stationsE [⟨key, [a0, a1, a2, a3, a4, a5, a6, a7, a8, a9, a10, a11, a12, a13]⟩], momentE at_] = E from hE.symm]
  have HE := Lib.hid hE; clear hE
  have hbox : Blk w1 w.heap.size 152 (stCells key [a0, a1, a2, a3, a4, a5, a6, a7, a8, a9, a10, a11, a12, a13]) := ((Blk.at_ w rfl _ _).drewN 1).grown hg1 (by simp)
  have hgw : w.grownBy w1 none := grow_trans (grow_drew (grow_alloc (World.grownBy.refl _ _) _)) hg1
  clear hg1
  by_cases h0 : E = 0
  · have hm := momentE_ok (firstE_two (HE.out.symm.trans h0)).2
    have hdv : at_.tdiv 1440 = at_ / 1440 := Int.tdiv_eq_ediv_of_nonneg hm.1
    have hd0 : 0 ≤ at_ / 1440 := by omega
    have hd1 : at_ / 1440 ≤ 1000000000 := by omega
    obtain ⟨d, hd⟩ : ∃ d, d = at_ / 1440 := ⟨_, rfl⟩
    have hV : isOpenV ⟨key, [a0, a1, a2, a3, a4, a5, a6, a7, a8, a9, a10, a11, a12, a13]⟩ at_ = (decide (hourFr [a0, a1, a2, a3, a4, a5, a6, a7, a8, a9, a10, a11, a12, a13] d ≤ at_) && decide (at_ < hourTo [a0, a1, a2, a3, a4, a5, a6, a7, a8, a9, a10, a11, a12, a13] d)) := by
      unfold isOpenV
      rw [← HE.out, h0, ← hd]; rfl
    rw [← hd] at hdv hd0 hd1
    have hd' : at_ / 1440 = d := hd.symm
    have HV := Lib.hid hV
    subst h0
    clear hV hd
    go_wp2_with (with_reducible refine wpList_load_all rfl 152 (.tmp 2) rfl w.heap.size _ (stCells key [a0, a1, a2, a3, a4, a5, a6, a7, a8, a9, a10, a11, a12, a13]) _ hbox rfl Tryz.underlying152 rfl 15 info_st rfl ?_)
    refine (hours_any key [a0, a1, a2, a3, a4, a5, a6, a7, a8, a9, a10, a11, a12, a13] _ _ rfl hd0 hd1 Hb.out).mono ?_
    rintro e w2 ⟨rfl, hg2⟩
    have hgw2 := grow_trans hgw hg2
    obtain ⟨F, hF⟩ : ∃ F, F = hourFr [a0, a1, a2, a3, a4, a5, a6, a7, a8, a9, a10, a11, a12, a13] d := ⟨_, rfl⟩
    obtain ⟨T, hT⟩ : ∃ T, T = hourTo [a0, a1, a2, a3, a4, a5, a6, a7, a8, a9, a10, a11, a12, a13] d := ⟨_, rfl⟩
    rw [← hF, ← hT] at HV ⊢
    clear hF hT hbox hgw hg2
    go_wp2_with fail
    all_goals
      go_ret2
      exact ⟨ret_be (by rw [HV.out]; simp [*] <;> (intros; omega)) HE.out, grow_alloc hgw2 _⟩
  · have hne : (E != 0) = true := by simpa using h0
    have hV : isOpenV ⟨key, [a0, a1, a2, a3, a4, a5, a6, a7, a8, a9, a10, a11, a12, a13]⟩ at_ = false := by
      unfold isOpenV
      rw [← HE.out]; simp [h0]
    have HV := Lib.hid hV
    clear hV h0
    go_wp2_with fail
    go_ret2
    exact ⟨ret_be HV.out.symm HE.out, hgw⟩
end Go.Proofs.YtempjmpfdniecaaGreatDoor
namespace Go.Proofs.YtempjmpfdniecaaGreatDoor
open Go.RowKit
/-- The next opening from day d on; n days are left. -/
def nextFrom (hs : List Int) (at_ : Int) : Nat → Int → Option Int
  | 0, _ => none
  | n + 1, d => if max at_ (hourFr hs d) < hourTo hs d then some (max at_ (hourFr hs d)) else nextFrom hs at_ n (d + 1)
end Go.Proofs.YtempjmpfdniecaaGreatDoor
namespace Go.Proofs.YtempjmpfdniecaaGreatDoor
def frD (hs : List Int) (d : Int) : Int := frAt hs (d % 7).toNat
def toD (hs : List Int) (d : Int) : Int := toAt hs (d % 7).toNat
theorem hourFr_eq (hs : List Int) (d : Int) : hourFr hs d = d * 1440 + frD hs d := rfl
theorem hourTo_eq (hs : List Int) (d : Int) : hourTo hs d = d * 1440 + toD hs d := rfl
section
variable {hs : List Int} {at_ : Int}
theorem never (h : ∀ e, ¬ frD hs e < toD hs e) : ∀ (n : Nat) (d : Int), nextFrom hs at_ n d = none
  | 0, _ => rfl
  | n + 1, d => by
    have h1 := h d
    rw [nextFrom, if_neg (by rw [hourFr_eq, hourTo_eq]; omega)]
    exact never h n (d + 1)
end
end Go.Proofs.YtempjmpfdniecaaGreatDoor
namespace Go.Proofs.YtempjmpfdniecaaGreatDoor
open Go.RowKit
theorem ix_dec {α : Type} {p : α → Bool} {l : List α} : decide (0 ≤ ixP p l 0) = l.any p := ix_any
end Go.Proofs.YtempjmpfdniecaaGreatDoor
namespace Go.Proofs.YtempjmpfdniecaaGreatDoor
open Go.RowKit
def takZ (l : List Bk) (got : List Gv) (i : Nat) (c : ByteArray) (u : Int) (z : Int) : Bool := (gvAt got z.toNat).cls.toList == c.toList && decide ((gvAt got z.toNat).unit = u) && meetB (bkAt l i) (bkAt l z.toNat)
theorem tak_ids {l : List Bk} {got : List Gv} {i : Nat} {c : ByteArray} {u : Int} (ids : List Nat) : (ids.map fun k => ((k : Nat) : Int)).any (takZ l got i c u) = takenI l got ids i (c, u) := by
  unfold takenI
  rw [List.any_map]
  congr 1
theorem ixTak_any (l : List Bk) (got : List Gv) (A G : Option Addr) (nb cb gc g1 g2 g3 g4 g5 i : Nat) (c : ByteArray) (u : Int) (zs : List Int) (Z : Option Addr) (n c0 : Nat) (w : World) (hl : SlT bkEnc 6 92 w A nb l) (hv : SlT gvEnc 3 90 w G nb got) (hg1 : Blk w g1 80 [.slice G nb gc]) (hg2 : Blk w g2 9 [.string c]) (hg3 : Blk w g3 3 [.int .i64 u]) (hg4 : Blk w g4 76 [.slice A nb cb]) (hg5 : Blk w g5 3 [.int .i64 ((i : Nat) : Int)]) (hi : i < nb) (hz : SlT iEnc 1 3 w Z n zs) (hn : n ≤ 1000000) (hall : ∀ z ∈ zs, 0 ≤ z ∧ z < (nb : Int)) :
  Calls Tryz.prog 240 #[.slice Z n c0, .func (.func 160) #[] #[.pointer (some ⟨g1, 0, none⟩), .pointer (some ⟨g2, 0, none⟩), .pointer (some ⟨g3, 0, none⟩), .pointer (some ⟨g4, 0, none⟩), .pointer (some ⟨g5, 0, none⟩)]] w (GotE w (ixP (takZ l got i c u) zs 0)) := by
 refine gw_enter ⟨19, w, none, []⟩ Tryz.func240 rfl Tryz.ntmps240 rfl (mem0 (X := [SlOld iEnc 1 3 w.heap.size none Z n zs, SlOld bkEnc 6 92 w.heap.size none A nb l, SlOld gvEnc 3 90 w.heap.size none G nb got, BlkOld w.heap.size none g1 80 [.slice G nb gc], BlkOld w.heap.size none g2 9 [.string c], BlkOld w.heap.size none g3 3 [.int .i64 u], BlkOld w.heap.size none g4 76 [.slice A nb cb], BlkOld w.heap.size none g5 3 [.int .i64 ((i : Nat) : Int)]]) (allF_cons hz.old (allF_cons hl.old (allF_cons hv.old (allF_cons hg1.old (allF_cons hg2.old (allF_cons hg3.old (allF_cons hg4.old (allF_cons hg5.old allF_nil)))))))) (allL_cons SlOld.lasts (allL_cons SlOld.lasts (allL_cons SlOld.lasts (allL_cons BlkOld.lasts (allL_cons BlkOld.lasts (allL_cons BlkOld.lasts (allL_cons BlkOld.lasts (allL_cons BlkOld.lasts allL_nil))))))))) ?_
 refine sr_ ?_
 have hlen := hz.len
 refine sg_ rfl (nn_ (gw_seq (sr_ (mv_ rfl (wl_ov (ov_len es22 rfl) rfl (mv_ rfl (nn_ (gw_block ?_))))))))
 refine gw_loop (γ := Nat) (fun (j : Nat) => j ≤ n ∧ ixP (takZ l got i c u) zs 0 = ixP (takZ l got i c u) (zs.drop j) j) (fun (j : Nat) => [(0, .slice Z n c0), (1, .func (.func 160) #[] #[.pointer (some ⟨g1, 0, none⟩), .pointer (some ⟨g2, 0, none⟩), .pointer (some ⟨g3, 0, none⟩), .pointer (some ⟨g4, 0, none⟩), .pointer (some ⟨g5, 0, none⟩)]), (7, .int .i64 ((n : Nat) : Int)), (8, .int .i64 ((j : Nat) : Int))]) (fun (j : Nat) => fun _ => True) (fun (j : Nat) => []) (fun (j : Nat) => []) (fun (j : Nat) => [SlOld iEnc 1 3 w.heap.size none Z n zs, SlOld bkEnc 6 92 w.heap.size none A nb l, SlOld gvEnc 3 90 w.heap.size none G nb got, BlkOld w.heap.size none g1 80 [.slice G nb gc], BlkOld w.heap.size none g2 9 [.string c], BlkOld w.heap.size none g3 3 [.int .i64 u], BlkOld w.heap.size none g4 76 [.slice A nb cb], BlkOld w.heap.size none g5 3 [.int .i64 ((i : Nat) : Int)]]) (fun (j : Nat) => n - j) 0 ⟨Nat.zero_le _, rfl⟩ ⟨rfl, rfl, rfl, rfl, trivial⟩ (fun _ hm => hm.pick [] [] [0, 1, 2, 3, 4, 5, 6, 7] rfl rfl) ?_
 intro j hinv
 replace hinv : j ≤ n ∧ ixP (takZ l got i c u) zs 0 = ixP (takZ l got i c u) (zs.drop j) j := hinv
 refine sr_ (wl_ov (ov_lss rfl rfl) rfl (nn_ (gw_seq ?_)))
 refine gw_cond rfl (fun hh => ?_) (fun hh => ?_)
 ·have hj : ((j : Nat) : Int) < ((n : Nat) : Int) := by simpa using hh
  clear hh
  refine gw_skip (nx_then (gw_seq (gw_block (sr_ ?_))))
  obtain ⟨b, off, hA, _, _⟩ := hz.get (by omega)
  subst hA
  obtain ⟨x0, hx⟩ : ∃ x, zs[j]? = some x := ⟨_, List.getElem?_eq_getElem (by omega)⟩
  have hat := ixP_at (p := takZ l got i c u) hx
  obtain ⟨hx1, hx2⟩ := hall _ (List.mem_of_getElem? hx)
  obtain ⟨k, rfl⟩ := Int.eq_ofNat_of_zero_le hx1
  refine mv_ rfl (sg_ rfl (nn_ (sr_ (mv_ rfl (mv_ rfl (mv_ rfl ?_))))))
  refine wl_ov (ov_index (j := j) es22 rfl rfl (by omega)) rfl ?_
  refine wl_ov (ov_elem1 (k := 0) (v := .int .i64 ((k : Nat) : Int)) sc3 rfl (fun _ hm => (hm.fact 0 rfl).1) hx rfl rfl) rfl ?_
  refine wl_callv (v := .bool (takZ l got i c u ((k : Nat) : Int))) rfl cb160 rfl rfl (fun wx hm => (by have h := greedyT_any l got A G nb cb gc g1 g2 g3 g4 g5 i k c u wx (hm.fact 1 rfl).1 (hm.fact 2 rfl).1 (hm.fact 3 rfl).2 (hm.fact 4 rfl).2 (hm.fact 5 rfl).2 (hm.fact 6 rfl).2 (hm.fact 7 rfl).2 hi (by omega); exact h)) ?_
  refine nn_ ?_
  refine gw_cond rfl (fun hh => ?_) (fun hh => ?_)
  ·have hq : (takZ l got i c u ((k : Nat) : Int)) = true := by simpa using hh
   clear hh
   refine sr_ (mv_ rfl (sg_ rfl (nn_ ?_)))
   refine gw_ret ?_
   refine nx_blk_ret (nx_then_ret (nx_then_ret (nx_blk_ret (nx_then_ret ?_))))
   refine nx_ret1 rfl rfl fun wx hm => ?_
   exact ⟨ret_int (by rw [hinv.2, hat, if_pos hq]), hm.g⟩
  have hq : (takZ l got i c u ((k : Nat) : Int)) = false := by simpa using hh
  clear hh
  refine gw_skip (nx_blk_nrm (nx_then (gw_region (ad_ rfl rfl (mv_ rfl (wl_nil ?_))))))
  exact nx_round (j + 1) ⟨by omega, by rw [hinv.2, hat, if_neg (by rw [hq]; decide)]⟩ (by omega) ⟨rfl, rfl, rfl, (some_int (by omega)), trivial⟩ (fun _ hm => hm.pick [] [] [0, 1, 2, 3, 4, 5, 6, 7] rfl rfl)
 have hj : ¬ (((j : Nat) : Int) < ((n : Nat) : Int)) := by simpa using hh
 clear hh
 refine gw_exit ?_
 refine nx_then_exit (nx_then_exit ?_)
 refine nx_blk_here ?_
 refine nx_then (sr_ (sg_ rfl ?_))
 refine wl_set 4 (v' := .int .i64 (-1)) rfl rfl ?_
 refine nn_ ?_
 refine gw_ret ?_
 refine nx_ret1 rfl rfl fun wx hm => ?_
 exact ⟨ret_int (by rw [hinv.2, List.drop_eq_nil_of_le (by omega)]; rfl), hm.g⟩
theorem hasTak_any (l : List Bk) (got : List Gv) (A G : Option Addr) (nb cb gc g1 g2 g3 g4 g5 i : Nat) (c : ByteArray) (u : Int) (zs : List Int) (Z : Option Addr) (n c0 : Nat) (w : World) (hl : SlT bkEnc 6 92 w A nb l) (hv : SlT gvEnc 3 90 w G nb got) (hg1 : Blk w g1 80 [.slice G nb gc]) (hg2 : Blk w g2 9 [.string c]) (hg3 : Blk w g3 3 [.int .i64 u]) (hg4 : Blk w g4 76 [.slice A nb cb]) (hg5 : Blk w g5 3 [.int .i64 ((i : Nat) : Int)]) (hi : i < nb) (hz : SlT iEnc 1 3 w Z n zs) (hn : n ≤ 1000000) (hall : ∀ z ∈ zs, 0 ≤ z ∧ z < (nb : Int)) :
  Calls Tryz.prog 159 #[.slice Z n c0, .func (.func 160) #[] #[.pointer (some ⟨g1, 0, none⟩), .pointer (some ⟨g2, 0, none⟩), .pointer (some ⟨g3, 0, none⟩), .pointer (some ⟨g4, 0, none⟩), .pointer (some ⟨g5, 0, none⟩)]] w (fun e w' => e = .returned (.bool (zs.any (takZ l got i c u))) ∧ w.grownBy w' none) := by
 refine gw_enter ⟨9, w, none, []⟩ Tryz.func159 rfl Tryz.ntmps159 rfl (mem0 (X := [SlOld iEnc 1 3 w.heap.size none Z n zs, SlOld bkEnc 6 92 w.heap.size none A nb l, SlOld gvEnc 3 90 w.heap.size none G nb got, BlkOld w.heap.size none g1 80 [.slice G nb gc], BlkOld w.heap.size none g2 9 [.string c], BlkOld w.heap.size none g3 3 [.int .i64 u], BlkOld w.heap.size none g4 76 [.slice A nb cb], BlkOld w.heap.size none g5 3 [.int .i64 ((i : Nat) : Int)]]) (allF_cons hz.old (allF_cons hl.old (allF_cons hv.old (allF_cons hg1.old (allF_cons hg2.old (allF_cons hg3.old (allF_cons hg4.old (allF_cons hg5.old allF_nil)))))))) (allL_cons SlOld.lasts (allL_cons SlOld.lasts (allL_cons SlOld.lasts (allL_cons BlkOld.lasts (allL_cons BlkOld.lasts (allL_cons BlkOld.lasts (allL_cons BlkOld.lasts (allL_cons BlkOld.lasts allL_nil))))))))) ?_
 refine sr_ (sg_ rfl (nn_ (sr_ (mv_ rfl (mv_ rfl ?_)))))
 refine wl_callv rfl cb240 rfl rfl (fun wx hm => (ixTak_any l got A G nb cb gc g1 g2 g3 g4 g5 i c u zs Z n c0 wx (hm.fact 1 rfl).1 (hm.fact 2 rfl).1 (hm.fact 3 rfl).2 (hm.fact 4 rfl).2 (hm.fact 5 rfl).2 (hm.fact 6 rfl).2 (hm.fact 7 rfl).2 hi (hm.fact 0 rfl).1 hn hall)) ?_
 refine wl_ov (ov_geq rfl rfl) rfl ?_
 refine sg_ rfl (nn_ ?_)
 refine gw_ret ?_
 refine nx_ret1 rfl rfl fun wx hm => ?_
 exact ⟨by rw [← ix_dec], hm.g⟩
end Go.Proofs.YtempjmpfdniecaaGreatDoor
namespace Go.Proofs.YtempjmpfdniecaaGreatDoor
open Go.RowKit
/-- A booking's search: nothing has been found yet (and the rest holds what is to be found), or it has been. -/
def Pend (cd : Bk → List Cand) (l : List Bk) (g0 : List Gv) (done : List Nat) (k : Nat) (R : List Gv) (rest : List Cand) : Prop := (R = g0 ∧ rest.find? (fun c => !takenI l g0 done k c) = gPickI cd l g0 done k) ∨ (R = gStepI cd l g0 done k ∧ 1 ≤ (gvAt R k).unit)
section
variable {cd : Bk → List Cand} {l : List Bk} {g0 R : List Gv} {done : List Nat} {k : Nat} {rest : List Cand} {c : Cand}
theorem pend_start : Pend cd l g0 done k g0 (cd (bkAt l k)) := .inl ⟨rfl, rfl⟩
theorem pend_end (h : Pend cd l g0 done k R []) : R = gStepI cd l g0 done k := by
  rcases h with ⟨h1, h2⟩ | ⟨h1, _⟩
  · unfold gStepI
    rw [← h2]
    exact h1
  · exact h1
theorem pend_skip (h : Pend cd l g0 done k R rest) (hz : gvAt g0 k = gvZ) (hu : (gvAt R k).unit ≠ 0) (r2 : List Cand) : Pend cd l g0 done k R r2 := by
  rcases h with ⟨h1, _⟩ | h
  · exact absurd (by rw [h1, hz]; rfl) hu
  · exact .inr h
theorem pend_free (h : Pend cd l g0 done k R rest) (hu : (gvAt R k).unit = 0) : R = g0 ∧ rest.find? (fun c => !takenI l g0 done k c) = gPickI cd l g0 done k := by
  rcases h with h | ⟨_, h2⟩
  · exact h
  · omega
theorem pend_taken (h : Pend cd l g0 done k R (c :: rest)) (hu : (gvAt R k).unit = 0) (ht : takenI l R done k c = true) : Pend cd l g0 done k R rest := by
  obtain ⟨h1, h2⟩ := pend_free h hu
  refine .inl ⟨h1, ?_⟩
  rw [h1] at ht
  rw [← h2, List.find?_cons_of_neg (by simp [ht])]
theorem pend_got (h : Pend cd l g0 done k R (c :: rest)) (hu : (gvAt R k).unit = 0) (ht : takenI l R done k c = false) (hk : k < R.length) (hc : 1 ≤ c.2) (r2 : List Cand) : Pend cd l g0 done k (R.set k ⟨(bkAt l k).key, c.1, c.2⟩) r2 := by
  obtain ⟨h1, h2⟩ := pend_free h hu
  rw [h1] at ht
  rw [List.find?_cons_of_pos (by simp [ht])] at h2
  refine .inr ⟨?_, ?_⟩
  · unfold gStepI
    rw [← h2, h1]
  · rw [gvAt_set hk, if_pos rfl]; exact hc
end
/-- The numbers, as far as they have been written. -/
def fillI (n i : Nat) : List Int := (List.range n).map fun k => if k < i then ((k : Nat) : Int) else 0
theorem fill_len (n i : Nat) : (fillI n i).length = n := by unfold fillI; simp
theorem fill_zero (n : Nat) : fillI n 0 = List.replicate n 0 := by
  unfold fillI
  apply List.ext_getElem?
  intro j
  rw [List.getElem?_map]
  by_cases hj : j < n
  · rw [List.getElem?_range hj, List.getElem?_replicate_of_lt hj]; rfl
  · rw [List.getElem?_eq_none (by rw [List.length_range]; omega), List.getElem?_eq_none (by rw [List.length_replicate]; omega)]; rfl
theorem fill_at {n i : Nat} (h : i < n) : (fillI n i)[i]? = some 0 := by
  unfold fillI
  rw [List.getElem?_map, List.getElem?_range h]
  show some (if i < i then ((i : Nat) : Int) else 0) = _
  rw [if_neg (by omega)]
theorem fill_set {n i : Nat} (h : i < n) : (fillI n i).set i ((i : Nat) : Int) = fillI n (i + 1) := by
  apply List.ext_getElem?
  intro j
  rw [List.getElem?_set, fill_len]
  unfold fillI
  rw [List.getElem?_map, List.getElem?_map]
  by_cases hj : j < n
  · rw [List.getElem?_range hj]
    by_cases hij : i = j
    · subst hij
      rw [if_pos rfl, if_pos h]
      show _ = some (if i < i + 1 then ((i : Nat) : Int) else 0)
      rw [if_pos (by omega)]
    · rw [if_neg hij]
      show some (if j < i then ((j : Nat) : Int) else 0) = some (if j < i + 1 then ((j : Nat) : Int) else 0)
      by_cases h2 : j < i
      · rw [if_pos h2, if_pos (by omega)]
      · rw [if_neg h2, if_neg (by omega)]
  · rw [List.getElem?_eq_none (by rw [List.length_range]; omega), if_neg (by omega)]; rfl
theorem fill_all (n : Nat) : fillI n n = (List.range n).map fun k => ((k : Nat) : Int) := by
  unfold fillI
  refine List.map_congr_left fun k hk => ?_
  rw [if_pos (by simpa using hk)]
theorem gfilt_at {α : Type} {p : α → Bool} {l : List α} {i : Nat} {x : α} (h : l[i]? = some x) : (l.take (i + 1)).filter p = (l.take i).filter p ++ (if p x = true then [x] else []) := by
  rw [List.take_add_one, h, List.filter_append]
  by_cases hp : p x = true
  · rw [if_pos hp, Option.toList_some, List.filter_cons_of_pos hp]; rfl
  · rw [if_neg hp, Option.toList_some, List.filter_cons_of_neg hp]; rfl
theorem rangeF_at {β : Type} {f : Nat → Option β} (i : Nat) : (List.range (i + 1)).filterMap f = (List.range i).filterMap f ++ (f i).toList := by
  rw [List.range_succ, List.filterMap_append]
  cases h : f i <;> simp [h]
/-- Right bookings have classes that there are. -/
theorem gcheckE_ok {cs : List Cs} {l : List Bk} (h : checkE cs l = 0) : classesE cs = 0 ∧ formE l = 0 ∧ ∀ b ∈ l, keysE cs [b.cls] = 0 := by
  unfold checkE firstE at h
  by_cases h1 : classesE cs = 0
  · rw [if_pos h1] at h
    have h2 : classedE cs l = 0 := by
      unfold firstE at h
      by_cases e : classedE cs l = 0
      · exact e
      · rw [if_neg e] at h; exact h
    unfold classedE at h2
    by_cases h3 : formE l = 0
    · rw [if_neg (by rw [h3]; decide)] at h2
      refine ⟨h1, h3, fun b hb => ?_⟩
      rw [keysE_one, h1]
      have h4 : noB cs b.cls = false := by
        cases hn : noB cs b.cls with
        | false => rfl
        | true =>
          rw [if_pos (List.any_eq_true.2 ⟨b, hb, hn⟩)] at h2
          cases h2
      unfold noB at h4
      rw [h4]; rfl
    · rw [if_pos h3] at h2; exact absurd h2 h3
  · rw [if_neg h1] at h; exact absurd h h1
/-- A right stock has at most a hundred vehicles of a class. -/
theorem many_le {cs : List Cs} {sl : List Sk} (h : stockE cs sl = 0) (k : ByteArray) : manyV sl k ≤ 100 := by
  have hall : ∀ x ∈ sl, x.many ≤ 100 := fun x hx => by
    unfold stockE firstE at h
    by_cases h1 : classesE cs = 0
    · rw [if_pos h1] at h
      unfold firstE at h
      by_cases h2 : 30 < sl.length
      · rw [if_pos h2] at h; cases h
      · rw [if_neg h2] at h
        have h3 : scanE (skE cs) none sl = 0 := by
          by_cases e : scanE (skE cs) none sl = 0
          · exact e
          · rw [if_neg e] at h; exact h
        obtain ⟨q, hq⟩ := scanE_all h3 x hx
        unfold skE at hq
        repeat (split at hq; · cases hq)
        rename_i h4 h5 h6
        simp [inB] at h6
        omega
    · rw [if_neg h1] at h; exact absurd h h1
  clear h
  induction sl with
  | nil => show (0 : Int) ≤ 100; omega
  | cons x r ih =>
    unfold manyV
    split
    · exact hall x (List.mem_cons_self ..)
    · exact ih fun y hy => hall y (List.mem_cons_of_mem _ hy)
theorem SlOld.farOwn {α : Type} {enc : α → List Value} {k : Nat} {T : TypeId} {N : Nat} {A : Option Addr} {n : Nat} {l : List α} {w : World} (h : SlOld enc k T N none A n l w) {e : TypeId} {sz br m cap n' : Nat} {xs : List Value} (ho : w.ownsRow N e sz (.slice (some ⟨br, 0, none⟩) m cap) n' xs) : SlOld enc k T w.heap.size (some br) A n l w := ⟨h.1, fun b off e hn => by
  have h1 := h.2 b off e hn
  obtain ⟨b2, off2, cells, fz, e2, hh, _⟩ := h.1.at_ hn
  rw [e] at e2; cases e2
  refine ⟨(Array.getElem?_eq_some_iff.1 hh).1, fun e3 => ?_⟩
  cases e3
  rcases ho.2 with ⟨h2, _⟩ | ⟨g', cap', cur, hv, hbase, _⟩
  · cases h2
  · injection hv with hA _ _
    injection hA with hA
    injection hA with hA _ _
    have := h1.1
    omega⟩
end Go.Proofs.YtempjmpfdniecaaGreatDoor
namespace Go.Proofs.YtempjmpfdniecaaGreatDoor
open Go.RowKit
section
variable {c : Cx} {K : World → Prop} {L : List (Nat × TypeId × List Value)} {O : List Own} {X : List (World → Prop)} {w w' : World}
theorem Mem.blkFar (h : Mem c K L O X w) (i j : Nat) {g br : Nat} {T e : TypeId} {cs : List Value} {n cap sz n' : Nat} {xs : List Value} (hi : L[i]? = some (g, T, cs)) (hj : O[j]? = some ⟨.slice (some ⟨br, 0, none⟩) n cap, e, sz, n', xs⟩) : BlkOld w.heap.size (some br) g T cs w :=
  ⟨⟨(h.blkI i hi).lt, fun e => h.od _ (List.mem_of_getElem? hj) _ (List.mem_of_getElem? hi) e⟩, h.blkI i hi⟩
end
end Go.Proofs.YtempjmpfdniecaaGreatDoor
namespace Go.Proofs.YtempjmpfdniecaaGreatDoor
open Go.RowKit
theorem greedy_rightC (cs : List Cs) (A0 : Option Addr) (n0 c0 : Nat) (sl : List Sk) (A1 : Option Addr) (n1 c1 : Nat) (l : List Bk) (A : Option Addr) (n c : Nat) (w : World) (hcs : SlT csEnc 2 158 w A0 n0 cs) (hco : ∀ x ∈ cs, CsOk x) (hn0 : n0 ≤ 1000) (hs : SlT skEnc 2 211 w A1 n1 sl) (hso : ∀ x ∈ sl, SkOk x) (hn1 : n1 ≤ 1000) (hl : SlT bkEnc 6 92 w A n l) (hok : ∀ x ∈ l, BkOk x) (hn : n ≤ 9) (h0 : firstE [stockE cs sl, checkE cs l] = 0) :
  Calls Tryz.prog 59 #[.slice A0 n0 c0, .slice A1 n1 c1, .slice A n c] w (fun e w' => ∃ (Ag : Option Addr) (k cg : Nat) (Al : Option Addr) (q cw : Nat), e = .returned (.tuple #[.slice Ag k cg, .slice Al q cw, .int .i64 0]) ∧ SlT gvEnc 3 90 w' Ag k (givenE cs sl l) ∧ SlT sgEnc 1 9 w' Al q (waitE cs sl l) ∧ k ≤ 9 ∧ q ≤ 9 ∧ k ≤ cg ∧ w.grownBy w' none) := by
 refine gw_enter ⟨142, w, none, []⟩ Tryz.func59 rfl Tryz.ntmps59 rfl (mem0 (X := [SlOld csEnc 2 158 w.heap.size none A0 n0 cs, SlOld skEnc 2 211 w.heap.size none A1 n1 sl, SlOld bkEnc 6 92 w.heap.size none A n l]) (allF_cons hcs.old (allF_cons hs.old (allF_cons hl.old allF_nil))) (allL_cons SlOld.lasts (allL_cons SlOld.lasts (allL_cons SlOld.lasts allL_nil)))) ?_
 refine sr_ ?_
 have hlen := hl.len
 have hlen0 := hcs.len
 obtain ⟨hst0, hck0⟩ : stockE cs sl = 0 ∧ checkE cs l = 0 := ⟨fe_all h0 _ (by simp), fe_all h0 _ (by simp)⟩
 obtain ⟨hc0, hf0, hkeys⟩ := gcheckE_ok hck0
 have hmany := many_le hst0
 obtain ⟨h30, hcl, hlo⟩ := classesE_ok hc0
 obtain ⟨E, hE⟩ : ∃ z, z = firstE [stockE cs sl, checkE cs l] := ⟨_, rfl⟩
 have hE0 : E = 0 := by rw [hE]; exact h0
 obtain ⟨NS, hNS⟩ : ∃ z, z = idsN l := ⟨_, rfl⟩
 obtain ⟨ZS, hZS⟩ : ∃ z, z = NS.map (fun k => ((k : Nat) : Int)) := ⟨_, rfl⟩
 have hNl : NS.length = n := by rw [hNS, (ids_perm l).length_eq, List.length_range]; exact hlen
 have hZl : ZS.length = n := by rw [hZS, List.length_map]; exact hNl
 have hNlt : ∀ x ∈ NS, x < n := fun x hx => by rw [← hlen]; exact ids_lt l x (by rw [← hNS]; exact hx)
 have hNd : NS.Nodup := by rw [hNS]; exact ids_nodup l
 have hids : idsI l = ZS := by rw [hZS, hNS]; exact ids_eq l
 refine wl_box rfl rfl rfl fun g1 => ?_
 refine sg_ rfl (sg_ rfl (sg_ rfl (nn_ (gw_seq (sr_ (mv_ rfl (mv_ rfl (lk_ sc76 0 rfl rfl rfl ?_))))))))
 refine wl_callv (v := .int .i64 E) rfl cb124 rfl rfl (fun wx hm => (by rw [hE]; exact checkAll_any cs A0 n0 c0 sl A1 n1 c1 l A n c wx (hm.fact 0 rfl).1 hco (by omega) (hm.fact 1 rfl).1 hso (by omega) (hm.fact 2 rfl).1 hok (by omega))) ?_
 refine sg_ rfl (nn_ (sr_ (mv_ rfl (wl_ov (ov_neq rfl rfl) rfl (nn_ ?_)))))
 refine gw_cond rfl (fun hh => ?_) (fun hh => ?_)
 ·have h1 : ¬ (E = 0) := by simpa using hh
  clear hh
  refine sr_ ?_
  exact absurd hE0 (by simpa using h1)
 have h1 : E = 0 := by simpa using hh
 clear hh
 refine gw_skip (nx_then (sr_ (lk_ sc76 0 rfl rfl rfl (wl_ov (ov_len es76 rfl) rfl ?_))))
 refine wl_makeO (n := n) (sz := 1) (e := 3) (by_ := 8) (z := .int .i64 0) (by kernel_rfl) (by kernel_rfl) rfl rfl (by omega) (by omega) (by omega) (by unfold maxLen; omega) (made_flat (enc := iEnc) (x := (0 : Int)) rfl rfl (by decide) (n)) rfl fun g2 => ?_
 rw [show List.replicate (n) (0 : Int) = fillI n 0 from (fill_zero n).symm]
 refine sg_ rfl (nn_ (gw_seq (sr_ (lk_ sc76 0 rfl rfl rfl (wl_ov (ov_len es76 rfl) rfl (mv_ rfl (nn_ (gw_block ?_))))))))
 refine gw_loop (γ := Nat) (fun (i : Nat) => i ≤ n) (fun (i : Nat) => [(0, .slice A0 n0 c0), (1, .slice A1 n1 c1), (5, .pointer (some ⟨g1, 0, none⟩)), (6, .slice none 0 0), (7, .slice none 0 0), (8, .int .i64 0), (10, .slice (some ⟨g2, 0, none⟩) n n), (36, .int .i64 ((n : Nat) : Int)), (37, .int .i64 ((i : Nat) : Int))]) (fun (i : Nat) => fun _ => True) (fun (i : Nat) => [(g1, 76, [.slice A n c])]) (fun (i : Nat) => [⟨.slice (some ⟨g2, 0, none⟩) n n, 3, 1, n, (fillI n i).flatMap iEnc⟩]) (fun (i : Nat) => [SlOld csEnc 2 158 w.heap.size none A0 n0 cs, SlOld skEnc 2 211 w.heap.size none A1 n1 sl, SlOld bkEnc 6 92 w.heap.size none A n l]) (fun (i : Nat) => n - i) 0 (Nat.zero_le _) ⟨rfl, rfl, rfl, rfl, rfl, rfl, rfl, rfl, rfl, trivial⟩ (fun _ hm => hm.pick [0] [0] [0, 1, 2] rfl rfl) ?_
 intro i hinv
 replace hinv : i ≤ n := hinv
 refine sr_ (wl_ov (ov_lss rfl rfl) rfl (nn_ (gw_seq ?_)))
 refine gw_cond rfl (fun hh => ?_) (fun hh => ?_)
 ·have hi : ((i : Nat) : Int) < ((n : Nat) : Int) := by simpa using hh
  clear hh
  refine gw_skip (nx_then (gw_seq (gw_block (sr_ ?_))))
  have hi2 : i < n := by omega
  refine mv_ rfl (sg_ rfl (nn_ (gw_region (mv_ rfl (mv_ rfl (mv_ rfl ?_))))))
  refine wl_ov (ov_index (j := i) es22 rfl rfl (by omega)) rfl ?_
  refine wl_storeE (l := (fillI n i)) (j := i) (r := 0) (el := 0) (el' := ((i : Nat) : Int)) 0 sc3 rfl rfl rfl rfl i_len rfl (fill_at hi2) (fill_len n i) (show 0 < 1 by decide) rfl rfl ?_
  rw [fill_set hi2]
  refine wl_nil (nx_blk_nrm (nx_then (gw_region (ad_ rfl rfl (mv_ rfl (wl_nil ?_))))))
  exact nx_round (i + 1) (by omega) (by omega) ⟨rfl, rfl, rfl, rfl, rfl, rfl, rfl, rfl, (some_int (by omega)), trivial⟩ (fun _ hm => hm.pick [0] [0] [0, 1, 2] rfl rfl)
 have hi : ¬ (((i : Nat) : Int) < ((n : Nat) : Int)) := by simpa using hh
 clear hh
 refine gw_exit ?_
 refine nx_then_exit (nx_then_exit ?_)
 refine nx_blk_here ?_
 refine nx_then (sr_ ?_)
 have hin : i = n := by omega
 rw [show fillI n i = (List.range l.length).map (fun k => ((k : Nat) : Int)) from by rw [hin, fill_all, hlen]]
 refine mv_ rfl (wl_ov (ov_makeFunc rfl rfl) rfl ?_)
 refine wl_callr (v := .tuple #[]) (xs' := ZS.flatMap iEnc) 0 rfl rfl rfl cb155 rfl rfl (fun wx hm => (by have h := stable_gi l A n c g1 ((List.range l.length).map (fun k => ((k : Nat) : Int))) g2 n n _ wx (hm.ownI 0 rfl) (by simp [hlen]) (by omega) ((hm.fact 2 rfl).farOwn (hm.ownI 0 rfl)) (hm.blkFar 0 0 rfl rfl) (fun z hz => by obtain ⟨q, hq, rfl⟩ := List.mem_map.1 hz; have := List.mem_range.1 hq; omega); rw [← hids]; exact h)) ?_
 refine nn_ (sr_ (lk_ sc76 0 rfl rfl rfl (wl_ov (ov_len es76 rfl) rfl ?_)))
 refine wl_makeO (n := n) (sz := 3) (e := 90) (by_ := 40) (z := .agg #[.string ⟨#[]⟩, .string ⟨#[]⟩, .int .i64 0]) (by kernel_rfl) (by kernel_rfl) rfl rfl (by omega) (by omega) (by omega) (by unfold maxLen; omega) (made_flat (enc := gvEnc) (x := gvZ) rfl rfl (by decide) (n)) rfl fun g3 => ?_
 rw [show List.replicate (n) gvZ = (gotF cs sl l (NS.take 0)).1 from by rw [List.take_zero, ← hlen]; rfl]
 refine wl_alloc zc80 rfl fun g4 => ?_
 refine wl_store 0 sc80 rfl rfl rfl rfl rfl rfl ?_
 refine nn_ (gw_seq (sr_ (mv_ rfl (wl_ov (ov_len es22 rfl) rfl (mv_ rfl (nn_ (gw_block ?_)))))))
 refine gw_loop (γ := Nat) (fun (j : Nat) => j ≤ n) (fun (j : Nat) => [(0, .slice A0 n0 c0), (1, .slice A1 n1 c1), (5, .pointer (some ⟨g1, 0, none⟩)), (6, .slice none 0 0), (7, .slice none 0 0), (8, .int .i64 0), (10, .slice (some ⟨g2, 0, none⟩) n n), (12, .pointer (some ⟨g4, 0, none⟩)), (51, .slice (some ⟨g2, 0, none⟩) n n), (52, .int .i64 ((n : Nat) : Int)), (53, .int .i64 ((j : Nat) : Int))]) (fun (j : Nat) => fun _ => True) (fun (j : Nat) => [(g4, 80, [.slice (some ⟨g3, 0, none⟩) n n]), (g1, 76, [.slice A n c])]) (fun (j : Nat) => [⟨.slice (some ⟨g3, 0, none⟩) n n, 90, 3, n, (gotF cs sl l (NS.take j)).1.flatMap gvEnc⟩, ⟨.slice (some ⟨g2, 0, none⟩) n n, 3, 1, n, ZS.flatMap iEnc⟩]) (fun (j : Nat) => [SlOld csEnc 2 158 w.heap.size none A0 n0 cs, SlOld skEnc 2 211 w.heap.size none A1 n1 sl, SlOld bkEnc 6 92 w.heap.size none A n l]) (fun (j : Nat) => n - j) 0 (Nat.zero_le _) ⟨rfl, rfl, rfl, rfl, rfl, rfl, rfl, rfl, rfl, rfl, rfl, trivial⟩ (fun _ hm => hm.pick [0, 1] [0, 1] [0, 1, 2] rfl rfl) ?_
 intro j hinv
 replace hinv : j ≤ n := hinv
 refine sr_ (wl_ov (ov_lss rfl rfl) rfl (nn_ (gw_seq ?_)))
 refine gw_cond rfl (fun hh => ?_) (fun hh => ?_)
 ·have hj : ((j : Nat) : Int) < ((n : Nat) : Int) := by simpa using hh
  clear hh
  refine gw_skip (nx_then (gw_seq (gw_block (sr_ ?_))))
  obtain ⟨k, hk⟩ : ∃ x, NS[j]? = some x := ⟨_, List.getElem?_eq_getElem (by omega)⟩
  have hkm := List.mem_of_getElem? hk
  have hkn := hNlt k hkm
  have hzk : ZS[j]? = some ((k : Nat) : Int) := by rw [hZS, List.getElem?_map, hk]; rfl
  have hat := gotF_at (cs := cs) (sl := sl) (l := l) hk
  obtain ⟨G0, hG0⟩ : ∃ z, z = (gotF cs sl l (NS.take j)).1 := ⟨_, rfl⟩
  rw [← hG0] at hat
  rw [← hG0]
  have hG0l : G0.length = n := by rw [hG0, gotF_len]; exact hlen
  have hnk : k ∉ NS.take j := fun hin => by
   obtain ⟨q, hq⟩ := List.getElem?_of_mem hin
   rw [List.getElem?_take] at hq
   split at hq
   ·have h1 := (List.getElem?_eq_some_iff.1 hq).1
    have h2 := (List.getElem?_eq_some_iff.1 hk).1
    exact absurd (((List.getElem?_eq_some_iff.1 hq).2).trans ((List.getElem?_eq_some_iff.1 hk).2).symm) (List.pairwise_iff_getElem.1 hNd q j h1 h2 (by omega))
   cases hq
  have hz0 : gvAt G0 k = gvZ := by
   rw [hG0]
   exact gotF_zero _ (NS.take j) rfl (fun x hx => by rw [hlen]; exact hNlt x (List.mem_of_mem_take hx)) hnk
  have hZt : ZS.take j = (NS.take j).map (fun k => ((k : Nat) : Int)) := by rw [hZS, List.map_take]
  have hZa : ∀ z ∈ ZS.take j, 0 ≤ z ∧ z < (n : Int) := fun z hz => by
   rw [hZt] at hz
   obtain ⟨q, hq, rfl⟩ := List.mem_map.1 hz
   have := hNlt q (List.mem_of_mem_take hq)
   omega
  obtain ⟨b, off, hA, _, _⟩ := hl.get (by omega)
  subst hA
  obtain ⟨x, hxl⟩ : ∃ x, l[k]? = some x := ⟨_, List.getElem?_eq_getElem (by omega)⟩
  obtain ⟨x0, x1, x2, x3, x4, x5⟩ := x
  have hbk : bkAt l k = (⟨x0, x1, x2, x3, x4, x5⟩ : Bk) := by unfold bkAt; rw [hxl]; rfl
  have hkey := hkeys _ (List.mem_of_getElem? hxl)
  dsimp only at hkey
  obtain ⟨KS, hKS⟩ : ∃ z, z = clsF cs (⟨x0, x1, x2, x3, x4, x5⟩ : Bk) := ⟨_, rfl⟩
  have hks : ([.string x1] : List Value) ++ (pathN cs n0 x1).flatMap sgEnc = KS.flatMap sgEnc := by
   rw [hKS]
   show _ = (x1 :: pathN cs cs.length x1).flatMap sgEnc
   rw [hlen0]; rfl
  have hkl : KS.length = 1 + (pathN cs n0 x1).length := by
   rw [hKS]
   show (x1 :: pathN cs cs.length x1).length = _
   rw [hlen0, List.length_cons]; omega
  have hpn := pathN_len cs n0 x1
  have hcd : candsF sl (KS.drop 0) = cdB cs sl (bkAt l k) := by rw [hKS, hbk]; rfl
  have hps := pend_start (cd := cdB cs sl) (l := l) (g0 := G0) (done := NS.take j) (k := k)
  rw [← hcd] at hps
  refine mv_ rfl ?_
  refine wl_ov (ov_index (j := j) es22 rfl rfl (by omega)) rfl ?_
  refine wl_ov (ov_elem1 (k := 0) (v := .int .i64 ((k : Nat) : Int)) sc3 rfl (fun _ hm => (SlT.ofOwn i_len (hm.ownI 1 rfl) hZl)) hzk rfl rfl) rfl ?_
  refine wl_alloc zc3 rfl fun g5 => ?_
  refine sg_ rfl ?_
  refine wl_store 0 sc3 rfl rfl rfl rfl rfl rfl ?_
  refine nn_ (sr_ (mv_ rfl (lk_ sc76 2 rfl rfl rfl (lk_ sc3 0 rfl rfl rfl ?_))))
  refine wl_ov (ov_index (j := k) es76 rfl rfl (by omega)) rfl ?_
  refine fd_ fo92_1 rfl rfl ?_
  refine wl_ov (ov_elem1 (k := 1) (v := .string x1) sc9 rfl (fun _ hm => (hm.fact 2 rfl).1) hxl rfl rfl) rfl ?_
  refine wl_callgo (γ := Option Addr × Nat × Nat) (val := (fun g => .tuple #[.slice g.1 g.2.1 g.2.2, .int .i64 0])) (φ := (fun g => (pathN cs n0 x1).length = g.2.1)) (fun g => ⟨.slice g.1 g.2.1 g.2.2, 9, 1, g.2.1, (pathN cs n0 x1).flatMap sgEnc⟩) rfl cb157 rfl rfl (fun wx hm => (above_right cs A0 n0 c0 x1 wx (hm.fact 0 rfl).1 hco (by omega) hkey).mono fun _ _ ⟨A2, n2, c2, he, ho, hl2, hg⟩ => ⟨(A2, n2, c2), he, hl2, ho, hg⟩) ?_
  rintro ⟨A2, n2, c2⟩ hpl
  dsimp only at hpl ⊢
  refine mv_ rfl (wl_ov (ov_extract rfl rfl) rfl (wl_ov (ov_extract rfl rfl) rfl (sg_ rfl (sg_ rfl (nn_ (sr_ (lk_ sc76 2 rfl rfl rfl (lk_ sc3 0 rfl rfl rfl ?_))))))))
  refine wl_ov (ov_index (j := k) es76 rfl rfl (by omega)) rfl ?_
  refine fd_ fo92_1 rfl rfl ?_
  refine wl_ov (ov_elem1 (k := 1) (v := .string x1) sc9 rfl (fun _ hm => (hm.fact 2 rfl).1) hxl rfl rfl) rfl ?_
  refine wl_buildSlice (e := 9) (cs := [.string x1]) rfl (by kernel_rfl) rfl fun g6 => ?_
  refine mv_ rfl ?_
  refine wl_toOwn (sz := 1) (n := 1) 0 [1, 2, 3] rfl rfl rfl (by unfold maxLen; omega) ?_
  refine wl_appendO 0 1 ap103 rfl rfl rfl rfl (flat_one sgEnc sg_one _) (by omega) (by unfold maxLen; omega) rfl rfl fun v2 hv => ?_
  rw [hks]
  refine wl_look (R := ∃ A cc, v2 = .slice A (1 + n2) cc) (fun wx hm => own_slice (hm.ownI 0 rfl)) ?_
  rintro ⟨A5, c5, rfl⟩
  have hKl : KS.length = 1 + n2 := by omega
  refine wl_ov (ov_len es103 rfl) rfl (mv_ rfl (nn_ (gw_block ?_)))
  refine gw_loop (γ := Nat × List Gv) (fun g => g.1 ≤ 1 + n2 ∧ g.2.length = n ∧ Pend (cdB cs sl) l G0 (NS.take j) k g.2 (candsF sl (KS.drop g.1))) (fun g => [(0, .slice A0 n0 c0), (1, .slice A1 n1 c1), (5, .pointer (some ⟨g1, 0, none⟩)), (6, .slice none 0 0), (7, .slice none 0 0), (8, .int .i64 0), (10, .slice (some ⟨g2, 0, none⟩) n n), (12, .pointer (some ⟨g4, 0, none⟩)), (13, .int .i64 ((j : Nat) : Int)), (14, .pointer (some ⟨g5, 0, none⟩)), (51, .slice (some ⟨g2, 0, none⟩) n n), (52, .int .i64 ((n : Nat) : Int)), (53, .int .i64 ((j : Nat) : Int)), (75, .slice A5 (1 + n2) c5), (76, .int .i64 ((1 + n2 : Nat) : Int)), (77, .int .i64 ((g.1 : Nat) : Int))]) (fun g => fun _ => True) (fun g => [(g5, 3, [.int .i64 ((k : Nat) : Int)]), (g4, 80, [.slice (some ⟨g3, 0, none⟩) n n]), (g1, 76, [.slice (some ⟨b, off, none⟩) n c])]) (fun g => [⟨.slice A5 (1 + n2) c5, 9, 1, 1 + n2, KS.flatMap sgEnc⟩, ⟨.slice (some ⟨g3, 0, none⟩) n n, 90, 3, n, g.2.flatMap gvEnc⟩, ⟨.slice (some ⟨g2, 0, none⟩) n n, 3, 1, n, ZS.flatMap iEnc⟩]) (fun g => [SlOld csEnc 2 158 w.heap.size none A0 n0 cs, SlOld skEnc 2 211 w.heap.size none A1 n1 sl, SlOld bkEnc 6 92 w.heap.size none (some ⟨b, off, none⟩) n l]) (fun g => 1 + n2 - g.1) (0, G0) ⟨Nat.zero_le _, hG0l, hps⟩ ⟨rfl, rfl, rfl, rfl, rfl, rfl, rfl, rfl, rfl, rfl, rfl, rfl, rfl, rfl, rfl, rfl, trivial⟩ (fun _ hm => hm.pick [0, 1, 2] [0, 2, 3] [0, 1, 2] rfl rfl) ?_
  rintro ⟨i, R⟩ hinv
  replace hinv : i ≤ 1 + n2 ∧ R.length = n ∧ Pend (cdB cs sl) l G0 (NS.take j) k R (candsF sl (KS.drop i)) := hinv
  dsimp only
  refine sr_ ?_
  obtain ⟨hi0, hRl, hpd⟩ := hinv
  refine wl_ov (ov_lss rfl rfl) rfl (nn_ (gw_seq ?_))
  refine gw_cond rfl (fun hh => ?_) (fun hh => ?_)
  ·have hi4 : ((i : Nat) : Int) < ((1 + n2 : Nat) : Int) := by simpa using hh
   clear hh
   refine gw_skip (nx_then (gw_seq (gw_block (sr_ ?_))))
   refine wl_look (R := ∃ g, A5 = some ⟨g, 0, none⟩) (fun wx hm => own_addr (hm.ownI 0 rfl) (by omega)) ?_
   rintro ⟨gk7, rfl⟩
   obtain ⟨cl, hx⟩ : ∃ x, KS[i]? = some x := ⟨_, List.getElem?_eq_getElem (by omega)⟩
   have hmb := hmany cl
   rw [candsF_at hx] at hpd
   refine wl_ov (ov_index (j := i) es103 rfl rfl (by omega)) rfl ?_
   refine wl_ov (ov_elem1 (k := 0) (v := .string cl) sc9 rfl (fun _ hm => (SlT.ofOwn sg_len (hm.ownI 0 rfl) hKl)) hx rfl rfl) rfl ?_
   refine wl_alloc zc9 rfl fun g7 => ?_
   refine wl_store 0 sc9 rfl rfl rfl rfl rfl rfl ?_
   refine nn_ (sr_ ?_)
   refine wl_alloc zc3 rfl fun g8 => ?_
   refine wl_store 0 sc3 rfl rfl rfl rfl rfl rfl ?_
   refine nn_ (gw_block ?_)
   refine gw_loop (γ := Nat × Nat × List Gv) (fun (gq : Nat × Nat × List Gv) => gq.1 ≤ 100 ∧ gq.2.2.length = n ∧ Pend (cdB cs sl) l G0 (NS.take j) k gq.2.2 (unitsF sl cl gq.1 ++ candsF sl (KS.drop (i + 1)))) (fun (gq : Nat × Nat × List Gv) => [(0, .slice A0 n0 c0), (1, .slice A1 n1 c1), (5, .pointer (some ⟨g1, 0, none⟩)), (6, .slice none 0 0), (7, .slice none 0 0), (8, .int .i64 0), (10, .slice (some ⟨g2, 0, none⟩) n n), (12, .pointer (some ⟨g4, 0, none⟩)), (13, .int .i64 ((j : Nat) : Int)), (14, .pointer (some ⟨g5, 0, none⟩)), (18, .pointer (some ⟨g7, 0, none⟩)), (19, .pointer (some ⟨gq.2.1, 0, none⟩)), (51, .slice (some ⟨g2, 0, none⟩) n n), (52, .int .i64 ((n : Nat) : Int)), (53, .int .i64 ((j : Nat) : Int)), (75, .slice (some ⟨gk7, 0, none⟩) (1 + n2) c5), (76, .int .i64 ((1 + n2 : Nat) : Int)), (77, .int .i64 ((i : Nat) : Int))]) (fun (gq : Nat × Nat × List Gv) => fun _ => True) (fun (gq : Nat × Nat × List Gv) => [(gq.2.1, 3, [.int .i64 ((gq.1 + 1 : Nat) : Int)]), (g7, 9, [.string cl]), (g5, 3, [.int .i64 ((k : Nat) : Int)]), (g4, 80, [.slice (some ⟨g3, 0, none⟩) n n]), (g1, 76, [.slice (some ⟨b, off, none⟩) n c])]) (fun (gq : Nat × Nat × List Gv) => [⟨.slice (some ⟨gk7, 0, none⟩) (1 + n2) c5, 9, 1, 1 + n2, KS.flatMap sgEnc⟩, ⟨.slice (some ⟨g3, 0, none⟩) n n, 90, 3, n, gq.2.2.flatMap gvEnc⟩, ⟨.slice (some ⟨g2, 0, none⟩) n n, 3, 1, n, ZS.flatMap iEnc⟩]) (fun (gq : Nat × Nat × List Gv) => [SlOld csEnc 2 158 w.heap.size none A0 n0 cs, SlOld skEnc 2 211 w.heap.size none A1 n1 sl, SlOld bkEnc 6 92 w.heap.size none (some ⟨b, off, none⟩) n l]) (fun (gq : Nat × Nat × List Gv) => 100 - gq.1) (0, g8, R) ⟨Nat.zero_le _, hRl, hpd⟩ ⟨rfl, rfl, rfl, rfl, rfl, rfl, rfl, rfl, rfl, rfl, rfl, rfl, rfl, rfl, rfl, rfl, rfl, rfl, trivial⟩ (fun _ hm => hm.pick [0, 1, 2, 3, 4] [0, 1, 2] [0, 1, 2] rfl rfl) ?_
   rintro ⟨u, g8, R2⟩ hinv
   replace hinv : u ≤ 100 ∧ R2.length = n ∧ Pend (cdB cs sl) l G0 (NS.take j) k R2 (unitsF sl cl u ++ candsF sl (KS.drop (i + 1))) := hinv
   dsimp only
   refine gw_seq (gw_seq ?_)
   obtain ⟨hu0, hR2, hp6⟩ := hinv
   obtain ⟨zz, hz⟩ : ∃ x, R2[k]? = some x := ⟨_, List.getElem?_eq_getElem (by omega)⟩
   obtain ⟨z0, z1, z2⟩ := zz
   have hgk : gvAt R2 k = ⟨z0, z1, z2⟩ := by unfold gvAt; rw [hz]; rfl
   refine gd (fun wz => Blk wz g8 3 [.int .i64 ((u + 1 : Nat) : Int)] ∧ Blk wz g7 9 [.string cl] ∧ Blk wz g5 3 [.int .i64 ((k : Nat) : Int)] ∧ Blk wz g4 80 [.slice (some ⟨g3, 0, none⟩) n n] ∧ Blk wz g1 76 [.slice (some ⟨b, off, none⟩) n c] ∧ (SlOld csEnc 2 158 w.heap.size none A0 n0 cs) wz ∧ (SlOld skEnc 2 211 w.heap.size none A1 n1 sl) wz ∧ (SlOld bkEnc 6 92 w.heap.size none (some ⟨b, off, none⟩) n l) wz ∧ wz.ownsRow w.heap.size 9 1 (.slice (some ⟨gk7, 0, none⟩) (1 + n2) c5) (1 + n2) (KS.flatMap sgEnc) ∧ wz.ownsRow w.heap.size 90 3 (.slice (some ⟨g3, 0, none⟩) n n) n (R2.flatMap gvEnc) ∧ wz.ownsRow w.heap.size 3 1 (.slice (some ⟨g2, 0, none⟩) n n) n (ZS.flatMap iEnc) ∧ True) mixed (fun _ hm => ⟨hm.bl 0, hm.bl 1, hm.bl 2, hm.bl 3, hm.bl 4, hm.fa 0, hm.fa 1, hm.fa 2, hm.ownI 0 rfl, hm.ownI 1 rfl, hm.ownI 2 rfl, trivial⟩) fun z => ?_
   refine wt 0 13 1 rfl z (ov_load sc3 rfl (fun _ hm => hm.1) rfl) ?_
   refine wt 1 13 3 rfl z (ov_move rfl) ?_
   refine wt 2 13 7 rfl z (ov_load sc9 rfl (fun _ hm => hm.2.1) rfl) ?_
   refine wa1 3 rfl ?_
   refine wl_callv rfl cb158 rfl rfl (fun wx hm => (many_any sl A1 n1 c1 cl wx (hm.fact 1 rfl).1 hso (by omega))) ?_
   refine wl_nil ?_
   refine nw 13 15 (fun _ hm => ⟨hm.bl 0, hm.bl 1, hm.bl 2, hm.bl 3, hm.bl 4, hm.fa 0, hm.fa 1, hm.fa 2, hm.ownI 0 rfl, hm.ownI 1 rfl, hm.ownI 2 rfl, trivial⟩) fun z => ?_
   refine wt 4 13 31 rfl z (ov_leq rfl rfl) ?_
   refine wt 5 13 63 rfl z (ov_move rfl) ?_
   rcases Bool.eq_false_or_eq_true (decide (((u + 1 : Nat) : Int) ≤ manyV sl cl)) with hu | hu
   ·refine wa_set 86 rfl (congrArg Value.bool hu) ?_
    replace hu := of_decide_eq_true hu
    rw [unitsF_more hu] at hp6
    refine wto 6 13 127 rfl rfl rfl z (ov_load sc80 rfl (fun _ hm => hm.2.2.2.1) rfl) ?_
    refine wto 7 13 255 rfl rfl rfl z (ov_load sc3 rfl (fun _ hm => hm.2.2.1) rfl) ?_
    refine wto 8 13 511 rfl rfl rfl z (ov_index (j := k) es80 rfl rfl (by omega)) ?_
    refine wto 9 13 1023 rfl rfl rfl z (ov_field fo90_2 rfl rfl) ?_
    refine wto 10 13 2047 rfl rfl rfl z (ov_elem1 (k := 2) (v := .int .i64 z2) sc3 rfl (fun _ hm => (SlT.ofOwn gv_len (hm.2.2.2.2.2.2.2.2.2.1) hR2)) hz rfl rfl) ?_
    refine wto 11 13 4095 rfl rfl rfl z (ov_eql rfl rfl) ?_
    refine wt 12 13 8191 rfl z (ov_pick_t rfl rfl) ?_
    refine wa_done (by kernel_rfl) ?_
    refine nx_then ?_
    refine gw_cond rfl (fun hh => ?_) (fun hh => ?_)
    ·have hz2 : z2 = 0 := by simpa using hh
     clear hh
     refine gw_skip (nx_then (gw_seq (gw_block (sr_ ?_))))
     have hu2 : (gvAt R2 k).unit = 0 := by rw [hgk]; exact hz2
     refine mv_ rfl (mv_ rfl ?_)
     refine wl_ov (ov_sliceHi (hi := j) es22 rfl rfl rfl (by omega)) rfl ?_
     refine wl_ov (ov_makeFunc rfl rfl) rfl ?_
     refine wl_callv (v := .bool (takenI l R2 (NS.take j) k (cl, ((u + 1 : Nat) : Int)))) rfl cb159 rfl rfl (fun wx hm => (by have h := hasTak_any l R2 (some ⟨b, off, none⟩) (some ⟨g3, 0, none⟩) n c n g4 g7 g8 g1 g5 k cl ((u + 1 : Nat) : Int) (ZS.take j) (some ⟨g2, 0, none⟩) j n wx (hm.fact 2 rfl).1 (SlT.ofOwn gv_len (hm.ownI 1 rfl) hR2) (hm.blkI 3 rfl) (hm.blkI 1 rfl) (hm.blkI 0 rfl) (hm.blkI 4 rfl) (hm.blkI 2 rfl) hkn ((SlT.ofOwn i_len (hm.ownI 2 rfl) hZl).takeT (by omega)) (by omega) hZa; rw [hZt, tak_ids] at h; exact h)) ?_
     refine sg_ rfl (nn_ (sr_ (mv_ rfl (wl_ov (ov_un_not rfl) rfl (nn_ ?_)))))
     refine gw_cond rfl (fun hh => ?_) (fun hh => ?_)
     ·have htk : (takenI l R2 (NS.take j) k (cl, ((u + 1 : Nat) : Int))) = false := by simpa using hh
      clear hh
      refine gd (fun wz => Blk wz g8 3 [.int .i64 ((u + 1 : Nat) : Int)] ∧ Blk wz g7 9 [.string cl] ∧ Blk wz g5 3 [.int .i64 ((k : Nat) : Int)] ∧ Blk wz g4 80 [.slice (some ⟨g3, 0, none⟩) n n] ∧ Blk wz g1 76 [.slice (some ⟨b, off, none⟩) n c] ∧ (SlOld csEnc 2 158 w.heap.size none A0 n0 cs) wz ∧ (SlOld skEnc 2 211 w.heap.size none A1 n1 sl) wz ∧ (SlOld bkEnc 6 92 w.heap.size none (some ⟨b, off, none⟩) n l) wz ∧ True) mixed (fun _ hm => ⟨hm.bl 0, hm.bl 1, hm.bl 2, hm.bl 3, hm.bl 4, hm.fa 0, hm.fa 1, hm.fa 2, trivial⟩) fun z => ?_
      refine wt 0 12 1 rfl z (ov_load sc80 rfl (fun _ hm => hm.2.2.2.1) rfl) ?_
      refine wt 1 12 3 rfl z (ov_load sc3 rfl (fun _ hm => hm.2.2.1) rfl) ?_
      refine wt 2 12 7 rfl z (ov_load sc76 rfl (fun _ hm => hm.2.2.2.2.1) rfl) ?_
      refine wt 3 12 15 rfl z (ov_load sc3 rfl (fun _ hm => hm.2.2.1) rfl) ?_
      refine wt 4 12 31 rfl z (ov_index (j := k) es76 rfl rfl (by omega)) ?_
      refine wt 5 12 63 rfl z (ov_field fo92_0 rfl rfl) ?_
      refine wt 6 12 127 rfl z (ov_elem1 (k := 0) (v := .string x0) sc9 rfl (fun _ hm => (hm.2.2.2.2.2.2.2.1).1) hxl rfl rfl) ?_
      refine wt 7 12 255 rfl z (ov_load sc9 rfl (fun _ hm => hm.2.1) rfl) ?_
      refine wt 8 12 511 rfl z (ov_load sc3 rfl (fun _ hm => hm.1) rfl) ?_
      refine wt 9 12 1023 rfl z (ov_build (cs := [.string x0, .string cl, .int .i64 ((u + 1 : Nat) : Int)]) rfl (by kernel_rfl)) ?_
      refine wt 10 12 2047 rfl z (ov_index (j := k) es80 rfl rfl (by omega)) ?_
      refine wa1 11 rfl ?_
      refine wl_storesE (l := R2) (j := k) (r := 0) (el := ⟨z0, z1, z2⟩) (el' := ⟨x0, cl, ((u + 1 : Nat) : Int)⟩) 1 rz90 rfl rfl rfl rfl rfl gv_len rfl hz hR2 (by decide) rfl rfl ?_
      have hgot := pend_got hp6 hu2 htk (by omega) (by dsimp only; omega) (unitsF sl cl (u + 1) ++ candsF sl (KS.drop (i + 1)))
      rw [hbk] at hgot
      refine wl_nil ?_
      refine nw 12 4095 (fun _ hm => ⟨hm.bl 0, hm.bl 1, hm.bl 2, hm.bl 3, hm.bl 4, hm.fa 0, hm.fa 1, hm.fa 2, trivial⟩) fun z => ?_
      refine wa_done (by kernel_rfl) ?_
      refine nx_blk_nrm (nx_then (gw_seq (sr_ (lk_ sc3 0 rfl rfl rfl (nn_ (gw_region ?_))))))
      refine wl_alloc zc3 rfl fun g9 => ?_
      refine wl_store 0 sc3 rfl rfl rfl rfl rfl rfl ?_
      refine nn_ (gw_region (lk_ sc3 0 rfl rfl rfl (ad_ rfl rfl ?_)))
      refine wl_store 0 sc3 rfl rfl rfl rfl rfl rfl ?_
      refine wl_nil ?_
      rw [show (((u + 1 : Nat) : Int) + 1) = ((u + 1 + 1 : Nat) : Int) from by omega]
      exact nx_round (u + 1, g9, (R2.set (k) ⟨x0, cl, ((u + 1 : Nat) : Int)⟩)) ⟨by dsimp only; omega, by rw [List.length_set]; exact hR2, hgot⟩ (by dsimp only; omega) ⟨rfl, rfl, rfl, rfl, rfl, rfl, rfl, rfl, rfl, rfl, rfl, rfl, rfl, rfl, rfl, rfl, rfl, rfl, trivial⟩ (fun _ hm => hm.pick [0, 2, 3, 4, 5] [0, 1, 2] [0, 1, 2] rfl rfl)
     have htk : (takenI l R2 (NS.take j) k (cl, ((u + 1 : Nat) : Int))) = true := by simpa using hh
     clear hh
     refine gw_skip (nx_blk_nrm (nx_then (gw_seq (sr_ (lk_ sc3 0 rfl rfl rfl (nn_ (gw_region ?_)))))))
     refine wl_alloc zc3 rfl fun g10 => ?_
     refine wl_store 0 sc3 rfl rfl rfl rfl rfl rfl ?_
     refine nn_ (gw_region (lk_ sc3 0 rfl rfl rfl (ad_ rfl rfl ?_)))
     refine wl_store 0 sc3 rfl rfl rfl rfl rfl rfl ?_
     refine wl_nil ?_
     rw [show (((u + 1 : Nat) : Int) + 1) = ((u + 1 + 1 : Nat) : Int) from by omega]
     exact nx_round (u + 1, g10, R2) ⟨by dsimp only; omega, hR2, pend_taken hp6 hu2 htk⟩ (by dsimp only; omega) ⟨rfl, rfl, rfl, rfl, rfl, rfl, rfl, rfl, rfl, rfl, rfl, rfl, rfl, rfl, rfl, rfl, rfl, rfl, trivial⟩ (fun _ hm => hm.pick [0, 2, 3, 4, 5] [0, 1, 2] [0, 1, 2] rfl rfl)
    have hz2 : ¬ (z2 = 0) := by simpa using hh
    clear hh
    refine gw_exit ?_
    refine nx_then_exit (nx_then_exit ?_)
    refine nx_blk_here ?_
    refine nx_blk_nrm (nx_then (gw_region ?_))
    have hu2 : (gvAt R2 k).unit ≠ 0 := by rw [hgk]; exact hz2
    refine ad_ rfl rfl (mv_ rfl (wl_nil ?_))
    exact nx_round (i + 1, R2) ⟨by dsimp only; omega, hR2, pend_skip hp6 hz0 hu2 _⟩ (by dsimp only; omega) ⟨rfl, rfl, rfl, rfl, rfl, rfl, rfl, rfl, rfl, rfl, rfl, rfl, rfl, rfl, rfl, (some_int (by omega)), trivial⟩ (fun _ hm => hm.pick [2, 3, 4] [0, 1, 2] [0, 1, 2] rfl rfl)
   refine wa_set 86 rfl (congrArg Value.bool hu) ?_
   replace hu := of_decide_eq_false hu
   rw [unitsF_end hu] at hp6
   refine wtf 6 13 127 rfl rfl rfl z ?_
   refine wtf 7 13 255 rfl rfl rfl z ?_
   refine wtf 8 13 511 rfl rfl rfl z ?_
   refine wtf 9 13 1023 rfl rfl rfl z ?_
   refine wtf 10 13 2047 rfl rfl rfl z ?_
   refine wtf 11 13 4095 rfl rfl rfl z ?_
   refine wt 12 13 8191 rfl z (ov_pick_f rfl rfl) ?_
   refine wa_done (by kernel_rfl) ?_
   refine nx_then (cf_ rfl ?_)
   refine gw_exit ?_
   refine nx_then_exit (nx_then_exit ?_)
   refine nx_blk_here ?_
   refine nx_blk_nrm (nx_then (gw_region (ad_ rfl rfl (mv_ rfl (wl_nil ?_)))))
   exact nx_round (i + 1, R2) ⟨by dsimp only; omega, hR2, hp6⟩ (by dsimp only; omega) ⟨rfl, rfl, rfl, rfl, rfl, rfl, rfl, rfl, rfl, rfl, rfl, rfl, rfl, rfl, rfl, (some_int (by omega)), trivial⟩ (fun _ hm => hm.pick [2, 3, 4] [0, 1, 2] [0, 1, 2] rfl rfl)
  have hi4 : ¬ (((i : Nat) : Int) < ((1 + n2 : Nat) : Int)) := by simpa using hh
  clear hh
  refine gw_exit ?_
  refine nx_then_exit (nx_then_exit ?_)
  refine nx_blk_here ?_
  refine nx_blk_nrm (nx_then (gw_region ?_))
  rw [candsF_end (by omega)] at hpd
  have hRe := (pend_end hpd).trans hat.symm
  rw [hRe]
  refine ad_ rfl rfl (mv_ rfl (wl_nil ?_))
  exact nx_round (j + 1) (by omega) (by omega) ⟨rfl, rfl, rfl, rfl, rfl, rfl, rfl, rfl, rfl, rfl, (some_int (by omega)), trivial⟩ (fun _ hm => hm.pick [1, 2] [1, 2] [0, 1, 2] rfl rfl)
 have hj : ¬ (((j : Nat) : Int) < ((n : Nat) : Int)) := by simpa using hh
 clear hh
 refine gw_exit ?_
 refine nx_then_exit (nx_then_exit ?_)
 refine nx_blk_here ?_
 refine nx_then (sr_ ?_)
 have hallN : NS.take j = NS := List.take_of_length_le (by omega)
 obtain ⟨GE, hGE⟩ : ∃ z, z = (gotF cs sl l NS).1 := ⟨_, rfl⟩
 rw [hallN, ← hGE]
 have hGl : GE.length = n := by rw [hGE, gotF_len]; exact hlen
 have hgiv : givenE cs sl l = GE.filter fun g => decide (0 < g.unit) := by rw [hGE, hNS]; rfl
 have hwai : waitE cs sl l = (List.range n).filterMap (lfF l GE) := by rw [hGE, hNS, ← hlen]; rfl
 rw [hgiv, hwai]
 refine wl_nilOwn 9 1 ?_
 refine wl_nilOwn 90 3 ?_
 refine sg_ rfl (nn_ (sr_ (sg_ rfl (nn_ (gw_seq (sr_ (lk_ sc80 0 rfl rfl rfl (wl_ov (ov_len es80 rfl) rfl (mv_ rfl ?_)))))))))
 refine nn_ (gw_block ?_)
 refine gw_loop (γ := Nat × Nat × Nat × Value × Value) (fun g => g.1 ≤ n ∧ ((GE.take g.1).filter fun g => decide (0 < g.unit)).length = g.2.1 ∧ ((List.range g.1).filterMap (lfF l GE)).length = g.2.2.1 ∧ g.2.1 ≤ g.1 ∧ g.2.2.1 ≤ g.1) (fun g => [(5, .pointer (some ⟨g1, 0, none⟩)), (6, .slice none 0 0), (7, .slice none 0 0), (8, .int .i64 0), (21, g.2.2.2.1), (22, g.2.2.2.2), (117, .slice (some ⟨g3, 0, none⟩) n n), (118, .int .i64 ((n : Nat) : Int)), (119, .int .i64 ((g.1 : Nat) : Int))]) (fun g => fun _ => True) (fun g => [(g4, 80, [.slice (some ⟨g3, 0, none⟩) n n]), (g1, 76, [.slice A n c])]) (fun g => [⟨g.2.2.2.1, 90, 3, g.2.1, ((GE.take g.1).filter fun g => decide (0 < g.unit)).flatMap gvEnc⟩, ⟨g.2.2.2.2, 9, 1, g.2.2.1, ((List.range g.1).filterMap (lfF l GE)).flatMap sgEnc⟩, ⟨.slice (some ⟨g3, 0, none⟩) n n, 90, 3, n, GE.flatMap gvEnc⟩]) (fun g => [SlOld csEnc 2 158 w.heap.size none A0 n0 cs, SlOld skEnc 2 211 w.heap.size none A1 n1 sl, SlOld bkEnc 6 92 w.heap.size none A n l]) (fun g => n - g.1) (0, 0, 0, .slice none 0 0, .slice none 0 0) ⟨Nat.zero_le _, rfl, rfl, Nat.zero_le _, Nat.zero_le _⟩ ⟨rfl, rfl, rfl, rfl, rfl, rfl, rfl, rfl, rfl, trivial⟩ (fun _ hm => hm.pick [0, 1] [0, 1, 2] [0, 1, 2] rfl rfl) ?_
 rintro ⟨i, k, q, v1, v2⟩ hinv
 replace hinv : i ≤ n ∧ ((GE.take i).filter fun g => decide (0 < g.unit)).length = k ∧ ((List.range i).filterMap (lfF l GE)).length = q ∧ k ≤ i ∧ q ≤ i := hinv
 dsimp only
 refine sr_ ?_
 obtain ⟨hi0, hgk, hwq, hki, hqi⟩ := hinv
 refine wl_ov (ov_lss rfl rfl) rfl (nn_ (gw_seq ?_))
 refine gw_cond rfl (fun hh => ?_) (fun hh => ?_)
 ·have hi8 : ((i : Nat) : Int) < ((n : Nat) : Int) := by simpa using hh
  clear hh
  refine gw_skip (nx_then (gw_seq (gw_block (sr_ ?_))))
  obtain ⟨b, off, hA, _, _⟩ := hl.get (by omega)
  subst hA
  obtain ⟨x, hxl⟩ : ∃ x, l[i]? = some x := ⟨_, List.getElem?_eq_getElem (by omega)⟩
  obtain ⟨x0, x1, x2, x3, x4, x5⟩ := x
  obtain ⟨zz, hz⟩ : ∃ x, GE[i]? = some x := ⟨_, List.getElem?_eq_getElem (by omega)⟩
  obtain ⟨z0, z1, z2⟩ := zz
  have hbk : bkAt l i = (⟨x0, x1, x2, x3, x4, x5⟩ : Bk) := by unfold bkAt; rw [hxl]; rfl
  have hgi : gvAt GE i = ⟨z0, z1, z2⟩ := by unfold gvAt; rw [hz]; rfl
  have hga := gfilt_at (p := fun g : Gv => decide (0 < g.unit)) hz
  have hwa := rangeF_at (f := lfF l GE) i
  have hlf : lfF l GE i = if 0 < z2 then none else some x0 := by unfold lfF; rw [hgi, hbk]
  rw [hlf] at hwa
  dsimp only at hga
  refine mv_ rfl ?_
  refine wl_ov (ov_index (j := i) es80 rfl rfl (by omega)) rfl ?_
  refine wl_ov (ov_elem (vs := [.string z0, .string z1, .int .i64 z2]) rz90 rfl (fun _ hm => (SlT.ofOwn gv_len (hm.ownI 2 rfl) hGl)) hz rfl rfl) rfl ?_
  refine wl_alloc zc90 rfl fun g11 => ?_
  refine sg_ rfl ?_
  refine wl_stores (cs' := [.string z0, .string z1, .int .i64 z2]) 0 rz90 rfl rfl rfl rfl rfl rfl rfl rfl ?_
  refine nn_ (sr_ (fd_ fo90_2 rfl rfl (lk_ sc3 0 rfl rfl rfl ?_)))
  refine wl_ov (ov_gtr rfl rfl) rfl ?_
  refine nn_ ?_
  refine gw_cond rfl (fun hh => ?_) (fun hh => ?_)
  ·have hp : 0 < z2 := by simpa using hh
   clear hh
   refine gw_region ?_
   rw [if_pos (decide_eq_true hp)] at hga
   rw [if_pos hp, Option.toList_none, List.append_nil] at hwa
   refine mv_ rfl ?_
   refine wl_ov (ov_loads rz90 rfl (fun _ hm => hm.blkI 0 rfl) rfl rfl) rfl ?_
   refine wl_buildSlice (e := 90) (cs := [.string z0, .string z1, .int .i64 z2]) rfl (by kernel_rfl) rfl fun g12 => ?_
   refine wl_append (news := [.string z0, .string z1, .int .i64 z2]) 0 0 ap80 rfl rfl rfl rfl rfl rfl rfl (by omega) (by unfold maxLen; omega) rfl rfl fun u1 hu1 => ?_
   rw [show ((GE.take i).filter fun g => decide (0 < g.unit)).flatMap gvEnc ++ ([.string z0, .string z1, .int .i64 z2] : List Value) = ((GE.take (i + 1)).filter fun g => decide (0 < g.unit)).flatMap gvEnc from by rw [hga]; simp [gvEnc], show ((List.range i).filterMap (lfF l GE)).flatMap sgEnc = ((List.range (i + 1)).filterMap (lfF l GE)).flatMap sgEnc from by rw [hwa]]
   refine sg_ rfl (wl_nil (nx_blk_nrm (nx_then (gw_region (ad_ rfl rfl (mv_ rfl (wl_nil ?_)))))))
   exact nx_round (i + 1, k + 1, q, u1, v2) ⟨by dsimp only; omega, by dsimp only; rw [hga]; simp [hgk], by dsimp only; rw [hwa]; exact hwq, by dsimp only; omega, by dsimp only; omega⟩ (by dsimp only; omega) ⟨rfl, rfl, rfl, rfl, rfl, rfl, rfl, rfl, (some_int (by omega)), trivial⟩ (fun _ hm => hm.pick [2, 3] [0, 1, 2] [0, 1, 2] rfl rfl)
  have hp : ¬ (0 < z2) := by simpa using hh
  clear hh
  refine gw_region ?_
  rw [if_neg (by simpa using hp), List.append_nil] at hga
  rw [if_neg hp, Option.toList_some] at hwa
  refine mv_ rfl (lk_ sc76 2 rfl rfl rfl (mv_ rfl ?_))
  refine wl_ov (ov_index (j := i) es76 rfl rfl (by omega)) rfl ?_
  refine fd_ fo92_0 rfl rfl ?_
  refine wl_ov (ov_elem1 (k := 0) (v := .string x0) sc9 rfl (fun _ hm => (hm.fact 2 rfl).1) hxl rfl rfl) rfl ?_
  refine wl_buildSlice (e := 9) (cs := [.string x0]) rfl (by kernel_rfl) rfl fun g13 => ?_
  refine wl_append (news := [.string x0]) 1 0 ap103 rfl rfl rfl rfl rfl rfl rfl (by omega) (by unfold maxLen; omega) rfl rfl fun u2 hu2 => ?_
  rw [show ((List.range i).filterMap (lfF l GE)).flatMap sgEnc ++ ([.string x0] : List Value) = ((List.range (i + 1)).filterMap (lfF l GE)).flatMap sgEnc from by rw [hwa]; simp [sgEnc], show ((GE.take i).filter fun g => decide (0 < g.unit)).flatMap gvEnc = ((GE.take (i + 1)).filter fun g => decide (0 < g.unit)).flatMap gvEnc from by rw [hga]]
  refine sg_ rfl (wl_nil (nx_blk_nrm (nx_then (gw_region (ad_ rfl rfl (mv_ rfl (wl_nil ?_)))))))
  exact nx_round (i + 1, k, q + 1, v1, u2) ⟨by dsimp only; omega, by dsimp only; rw [hga]; exact hgk, by dsimp only; rw [hwa]; simp [hwq], by dsimp only; omega, by dsimp only; omega⟩ (by dsimp only; omega) ⟨rfl, rfl, rfl, rfl, rfl, rfl, rfl, rfl, (some_int (by omega)), trivial⟩ (fun _ hm => hm.pick [2, 3] [0, 1, 2] [0, 1, 2] rfl rfl)
 have hi8 : ¬ (((i : Nat) : Int) < ((n : Nat) : Int)) := by simpa using hh
 clear hh
 refine gw_exit ?_
 refine nx_then_exit (nx_then_exit ?_)
 refine nx_blk_here ?_
 refine nx_then (sr_ ?_)
 have hallG : GE.take i = GE := List.take_of_length_le (by omega)
 have hin8 : i = n := by omega
 rw [hallG] at hgk ⊢
 rw [hin8] at hwq
 rw [show List.range i = List.range n from by rw [hin8]]
 refine wl_look (R := ∃ A cc, v1 = .slice A k cc) (fun wx hm => own_slice (hm.ownI 0 rfl)) ?_
 rintro ⟨Ag, cg, rfl⟩
 refine wl_look (R := ∃ A cc, v2 = .slice A q cc) (fun wx hm => own_slice (hm.ownI 1 rfl)) ?_
 rintro ⟨Al, cw, rfl⟩
 refine mv_ rfl (mv_ rfl (sg_ rfl (sg_ rfl (sg_ rfl (nn_ ?_)))))
 refine gw_ret ?_
 refine nx_ret3 rfl rfl rfl rfl fun wx hm => ?_
 exact ⟨Ag, k, cg, Al, q, cw, rfl, SlT.ofOwn gv_len (hm.ownI 0 rfl) hgk, SlT.ofOwn sg_len (hm.ownI 1 rfl) hwq, by omega, by omega, own_cap (hm.ownI 0 rfl), hm.g⟩
end Go.Proofs.YtempjmpfdniecaaGreatDoor
namespace Go.Proofs.YtempjmpfdniecaaGreatDoor
abbrev Wn := Int × Int
/-- Two windows have a moment in common. -/
def mtW (a b : Wn) : Bool := decide (a.1 < b.2) && decide (b.1 < a.2)
def onW (t : Int) (a : Wn) : Bool := decide (a.1 ≤ t) && decide (t < a.2)
theorem mtW_symm {a b : Wn} (h : mtW a b = true) : mtW b a = true := by
  unfold mtW at h ⊢
  simp only [Bool.and_eq_true, decide_eq_true_eq] at h ⊢
  omega
theorem free_unit : ∀ (m : Nat) (l : List Nat), l.length < m → ∃ c, 1 ≤ c ∧ c ≤ m ∧ c ∉ l
  | 0, _, h => absurd h (Nat.not_lt_zero _)
  | m + 1, l, h => by
    by_cases hm : m + 1 ∈ l
    · obtain ⟨a, b, rfl⟩ := List.append_of_mem hm
      obtain ⟨c, h1, h2, h3⟩ := free_unit m ((a ++ b).filter fun x => decide (x ≠ m + 1)) (by
        have := List.length_filter_le (fun x => decide (x ≠ m + 1)) (a ++ b)
        simp at h this ⊢
        omega)
      refine ⟨c, h1, by omega, fun hc => h3 ?_⟩
      rw [List.mem_filter]
      refine ⟨?_, by simp; omega⟩
      rcases List.mem_append.1 hc with hc | hc
      · exact List.mem_append.2 (.inl hc)
      · rcases List.mem_cons.1 hc with hc | hc
        · omega
        · exact List.mem_append.2 (.inr hc)
    · exact ⟨m + 1, by omega, Nat.le_refl _, hm⟩
end Go.Proofs.YtempjmpfdniecaaGreatDoor
namespace Go.Proofs.YtempjmpfdniecaaGreatDoor
section
variable {α : Type}
/-- A class, the steps to it, how many vehicles it has. -/
abbrev CdW (α : Type) := α × Nat × Nat
def ApartC (p q : (α × Wn) × Nat) : Prop := p.1.1 = q.1.1 → mtW p.1.2 q.1.2 = true → p.2 ≠ q.2
theorem apartC_symm {p q : (α × Wn) × Nat} (h : ApartC p q) : ApartC q p := fun h0 h1 e => h h0.symm (mtW_symm h1) e.symm
theorem max_startC : ∀ (l : List (α × Wn)), l ≠ [] → ∃ a x b, l = a ++ x :: b ∧ ∀ y ∈ l, y.2.1 ≤ x.2.1
  | [], h => absurd rfl h
  | [x], _ => ⟨[], x, [], rfl, by simp⟩
  | z :: y :: r, _ => by
    obtain ⟨a, x, b, h1, h2⟩ := max_startC (y :: r) (by simp)
    by_cases h : x.2.1 ≤ z.2.1
    · refine ⟨[], z, y :: r, rfl, fun q hq => ?_⟩
      rcases List.mem_cons.1 hq with rfl | hq
      · exact Int.le_refl _
      · exact Int.le_trans (h2 q hq) h
    · refine ⟨z :: a, x, b, by rw [h1]; rfl, fun q hq => ?_⟩
      rcases List.mem_cons.1 hq with rfl | hq
      · omega
      · exact h2 q hq
variable [DecidableEq α]
def onC (c : α) (t : Int) (p : α × Wn) : Bool := decide (p.1 = c) && onW t p.2
/-- No class is wanted by more at one moment than it has. -/
def CapC (cap : α → Nat) (I : List (α × Wn)) : Prop := ∀ c t, I.countP (onC c t) ≤ cap c
theorem colorC {cap : α → Nat} : ∀ (n : Nat) (I : List (α × Wn)), I.length = n → (∀ p ∈ I, p.2.1 < p.2.2) → CapC cap I → ∃ P : List ((α × Wn) × Nat), P.map Prod.fst = I ∧ (∀ p ∈ P, 1 ≤ p.2 ∧ p.2 ≤ cap p.1.1) ∧ P.Pairwise ApartC
  | 0, I, hn, _, _ => by
    obtain rfl := List.length_eq_zero_iff.1 hn
    exact ⟨[], rfl, by simp, List.Pairwise.nil⟩
  | n + 1, I, hn, hw, hc => by
    obtain ⟨a, x, b, rfl, hx⟩ := max_startC I (fun e => by rw [e] at hn; cases hn)
    have hsub : ∀ w, w ∈ a ++ b → w ∈ a ++ x :: b := fun w hm => by
      rcases List.mem_append.1 hm with hm | hm
      · exact List.mem_append.2 (.inl hm)
      · exact List.mem_append.2 (.inr (List.mem_cons_of_mem _ hm))
    obtain ⟨P, h1, h2, h3⟩ := colorC (cap := cap) n (a ++ b) (by simp at hn ⊢; omega) (fun w hm => hw w (hsub w hm)) (fun c t => by
      have h := hc c t
      rw [List.countP_append, List.countP_cons] at h
      rw [List.countP_append]; omega)
    have hxx := hw x (by simp)
    have hcnt : (P.filter fun p => decide (p.1.1 = x.1) && mtW x.2 p.1.2).length < cap x.1 := by
      have e1 : (P.filter fun p => decide (p.1.1 = x.1) && mtW x.2 p.1.2).length ≤ P.countP (fun p => onC x.1 x.2.1 p.1) := by
        rw [← List.countP_eq_length_filter]
        refine List.countP_mono_left fun p hp hm => ?_
        have hp2 : p.1 ∈ a ++ b := by rw [← h1]; exact List.mem_map.2 ⟨p, hp, rfl⟩
        have h4 := hx p.1 (hsub _ hp2)
        rw [Bool.and_eq_true] at hm
        have hm2 := hm.2
        unfold mtW at hm2
        simp only [Bool.and_eq_true, decide_eq_true_eq] at hm2
        unfold onC onW
        rw [hm.1]
        simp only [Bool.and_eq_true, decide_eq_true_eq, Bool.true_and]
        omega
      have e2 : P.countP (fun p => onC x.1 x.2.1 p.1) = (a ++ b).countP (onC x.1 x.2.1) := by
        rw [← h1, List.countP_map]; rfl
      have h5 := hc x.1 x.2.1
      have h6 : onC x.1 x.2.1 x = true := by
        unfold onC onW
        simp only [Bool.and_eq_true, decide_eq_true_eq]
        exact ⟨trivial, by omega⟩
      rw [List.countP_append, List.countP_cons, if_pos h6] at h5
      rw [List.countP_append] at e2
      omega
    obtain ⟨c, c1, c2, c3⟩ := free_unit (cap x.1) ((P.filter fun p => decide (p.1.1 = x.1) && mtW x.2 p.1.2).map Prod.snd) (by rw [List.length_map]; exact hcnt)
    have ha : (P.take a.length).map Prod.fst = a := by rw [List.map_take, h1, List.take_left]
    have hb : (P.drop a.length).map Prod.fst = b := by rw [List.map_drop, h1, List.drop_left]
    refine ⟨P.take a.length ++ (x, c) :: P.drop a.length, by rw [List.map_append, List.map_cons, ha, hb], fun p hp => ?_, ?_⟩
    · rcases List.mem_append.1 hp with hp | hp
      · exact h2 p (List.mem_of_mem_take hp)
      · rcases List.mem_cons.1 hp with rfl | hp
        · exact ⟨c1, c2⟩
        · exact h2 p (List.mem_of_mem_drop hp)
    · rw [List.pairwise_middle (fun h => apartC_symm h), List.take_append_drop, List.pairwise_cons]
      refine ⟨fun p hp hk hm e => c3 ?_, h3⟩
      exact List.mem_map.2 ⟨p, List.mem_filter.2 ⟨hp, by rw [hm, Bool.and_true, decide_eq_true_eq]; exact hk.symm⟩, e.symm⟩
/-- A vehicle is with an earlier booking that is on with this one. -/
def tknW (ws : List Wn) (st : List (α × Nat)) (x : Wn) (c : α) (u : Nat) : Bool := (st.zip ws).any fun p => decide (p.1 = (c, u)) && mtW p.2 x
/-- The highest unit of a class that is given. -/
def higW (st : List (α × Nat)) (c : α) : Nat := st.foldl (fun h p => if p.1 = c then max h p.2 else h) 0
def nxtW (ws : List Wn) (st : List (α × Nat)) (x : Wn) (cs : List (CdW α)) : List (α × Nat × Nat) := cs.flatMap fun k => ((List.range' 1 (min (higW st k.1 + 1) k.2.2)).filter fun u => !tknW ws st x k.1 u).map fun u => (k.1, k.2.1, u)
/-- All ends of the search, in order, with their steps. -/
def solsW (ws : List Wn) : List (List (CdW α)) → List (α × Nat) → List (List (α × Nat) × Nat)
  | [], st => [(st, 0)]
  | cs :: r, st => (nxtW ws st (ws.getD st.length (0, 0)) cs).flatMap fun k => (solsW ws r (st ++ [(k.1, k.2.2)])).map fun o => (o.1, k.2.1 + o.2)
theorem hig_snoc (st : List (α × Nat)) (c' : α) (u : Nat) (c : α) : higW (st ++ [(c', u)]) c = if c' = c then max (higW st c) u else higW st c := by
  unfold higW
  rw [List.foldl_append]; rfl
theorem nodup_bound : ∀ (m : Nat) (l : List Nat), l.Nodup → (∀ x ∈ l, 1 ≤ x ∧ x ≤ m) → l.length ≤ m
  | 0, l, _, h => by
    cases l with
    | nil => exact Nat.le_refl _
    | cons x r => have := h x (List.mem_cons_self ..); omega
  | m + 1, l, hn, h => by
    by_cases hm : m + 1 ∈ l
    · obtain ⟨a, b, rfl⟩ := List.append_of_mem hm
      have hn2 : ((m + 1) :: (a ++ b)).Nodup := (List.pairwise_middle (fun h => Ne.symm h)).1 hn
      rw [List.nodup_cons] at hn2
      have := nodup_bound m (a ++ b) hn2.2 fun x hx => by
        have h1 := h x (by
          rcases List.mem_append.1 hx with hx | hx
          · exact List.mem_append.2 (.inl hx)
          · exact List.mem_append.2 (.inr (List.mem_cons_of_mem _ hx)))
        have h2 : x ≠ m + 1 := fun e => hn2.1 (e ▸ hx)
        omega
      simp at this ⊢
      omega
    · have := nodup_bound m l hn fun x hx => by
        have h1 := h x hx
        have h2 : x ≠ m + 1 := fun e => hm (e ▸ hx)
        omega
      omega
theorem zip_map {β γ δ : Type} (f : β → γ) (g : β → δ) (l : List δ) : ∀ T : List β, (T.map f).zip (T.map g ++ l) = T.map fun q => (f q, g q)
  | [] => rfl
  | x :: T => by simp [zip_map f g l T]
/-- What is given so far: a booking's class, its time, the vehicle it had, the vehicle it has. -/
abbrev Gn (α : Type) := ((α × Wn) × Nat) × Nat
def gst (T : List (Gn α)) : List (α × Nat) := T.map fun q => (q.1.1.1, q.2)
/-- D: the vehicles of each class, in the order in which they came up. -/
def CanW (cap : α → Nat) (T : List (Gn α)) (D : α → List Nat) : Prop := (∀ c, (D c).Nodup ∧ (∀ x ∈ D c, 1 ≤ x ∧ x ≤ cap c) ∧ higW (gst T) c = (D c).length) ∧ ∀ q ∈ T, 1 ≤ q.2 ∧ (D q.1.1.1)[q.2 - 1]? = some q.1.2
inductive FitL (cap : α → Nat) : List ((α × Wn) × Nat) → List (List (CdW α)) → List Nat → Prop
  | nil : FitL cap [] [] []
  | cons {p : (α × Wn) × Nat} {R : List ((α × Wn) × Nat)} {cs : List (CdW α)} {css : List (List (CdW α))} {s : Nat} {ss : List Nat} (h : (p.1.1, s, cap p.1.1) ∈ cs) (hr : FitL cap R css ss) : FitL cap (p :: R) (cs :: css) (s :: ss)
theorem canon_step {cap : α → Nat} {T : List (Gn α)} {D : α → List Nat} {p : (α × Wn) × Nat} {l : List Wn} (hT : CanW cap T D) (hp : 1 ≤ p.2 ∧ p.2 ≤ cap p.1.1) (ha : ∀ q ∈ T, ApartC q.1 p) : ∃ (u : Nat) (D' : α → List Nat), 1 ≤ u ∧ u ≤ min (higW (gst T) p.1.1 + 1) (cap p.1.1) ∧ tknW (T.map (fun q => q.1.1.2) ++ l) (gst T) p.1.2 p.1.1 u = false ∧ CanW cap (T ++ [(p, u)]) D' := by
  obtain ⟨hD, hq⟩ := hT
  obtain ⟨d1, d2, d3⟩ := hD p.1.1
  have htk : ∀ u, (∀ q ∈ T, q.1.1.1 = p.1.1 → q.2 = u → mtW q.1.1.2 p.1.2 = true → False) → tknW (T.map (fun q => q.1.1.2) ++ l) (gst T) p.1.2 p.1.1 u = false := fun u h => by
    unfold tknW gst
    rw [zip_map, List.any_map, List.any_eq_false]
    intro q hq2 hh
    simp only [Function.comp, Bool.and_eq_true, decide_eq_true_eq, Prod.mk.injEq] at hh
    exact h q hq2 hh.1.1 hh.1.2 hh.2
  have hgs : ∀ u, gst (T ++ [(p, u)]) = gst T ++ [(p.1.1, u)] := fun u => by unfold gst; simp
  have hlen := nodup_bound _ _ d1 d2
  by_cases hf : p.2 ∈ D p.1.1
  · obtain ⟨i, hi⟩ := List.getElem?_of_mem hf
    have hil := (List.getElem?_eq_some_iff.1 hi).1
    refine ⟨i + 1, D, by omega, by rw [d3]; omega, htk _ fun q hq2 h1 h2 h3 => ?_, fun c => ?_, fun q hq2 => ?_⟩
    · obtain ⟨_, k2⟩ := hq q hq2
      rw [h1, h2, Nat.add_sub_cancel, hi] at k2
      exact ha q hq2 h1 h3 (Option.some.inj k2).symm
    · obtain ⟨e1, e2, e3⟩ := hD c
      refine ⟨e1, e2, ?_⟩
      rw [hgs, hig_snoc]
      split
      · rename_i hc
        rw [e3, ← hc]; omega
      · exact e3
    · rcases List.mem_append.1 hq2 with hq2 | hq2
      · exact hq q hq2
      · rw [List.mem_singleton.1 hq2]
        exact ⟨by dsimp only; omega, by dsimp only; rw [Nat.add_sub_cancel]; exact hi⟩
  · have hnd : (D p.1.1 ++ [p.2]).Nodup := by
      rw [List.nodup_append]
      refine ⟨d1, by simp, fun a ha2 b hb2 e => ?_⟩
      rw [List.mem_singleton] at hb2
      subst hb2; subst e
      exact hf ha2
    have hlen2 := nodup_bound _ _ hnd fun x hx => by
      rcases List.mem_append.1 hx with hx | hx
      · exact d2 x hx
      · rw [List.mem_singleton.1 hx]; exact hp
    rw [List.length_append, List.length_singleton] at hlen2
    refine ⟨(D p.1.1).length + 1, fun c => if c = p.1.1 then D c ++ [p.2] else D c, by omega, by rw [d3]; omega, htk _ fun q hq2 h1 h2 h3 => ?_, fun c => ?_, fun q hq2 => ?_⟩
    · obtain ⟨_, k2⟩ := hq q hq2
      rw [h1, h2, Nat.add_sub_cancel, List.getElem?_eq_none (Nat.le_refl _)] at k2
      cases k2
    · by_cases hc : c = p.1.1
      · subst hc
        dsimp only
        rw [if_pos rfl]
        refine ⟨hnd, fun x hx => ?_, ?_⟩
        · rcases List.mem_append.1 hx with hx | hx
          · exact d2 x hx
          · rw [List.mem_singleton.1 hx]; exact hp
        · rw [hgs, hig_snoc, if_pos rfl, d3, List.length_append, List.length_singleton]; omega
      · obtain ⟨e1, e2, e3⟩ := hD c
        dsimp only
        rw [if_neg hc]
        refine ⟨e1, e2, ?_⟩
        rw [hgs, hig_snoc, if_neg (fun e => hc e.symm)]; exact e3
    · rcases List.mem_append.1 hq2 with hq2 | hq2
      · obtain ⟨k1, k2⟩ := hq q hq2
        refine ⟨k1, ?_⟩
        dsimp only
        split
        · have := (List.getElem?_eq_some_iff.1 k2).1
          rw [List.getElem?_append_left this]; exact k2
        · exact k2
      · rw [List.mem_singleton.1 hq2]
        dsimp only
        rw [if_pos rfl, Nat.add_sub_cancel]
        exact ⟨by omega, by simp⟩
/-- Where the classes have room, the search comes to an end with them. -/
theorem canon {cap : α → Nat} : ∀ (R : List ((α × Wn) × Nat)) (css : List (List (CdW α))) (ss : List Nat) (T : List (Gn α)) (D : α → List Nat), FitL cap R css ss → CanW cap T D → (T.map Prod.fst ++ R).Pairwise ApartC → (∀ p ∈ R, 1 ≤ p.2 ∧ p.2 ≤ cap p.1.1) → ∃ o, (o, ss.sum) ∈ solsW (T.map (fun q => q.1.1.2) ++ R.map fun p => p.1.2) css (gst T) ∧ o.map Prod.fst = T.map (fun q => q.1.1.1) ++ R.map fun p => p.1.1
  | _, _, _, T, D, .nil, _, _, _ => ⟨gst T, by simp [solsW], by unfold gst; simp⟩
  | p :: R, cs :: css, s :: ss, T, D, .cons h hr, hT, ha, hb => by
    have hap : ∀ q ∈ T, ApartC q.1 p := fun q hq => (List.pairwise_append.1 ha).2.2 q.1 (List.mem_map.2 ⟨q, hq, rfl⟩) p (List.mem_cons_self ..)
    obtain ⟨u, D', u1, u2, u3, u4⟩ := canon_step (l := (p :: R).map fun p => p.1.2) hT (hb p (List.mem_cons_self ..)) hap
    obtain ⟨o, o1, o2⟩ := canon R css ss (T ++ [(p, u)]) D' hr u4 (by
      rw [List.map_append, List.append_assoc]; exact ha) fun q hq => hb q (List.mem_cons_of_mem _ hq)
    have hgs : gst (T ++ [(p, u)]) = gst T ++ [(p.1.1, u)] := by unfold gst; simp
    have hws : (T ++ [(p, u)]).map (fun q => q.1.1.2) ++ (R.map fun p => p.1.2) = T.map (fun q => q.1.1.2) ++ (p :: R).map fun p => p.1.2 := by simp
    rw [hgs, hws] at o1
    refine ⟨o, ?_, by rw [o2]; simp⟩
    unfold solsW
    have hx : (T.map (fun q => q.1.1.2) ++ (p :: R).map fun p => p.1.2).getD (gst T).length (0, 0) = p.1.2 := by
      unfold gst
      rw [List.getD_eq_getElem?_getD, List.length_map, List.getElem?_append_right (by simp)]
      simp
    rw [hx, List.mem_flatMap]
    refine ⟨(p.1.1, s, u), ?_, ?_⟩
    · unfold nxtW
      rw [List.mem_flatMap]
      refine ⟨_, h, List.mem_map.2 ⟨u, List.mem_filter.2 ⟨?_, by rw [u3]; rfl⟩, rfl⟩⟩
      rw [List.mem_range'_1]
      dsimp only
      omega
    · rw [List.sum_cons]
      exact List.mem_map.2 ⟨(o, ss.sum), o1, rfl⟩
/-- The whole: bookings with classes that have room. -/
theorem canon_all {cap : α → Nat} {I : List (α × Wn)} {css : List (List (CdW α))} {ss : List Nat} (hw : ∀ p ∈ I, p.2.1 < p.2.2) (hc : CapC cap I) (hf : ∀ P : List ((α × Wn) × Nat), P.map Prod.fst = I → FitL cap P css ss) : ∃ o, (o, ss.sum) ∈ solsW (I.map Prod.snd) css [] ∧ o.map Prod.fst = I.map Prod.fst := by
  obtain ⟨P, h1, h2, h3⟩ := colorC _ I rfl hw hc
  obtain ⟨o, o1, o2⟩ := canon P css ss [] (fun _ => []) (hf P h1) ⟨fun c => ⟨List.Pairwise.nil, (fun x hx => by cases hx), rfl⟩, (fun q hq => by cases hq)⟩ h3 h2
  refine ⟨o, ?_, ?_⟩
  · have e : P.map (fun p => p.1.2) = I.map Prod.snd := by rw [← h1, List.map_map]; rfl
    rw [← e]; exact o1
  · rw [o2, ← h1, List.map_map]; rfl
end
end Go.Proofs.YtempjmpfdniecaaGreatDoor
namespace Go.Proofs.YtempjmpfdniecaaGreatDoor
section
variable {α : Type} [DecidableEq α]
def cuW (q : (α × Wn) × Nat) : α × Nat := (q.1.1, q.2)
def wnW (q : (α × Wn) × Nat) : Wn := q.1.2
def PropW (cap : α → Nat) (P : List ((α × Wn) × Nat)) : Prop := (∀ p ∈ P, 1 ≤ p.2 ∧ p.2 ≤ cap p.1.1) ∧ P.Pairwise ApartC
/-- Who has vehicles has room. -/
theorem cap_of {cap : α → Nat} {P : List ((α × Wn) × Nat)} (h : PropW cap P) : CapC cap (P.map Prod.fst) := fun c t => by
  obtain ⟨hb, ha⟩ := h
  have e : (P.map Prod.fst).countP (onC c t) = ((P.filter fun p => onC c t p.1).map Prod.snd).length := by
    rw [List.countP_map, List.countP_eq_length_filter, List.length_map]; rfl
  rw [e]
  refine nodup_bound _ _ ?_ fun x hx => ?_
  · rw [List.Nodup, List.pairwise_map]
    have h1 := List.Pairwise.filter (fun p => onC c t p.1) ha
    refine List.Pairwise.imp_of_mem (fun {p q} hp hq hpq => ?_) h1
    have hp := (List.mem_filter.1 hp).2
    have hq := (List.mem_filter.1 hq).2
    unfold onC onW at hp hq
    simp only [Bool.and_eq_true, decide_eq_true_eq] at hp hq
    refine hpq (hp.1.trans hq.1.symm) ?_
    unfold mtW
    simp only [Bool.and_eq_true, decide_eq_true_eq]
    omega
  · obtain ⟨p, hp, rfl⟩ := List.mem_map.1 hx
    obtain ⟨h1, h2⟩ := List.mem_filter.1 hp
    unfold onC at h2
    simp only [Bool.and_eq_true, decide_eq_true_eq] at h2
    rw [← h2.1]
    exact hb p h1
theorem sols_P {cap : α → Nat} : ∀ (xs : List Wn) (css : List (List (CdW α))) (P : List ((α × Wn) × Nat)) (o : List (α × Nat)) (t : Nat), xs.length = css.length → (∀ cs ∈ css, ∀ k ∈ cs, k.2.2 = cap k.1) → PropW cap P → (o, t) ∈ solsW (P.map wnW ++ xs) css (P.map cuW) → ∃ Q ss, FitL cap Q css ss ∧ t = ss.sum ∧ o = (P ++ Q).map cuW ∧ Q.map wnW = xs ∧ PropW cap (P ++ Q)
  | [], [], P, o, t, _, _, hP, h => by
    unfold solsW at h
    rw [List.mem_singleton, Prod.mk.injEq] at h
    exact ⟨[], [], .nil, h.2, by rw [List.append_nil]; exact h.1, rfl, by rw [List.append_nil]; exact hP⟩
  | x :: xs, cs :: css, P, o, t, hl, hk, hP, h => by
    unfold solsW at h
    have hx : (P.map wnW ++ x :: xs).getD (P.map cuW).length (0, 0) = x := by
      rw [List.getD_eq_getElem?_getD, List.length_map, List.getElem?_append_right (by simp)]
      simp
    rw [hx, List.mem_flatMap] at h
    obtain ⟨⟨c, s, u⟩, h1, h2⟩ := h
    obtain ⟨⟨o', t'⟩, h3, h4⟩ := List.mem_map.1 h2
    rw [Prod.mk.injEq] at h4
    dsimp only at h3 h4
    obtain ⟨rfl, rfl⟩ := h4
    unfold nxtW at h1
    rw [List.mem_flatMap] at h1
    obtain ⟨k, k1, k2⟩ := h1
    obtain ⟨u', k3, k4⟩ := List.mem_map.1 k2
    simp only [Prod.mk.injEq] at k4
    obtain ⟨rfl, rfl, rfl⟩ := k4
    obtain ⟨k5, k6⟩ := List.mem_filter.1 k3
    rw [List.mem_range'_1] at k5
    have hc := hk cs (List.mem_cons_self ..) k k1
    have hP2 : PropW cap (P ++ [((k.1, x), u')]) := by
      refine ⟨fun p hp => ?_, ?_⟩
      · rcases List.mem_append.1 hp with hp | hp
        · exact hP.1 p hp
        · rw [List.mem_singleton.1 hp]
          dsimp only
          omega
      · rw [List.pairwise_append]
        refine ⟨hP.2, List.pairwise_singleton _ _, fun p hp q hq => ?_⟩
        rw [List.mem_singleton.1 hq]
        intro e1 e2 e3
        dsimp only at e1 e2 e3
        have k7 : tknW (P.map wnW ++ x :: xs) (P.map cuW) x k.1 u' = true := by
          unfold tknW
          rw [zip_map, List.any_map, List.any_eq_true]
          refine ⟨p, hp, ?_⟩
          simp only [Function.comp, Bool.and_eq_true, decide_eq_true_eq]
          refine ⟨?_, e2⟩
          unfold cuW
          rw [e1, e3]
        rw [k7] at k6
        cases k6
    have hcu : (P ++ [((k.1, x), u')]).map cuW = P.map cuW ++ [(k.1, u')] := by simp [cuW]
    have hwn : (P ++ [((k.1, x), u')]).map wnW ++ xs = P.map wnW ++ x :: xs := by simp [wnW]
    obtain ⟨Q, ss, q1, q2, q3, q4, q5⟩ := sols_P xs css (P ++ [((k.1, x), u')]) o' t' (by simpa using hl) (fun cs hcs => hk cs (List.mem_cons_of_mem _ hcs)) hP2 (by rw [hcu, hwn]; exact h3)
    refine ⟨((k.1, x), u') :: Q, k.2.1 :: ss, .cons ?_ q1, by rw [List.sum_cons, q2], by rw [q3]; simp, by rw [List.map_cons, q4]; rfl, by rw [List.append_assoc] at q5; exact q5⟩
    show (k.1, k.2.1, cap k.1) ∈ cs
    rw [← hc]; exact k1
omit [DecidableEq α] in
theorem fit_congr {cap : α → Nat} : ∀ {Q P : List ((α × Wn) × Nat)} {css : List (List (CdW α))} {ss : List Nat}, FitL cap Q css ss → P.map Prod.fst = Q.map Prod.fst → FitL cap P css ss
  | [], [], _, _, .nil, _ => .nil
  | q :: Q, p :: P, _, _, .cons h hr, e => by
    rw [List.map_cons, List.map_cons] at e
    injection e with e1 e2
    exact .cons (by rw [e1]; exact h) (fit_congr hr e2)
/-- The steps of the ends are the steps of the divisions of classes that have room. -/
theorem sols_iff {cap : α → Nat} {xs : List Wn} {css : List (List (CdW α))} (hl : xs.length = css.length) (hw : ∀ x ∈ xs, x.1 < x.2) (hk : ∀ cs ∈ css, ∀ k ∈ cs, k.2.2 = cap k.1) (t : Nat) : (∃ o, (o, t) ∈ solsW xs css []) ↔ ∃ Q ss, FitL cap Q css ss ∧ t = ss.sum ∧ Q.map wnW = xs ∧ CapC cap (Q.map Prod.fst) := by
  constructor
  · rintro ⟨o, h⟩
    obtain ⟨Q, ss, q1, q2, _, q4, q5⟩ := sols_P (cap := cap) xs css [] o t hl hk ⟨(fun p hp => by cases hp), List.Pairwise.nil⟩ h
    exact ⟨Q, ss, q1, q2, q4, cap_of q5⟩
  · rintro ⟨Q, ss, q1, rfl, rfl, q4⟩
    have e : (Q.map Prod.fst).map Prod.snd = Q.map wnW := by rw [List.map_map]; rfl
    obtain ⟨o, o1, _⟩ := canon_all (cap := cap) (I := Q.map Prod.fst) (css := css) (ss := ss) (fun p hp => hw p.2 (by rw [← e]; exact List.mem_map.2 ⟨p, hp, rfl⟩)) q4 fun P hP => fit_congr q1 hP
    rw [e] at o1
    exact ⟨o, o1⟩
/-- The document's search: the first end with as many steps. -/
def fillW (ws : List Wn) : List (List (CdW α)) → List (α × Nat) → Nat → Option (List (α × Nat))
  | [], st, left => if left = 0 then some st else none
  | cs :: r, st, left => (nxtW ws st (ws.getD st.length (0, 0)) cs).findSome? fun k => if left < k.2.1 then none else fillW ws r (st ++ [(k.1, k.2.2)]) (left - k.2.1)
theorem fill_find {ws : List Wn} : ∀ (css : List (List (CdW α))) (st : List (α × Nat)) (left : Nat), fillW ws css st left = ((solsW ws css st).find? fun o => decide (o.2 = left)).map Prod.fst
  | [], st, left => by
    unfold fillW solsW
    by_cases h : left = 0
    · subst h; simp
    · rw [if_neg h, List.find?_cons_of_neg (by simpa using fun e => h e.symm)]; rfl
  | cs :: r, st, left => by
    unfold fillW solsW
    rw [List.find?_flatMap, List.map_findSome?]
    congr 1
    funext k
    rw [Function.comp, List.find?_map]
    by_cases h : left < k.2.1
    · rw [if_pos h]
      have e : (fun o : List (α × Nat) × Nat => decide (o.2 = left)) ∘ (fun o : List (α × Nat) × Nat => (o.1, k.2.1 + o.2)) = fun _ => false := by
        funext o
        simp only [Function.comp, decide_eq_false_iff_not]
        omega
      rw [e, show ((solsW ws r (st ++ [(k.1, k.2.2)])).find? fun _ => false) = none from List.find?_eq_none.2 (by simp)]; rfl
    · rw [if_neg h, fill_find r]
      have e : (fun o : List (α × Nat) × Nat => decide (o.2 = left)) ∘ (fun o : List (α × Nat) × Nat => (o.1, k.2.1 + o.2)) = fun o : List (α × Nat) × Nat => decide (o.2 = left - k.2.1) := by
        funext o
        simp only [Function.comp, decide_eq_decide]
        omega
      rw [e, Option.map_map]; rfl
def headW (cs : List (CdW α)) : Nat := (cs.head?.map fun k => k.2.1).getD 0
/-- The least steps of the bookings to come. -/
def restW : List (List (CdW α)) → Nat
  | [] => 0
  | cs :: r => headW cs + restW r
def unitsW (ws : List Wn) (F : List (α × Nat) → Wn → CdW α → Bool) : List (List (CdW α)) → List (α × Nat) → Nat → Option (List (α × Nat))
  | [], st, _ => some st
  | cs :: r, st, left => if left < restW (cs :: r) then none else cs.findSome? fun k => if left < k.2.1 + restW r then none else if F st (ws.getD st.length (0, 0)) k = false then none else
    (List.range' 1 (min (higW st k.1 + 1) k.2.2)).findSome? fun u => if tknW ws st (ws.getD st.length (0, 0)) k.1 u = true then none else unitsW ws F r (st ++ [(k.1, u)]) (left - k.2.1)
omit [DecidableEq α] in
theorem fs_filter {β γ δ : Type} {p : β → Bool} {f : β → γ} {g : γ → Option δ} : ∀ l : List β, ((l.filter p).map f).findSome? g = l.findSome? fun u => if p u = true then g (f u) else none
  | [] => rfl
  | x :: l => by
    cases h : p x with
    | true =>
      rw [List.filter_cons_of_pos h, List.map_cons, List.findSome?_cons, List.findSome?_cons, h, if_pos rfl, fs_filter l]
    | false =>
      rw [List.filter_cons_of_neg (by rw [h]; decide), List.findSome?_cons, h, fs_filter l]; rfl
omit [DecidableEq α] in
theorem fs_flat {β γ δ : Type} {f : β → List γ} {g : γ → Option δ} : ∀ l : List β, (l.flatMap f).findSome? g = l.findSome? fun x => (f x).findSome? g
  | [] => rfl
  | x :: l => by
    rw [List.flatMap_cons, List.findSome?_append, List.findSome?_cons, fs_flat l]
    cases (f x).findSome? g <;> rfl
omit [DecidableEq α] in
theorem fs_none {β γ : Type} {f : β → Option γ} {l : List β} (h : ∀ x ∈ l, f x = none) : l.findSome? f = none := List.findSome?_eq_none_iff.2 h
omit [DecidableEq α] in
theorem fs_congr {β γ : Type} {f g : β → Option γ} : ∀ {l : List β}, (∀ x ∈ l, f x = g x) → l.findSome? f = l.findSome? g
  | [], _ => rfl
  | x :: l, h => by
    rw [List.findSome?_cons, List.findSome?_cons, h x (List.mem_cons_self ..), fs_congr fun y hy => h y (List.mem_cons_of_mem _ hy)]
theorem sols_ge {ws : List Wn} : ∀ (css : List (List (CdW α))) (st : List (α × Nat)), (∀ cs ∈ css, ∀ k ∈ cs, headW cs ≤ k.2.1) → ∀ o ∈ solsW ws css st, restW css ≤ o.2
  | [], st, _, o, h => Nat.zero_le _
  | cs :: r, st, hh, o, h => by
    unfold solsW at h
    rw [List.mem_flatMap] at h
    obtain ⟨k, h1, h2⟩ := h
    obtain ⟨o', h3, rfl⟩ := List.mem_map.1 h2
    unfold nxtW at h1
    rw [List.mem_flatMap] at h1
    obtain ⟨k', k1, k2⟩ := h1
    obtain ⟨u, _, rfl⟩ := List.mem_map.1 k2
    have i1 := hh cs (List.mem_cons_self ..) k' k1
    have i2 := sols_ge r _ (fun cs hcs => hh cs (List.mem_cons_of_mem _ hcs)) o' h3
    show headW cs + restW r ≤ k'.2.1 + o'.2
    omega
/-- Where no end has fewer steps, the first with no more is the first with as many. -/
theorem find_least {β : Type} {l : List (β × Nat)} {n : Nat} (h : ∀ o ∈ l, n ≤ o.2) : (l.find? fun o => decide (o.2 ≤ n)) = l.find? fun o => decide (o.2 = n) := by
  induction l with
  | nil => rfl
  | cons x l ih =>
    have h1 := h x (List.mem_cons_self ..)
    rw [List.find?_cons, List.find?_cons, ih fun o ho => h o (List.mem_cons_of_mem _ ho)]
    rw [show decide (x.2 ≤ n) = decide (x.2 = n) from by rw [decide_eq_decide]; omega]
end
end Go.Proofs.YtempjmpfdniecaaGreatDoor
namespace Go.Proofs.YtempjmpfdniecaaGreatDoor
section
variable {α : Type} [DecidableEq α]
/-- A booking that wants a class: its time, what it may get; and what it gets. -/
abbrev ItW (α : Type) := Wn × List (CdW α)
abbrev KiW (α : Type) := ItW α × CdW α
def plW2 (p : KiW α) : α × Wn := (p.2.1, p.1.1)
/-- A division of classes that has room, with so many steps. -/
def DivE (cap : α → Nat) (pl : List (α × Wn)) (items : List (ItW α)) (t : Nat) : Prop := ∃ K : List (KiW α), K.map Prod.fst = items ∧ (∀ p ∈ K, p.2 ∈ p.1.2) ∧ t = (K.map fun p => p.2.2.1).sum ∧ CapC cap (pl ++ K.map plW2)
def allT (F : List (α × Wn) → Wn → CdW α → Bool) : List (ItW α) → List (α × Wn) → List Nat
  | [], _ => [0]
  | it :: r, pl => it.2.flatMap fun k => if F pl it.1 k = true then (allT F r (pl ++ [(k.1, it.1)])).map fun t => k.2.1 + t else []
theorem cap_mono {cap : α → Nat} {a b : List (α × Wn)} (h : CapC cap (a ++ b)) : CapC cap a := fun c t => by
  have := h c t
  rw [List.countP_append] at this
  omega
theorem perm_lift {β γ : Type} {f : β → γ} : ∀ {a b : List γ}, a.Perm b → ∀ K : List β, K.map f = a → ∃ K', K'.map f = b ∧ K.Perm K'
  | _, _, .nil, K, h => ⟨K, h, List.Perm.refl _⟩
  | _, _, .cons x h, K, e => by
    cases K with
    | nil => cases e
    | cons p K =>
      rw [List.map_cons] at e
      injection e with e1 e2
      obtain ⟨K', k1, k2⟩ := perm_lift h K e2
      exact ⟨p :: K', by rw [List.map_cons, k1, e1], k2.cons p⟩
  | _, _, .swap x y l, K, e => by
    cases K with
    | nil => cases e
    | cons p K =>
      cases K with
      | nil => rw [List.map_cons] at e; injection e with _ e; cases e
      | cons q K =>
        rw [List.map_cons, List.map_cons] at e
        injection e with e1 e2
        injection e2 with e2 e3
        exact ⟨q :: p :: K, by rw [List.map_cons, List.map_cons, e1, e2, e3], List.Perm.swap ..⟩
  | _, _, .trans h1 h2, K, e => by
    obtain ⟨K1, k1, k2⟩ := perm_lift h1 K e
    obtain ⟨K2, k3, k4⟩ := perm_lift h2 K1 k1
    exact ⟨K2, k3, k2.trans k4⟩
omit [DecidableEq α] in
theorem sum_perm {a b : List Nat} (h : a.Perm b) : a.sum = b.sum := by
  induction h with
  | nil => rfl
  | cons x _ ih => rw [List.sum_cons, List.sum_cons, ih]
  | swap x y l => simp only [List.sum_cons]; omega
  | trans _ _ i1 i2 => exact i1.trans i2
/-- The order of the bookings does not matter. -/
theorem div_perm {cap : α → Nat} {a b : List (ItW α)} (h : a.Perm b) {t : Nat} (ha : DivE cap [] a t) : DivE cap [] b t := by
  obtain ⟨K, h1, h2, h3, h4⟩ := ha
  obtain ⟨K', k1, k2⟩ := perm_lift h K h1
  refine ⟨K', k1, fun p hp => h2 p (k2.mem_iff.2 hp), by rw [h3]; exact sum_perm (k2.map _), fun c t => ?_⟩
  have := h4 c t
  rw [List.nil_append] at this ⊢
  rw [← (k2.map plW2).countP_eq]
  exact this
omit [DecidableEq α] in
theorem fit_div {cap : α → Nat} : ∀ {Q : List ((α × Wn) × Nat)} {css : List (List (CdW α))} {ss : List Nat}, FitL cap Q css ss → ∃ K : List (KiW α), K.map Prod.fst = (Q.map wnW).zip css ∧ (∀ p ∈ K, p.2 ∈ p.1.2) ∧ ss.sum = (K.map fun p => p.2.2.1).sum ∧ K.map plW2 = Q.map Prod.fst
  | [], _, _, .nil => ⟨[], rfl, (fun p hp => by cases hp), rfl, rfl⟩
  | q :: Q, cs :: css, s :: ss, .cons h hr => by
    obtain ⟨K, h1, h2, h3, h4⟩ := fit_div hr
    refine ⟨((q.1.2, cs), (q.1.1, s, cap q.1.1)) :: K, by rw [List.map_cons, h1]; rfl, fun p hp => ?_, by rw [List.map_cons, List.sum_cons, List.sum_cons, h3], by rw [List.map_cons, List.map_cons, h4]; rfl⟩
    rcases List.mem_cons.1 hp with rfl | hp
    · exact h
    · exact h2 p hp
omit [DecidableEq α] in
theorem div_fit {cap : α → Nat} : ∀ (xs : List Wn) (css : List (List (CdW α))) (K : List (KiW α)), xs.length = css.length → (∀ cs ∈ css, ∀ k ∈ cs, k.2.2 = cap k.1) → K.map Prod.fst = xs.zip css → (∀ p ∈ K, p.2 ∈ p.1.2) → ∃ Q, FitL cap Q css (K.map fun p => p.2.2.1) ∧ Q.map wnW = xs ∧ Q.map Prod.fst = K.map plW2
  | [], [], K, _, _, e, _ => by
    rw [List.zip_nil_left, List.map_eq_nil_iff] at e
    subst e
    exact ⟨[], .nil, rfl, rfl⟩
  | x :: xs, cs :: css, K, hl, hk, e, h => by
    cases K with
    | nil => cases e
    | cons p K =>
      rw [List.map_cons, List.zip_cons_cons] at e
      injection e with e1 e2
      obtain ⟨Q, q1, q2, q3⟩ := div_fit xs css K (by simpa using hl) (fun c hc => hk c (List.mem_cons_of_mem _ hc)) e2 fun q hq => h q (List.mem_cons_of_mem _ hq)
      have hp := h p (List.mem_cons_self ..)
      rw [e1] at hp
      have hc := hk cs (List.mem_cons_self ..) p.2 hp
      refine ⟨((p.2.1, x), 0) :: Q, ?_, by rw [List.map_cons, q2]; rfl, by rw [List.map_cons, List.map_cons, q3]; unfold plW2; rw [e1]⟩
      refine .cons ?_ q1
      show (p.2.1, p.2.2.1, cap p.2.1) ∈ cs
      rw [← hc]; exact hp
/-- The ends of the search have the steps of the divisions. -/
theorem sols_div {cap : α → Nat} {xs : List Wn} {css : List (List (CdW α))} (hl : xs.length = css.length) (hw : ∀ x ∈ xs, x.1 < x.2) (hk : ∀ cs ∈ css, ∀ k ∈ cs, k.2.2 = cap k.1) (t : Nat) : (∃ o, (o, t) ∈ solsW xs css []) ↔ DivE cap [] (xs.zip css) t := by
  rw [sols_iff hl hw hk]
  constructor
  · rintro ⟨Q, ss, q1, rfl, rfl, q4⟩
    obtain ⟨K, k1, k2, k3, k4⟩ := fit_div q1
    exact ⟨K, k1, k2, k3, by rw [List.nil_append, k4]; exact q4⟩
  · rintro ⟨K, k1, k2, k3, k4⟩
    obtain ⟨Q, q1, q2, q3⟩ := div_fit xs css K hl hk k1 k2
    exact ⟨Q, _, q1, k3, q2, by rw [q3]; rw [List.nil_append] at k4; exact k4⟩
def minO : Option Nat → List Nat → Option Nat
  | b, [] => b
  | none, x :: l => minO (some x) l
  | some y, x :: l => minO (some (min y x)) l
theorem minO_app : ∀ (a : List Nat) (b : Option Nat) (c : List Nat), minO b (a ++ c) = minO (minO b a) c
  | [], _, _ => by
    rw [List.nil_append]
    cases ‹Option Nat› <;> rfl
  | x :: a, none, c => by rw [List.cons_append, minO, minO]; exact minO_app a _ c
  | x :: a, some y, c => by rw [List.cons_append, minO, minO]; exact minO_app a _ c
theorem minO_ge : ∀ (l : List Nat) (y : Nat), (∀ x ∈ l, y ≤ x) → minO (some y) l = some y
  | [], _, _ => rfl
  | x :: l, y, h => by
    rw [minO, Nat.min_eq_left (h x (List.mem_cons_self ..))]
    exact minO_ge l y fun z hz => h z (List.mem_cons_of_mem _ hz)
theorem minO_some : ∀ (l : List Nat) (y : Nat), ∃ m, minO (some y) l = some m ∧ m ≤ y ∧ (∀ x ∈ l, m ≤ x) ∧ (m = y ∨ m ∈ l)
  | [], y => ⟨y, rfl, Nat.le_refl _, (fun x hx => by cases hx), .inl rfl⟩
  | x :: l, y => by
    obtain ⟨m, h1, h2, h3, h4⟩ := minO_some l (min y x)
    refine ⟨m, h1, by omega, fun z hz => ?_, ?_⟩
    · rcases List.mem_cons.1 hz with rfl | hz
      · omega
      · exact h3 z hz
    · rcases h4 with h4 | h4
      · by_cases h : y ≤ x
        · exact .inl (by omega)
        · exact .inr (by rw [h4, Nat.min_eq_right (by omega)]; exact List.mem_cons_self ..)
      · exact .inr (List.mem_cons_of_mem _ h4)
/-- The least of a list: none of none. -/
theorem minO_none (l : List Nat) : (l = [] ∧ minO none l = none) ∨ ∃ m, minO none l = some m ∧ m ∈ l ∧ ∀ x ∈ l, m ≤ x := by
  cases l with
  | nil => exact .inl ⟨rfl, rfl⟩
  | cons x l =>
    obtain ⟨m, h1, h2, h3, h4⟩ := minO_some l x
    refine .inr ⟨m, h1, ?_, fun z hz => ?_⟩
    · rcases h4 with rfl | h4
      · exact List.mem_cons_self ..
      · exact List.mem_cons_of_mem _ h4
    · rcases List.mem_cons.1 hz with rfl | hz
      · exact h2
      · exact h3 z hz
def restI : List (ItW α) → Nat
  | [] => 0
  | it :: r => headW it.2 + restI r
def stopW (best : Option Nat) (n : Nat) : Bool := match best with
  | none => false
  | some b => decide (b ≤ n)
/-- The program's search for the least. -/
def bbW (F : List (α × Wn) → Wn → CdW α → Bool) : List (ItW α) → List (α × Wn) → Nat → Option Nat → Option Nat
  | items, pl, used, best => if stopW best (used + restI items) = true then best else
    match items with
    | [] => some used
    | it :: r => it.2.foldl (fun best k => if F pl it.1 k = true then bbW F r (pl ++ [(k.1, it.1)]) (used + k.2.1) best else best) best
omit [DecidableEq α] in
theorem allT_ge {F : List (α × Wn) → Wn → CdW α → Bool} : ∀ (items : List (ItW α)) (pl : List (α × Wn)), (∀ it ∈ items, ∀ k ∈ it.2, headW it.2 ≤ k.2.1) → ∀ t ∈ allT F items pl, restI items ≤ t
  | [], _, _, t, _ => Nat.zero_le _
  | it :: r, pl, hh, t, h => by
    unfold allT at h
    rw [List.mem_flatMap] at h
    obtain ⟨k, k1, k2⟩ := h
    split at k2
    · obtain ⟨t', t1, rfl⟩ := List.mem_map.1 k2
      have i1 := hh it (List.mem_cons_self ..) k k1
      have i2 := allT_ge r _ (fun i hi => hh i (List.mem_cons_of_mem _ hi)) t' t1
      show headW it.2 + restI r ≤ k.2.1 + t'
      omega
    · cases k2
omit [DecidableEq α] in
theorem bb_min {F : List (α × Wn) → Wn → CdW α → Bool} : ∀ (items : List (ItW α)) (pl : List (α × Wn)) (used : Nat) (best : Option Nat), (∀ it ∈ items, ∀ k ∈ it.2, headW it.2 ≤ k.2.1) → bbW F items pl used best = minO best ((allT F items pl).map fun t => used + t)
  | items, pl, used, best, hh => by
    unfold bbW
    split
    · rename_i hb
      cases best with
      | none => cases hb
      | some b =>
        have hb2 : b ≤ used + restI items := by simpa [stopW] using hb
        refine (minO_ge _ b fun x hx => ?_).symm
        obtain ⟨t, ht, rfl⟩ := List.mem_map.1 hx
        have := allT_ge items pl hh t ht
        omega
    · rename_i hb
      cases items with
      | nil =>
        unfold allT
        cases best with
        | none => rfl
        | some b =>
          have hb2 : ¬ b ≤ used := fun h => hb (decide_eq_true (show b ≤ used + 0 from h))
          show some used = some (min b (used + 0))
          rw [Nat.min_eq_right (by omega)]; rfl
      | cons it r =>
        unfold allT
        have hr := fun pl' used' best' => bb_min (F := F) r pl' used' best' fun i hi => hh i (List.mem_cons_of_mem _ hi)
        dsimp only
        clear hb
        generalize it.2 = cs
        induction cs generalizing best with
        | nil => cases best <;> rfl
        | cons k cs ih =>
          rw [List.foldl_cons, ih, List.flatMap_cons, List.map_append, minO_app]
          congr 1
          split
          · rw [hr, List.map_map]
            congr 1
            refine List.map_congr_left fun t _ => ?_
            simp only [Function.comp]
            omega
          · cases best <;> rfl
end
end Go.Proofs.YtempjmpfdniecaaGreatDoor
namespace Go.Proofs.YtempjmpfdniecaaGreatDoor
open Go.RowKit
section
variable {α : Type} [DecidableEq α]
omit [DecidableEq α] in
theorem busy_spec {T : List (Int × Int)} {a b : Int} (hab : a < b) : (∀ s, a ≤ s → s < b → ((onT T s : Nat) : Int) ≤ (busyT T a b).1) ∧ ∃ s, a ≤ s ∧ s < b ∧ (busyT T a b).1 = ((onT T s : Nat) : Int) := by
  have hs : ∀ x, x ∈ sortI (a :: frsM a b T) → a ≤ x ∧ x < b := fun x hx => by
    rw [sortI_mem] at hx
    rcases List.mem_cons.1 hx with rfl | hx
    · omega
    · have := frsM_mem.1 hx
      obtain ⟨t, _, h1, h2⟩ := this
      omega
  obtain ⟨t1, t2, t3⟩ := busyF_all (f := onT T) (sortI_pair (a :: frsM a b T)) (by rw [sortI_len]; simp)
  have e : busyT T a b = busyF (onT T) (sortI (a :: frsM a b T)) := rfl
  rw [← e] at t1 t2 t3
  refine ⟨fun s h1 h2 => ?_, _, (hs _ t1).1, (hs _ t1).2, t2.symm⟩
  by_cases h0 : 0 < onT T s
  · obtain ⟨t, ht, k1, k2⟩ := onT_dom h0
    by_cases k : t.1 < a
    · have h3 := (t3 a (sortI_mem.2 (List.mem_cons_self ..))).1
      have h4 := k2 a (by omega) h1
      omega
    · have h3 := (t3 t.1 (sortI_mem.2 (List.mem_cons_of_mem _ (frsM_mem.2 ⟨t, ht, rfl, by omega⟩)))).1
      have h4 := k2 t.1 (Int.le_refl _) k1
      omega
  · have h3 := (t3 a (sortI_mem.2 (List.mem_cons_self ..))).1
    omega
omit [DecidableEq α] in
theorem onT_onW (T : List (Int × Int)) (t : Int) : onT T t = T.countP (onW t) := by
  unfold onT
  refine List.countP_congr fun u _ => ?_
  unfold onW
  rw [inB_iff]
  simp only [Bool.and_eq_true, decide_eq_true_eq]
  omega
/-- The times of those of a class that meet a window. -/
def timC (pl : List (α × Wn)) (x : Wn) (c : α) : List Wn := (pl.filter fun p => decide (p.1 = c) && mtW p.2 x).map Prod.snd
def roomF (pl : List (α × Wn)) (x : Wn) (k : CdW α) : Bool := decide ((busyT (timC pl x k.1) x.1 x.2).1 < (k.2.2 : Int))
theorem timC_on {pl : List (α × Wn)} {x : Wn} {c : α} {t : Int} (h : onW t x = true) : onT (timC pl x c) t = pl.countP (onC c t) := by
  rw [onT_onW]
  unfold timC
  rw [List.countP_map, List.countP_filter]
  refine List.countP_congr fun p _ => ?_
  unfold onC
  simp only [Function.comp, Bool.and_eq_true, decide_eq_true_eq]
  constructor
  · rintro ⟨h1, h2, _⟩
    exact ⟨h2, h1⟩
  · rintro ⟨h1, h2⟩
    refine ⟨h2, h1, ?_⟩
    unfold onW at h h2
    unfold mtW
    simp only [Bool.and_eq_true, decide_eq_true_eq] at h h2 ⊢
    omega
theorem roomF_iff {cap : α → Nat} (pl : List (α × Wn)) (x : Wn) (k : CdW α) (hx : x.1 < x.2) (hk : k.2.2 = cap k.1) (hp : CapC cap pl) : roomF pl x k = true ↔ CapC cap (pl ++ [(k.1, x)]) := by
  obtain ⟨b1, s, s1, s2, b2⟩ := busy_spec (T := timC pl x k.1) hx
  unfold roomF
  rw [decide_eq_true_eq]
  constructor
  · intro h c t
    rw [List.countP_append, List.countP_singleton]
    have h1 := hp c t
    split
    · rename_i h2
      unfold onC at h2
      rw [Bool.and_eq_true, decide_eq_true_eq] at h2
      dsimp only at h2
      obtain ⟨rfl, h3⟩ := h2
      have h4 := timC_on (pl := pl) (c := k.1) h3
      unfold onW at h3
      simp only [Bool.and_eq_true, decide_eq_true_eq] at h3
      have h5 := b1 t h3.1 h3.2
      omega
    · omega
  · intro h
    have h1 := h k.1 s
    have h3 : onW s x = true := by
      unfold onW
      simp only [Bool.and_eq_true, decide_eq_true_eq]; omega
    have h4 := timC_on (pl := pl) (c := k.1) h3
    rw [List.countP_append, List.countP_singleton, if_pos (by unfold onC; rw [h3]; simp)] at h1
    omega
theorem full_all {m : Nat} {l : List Nat} (hn : l.Nodup) (hb : ∀ x ∈ l, 1 ≤ x ∧ x ≤ m) (hl : m ≤ l.length) {u : Nat} (h1 : 1 ≤ u) (h2 : u ≤ m) : u ∈ l := by
  refine Classical.byContradiction fun h => ?_
  have := nodup_bound m (u :: l) (List.nodup_cons.2 ⟨h, hn⟩) fun x hx => by
    rcases List.mem_cons.1 hx with rfl | hx
    · exact ⟨h1, h2⟩
    · exact hb x hx
  rw [List.length_cons] at this
  omega
/-- What the search for vehicles has given. -/
def GivJ (cap : α → Nat) (ws : List Wn) (st : List (α × Nat)) : Prop := ∃ P : List ((α × Wn) × Nat), PropW cap P ∧ st = P.map cuW ∧ ∃ r, ws = P.map wnW ++ r
def roomU (ws : List Wn) (st : List (α × Nat)) (x : Wn) (k : CdW α) : Bool := roomF ((st.zip ws).map fun p => (p.1.1, p.2)) x k
/-- Without room all vehicles of the class are taken. -/
theorem roomU_no {cap : α → Nat} {ws : List Wn} {st : List (α × Nat)} {x : Wn} {k : CdW α} (hj : GivJ cap ws st) (hx : x.1 < x.2) (hk : k.2.2 = cap k.1) (h : roomU ws st x k = false) : ∀ u, 1 ≤ u → u ≤ k.2.2 → tknW ws st x k.1 u = true := fun u u1 u2 => by
  obtain ⟨P, hP, rfl, r, rfl⟩ := hj
  unfold roomU at h
  have e : ((P.map cuW).zip (P.map wnW ++ r)).map (fun p => (p.1.1, p.2)) = P.map Prod.fst := by
    rw [zip_map, List.map_map]; rfl
  rw [e] at h
  unfold roomF at h
  rw [decide_eq_false_iff_not] at h
  obtain ⟨_, s, s1, s2, b2⟩ := busy_spec (T := timC (P.map Prod.fst) x k.1) hx
  have h3 : onW s x = true := by
    unfold onW
    simp only [Bool.and_eq_true, decide_eq_true_eq]; omega
  have h4 := timC_on (pl := P.map Prod.fst) (c := k.1) h3
  have hlen : k.2.2 ≤ ((P.filter fun p => onC k.1 s p.1).map Prod.snd).length := by
    rw [List.length_map, ← List.countP_eq_length_filter]
    rw [List.countP_map] at h4
    have h5 : P.countP (onC k.1 s ∘ Prod.fst) = P.countP (fun p => onC k.1 s p.1) := rfl
    omega
  have hmem := full_all (m := k.2.2) (l := (P.filter fun p => onC k.1 s p.1).map Prod.snd) (by
    rw [List.Nodup, List.pairwise_map]
    refine List.Pairwise.imp_of_mem (fun {p q} hp hq hpq => ?_) (List.Pairwise.filter (fun p => onC k.1 s p.1) hP.2)
    have hp := (List.mem_filter.1 hp).2
    have hq := (List.mem_filter.1 hq).2
    unfold onC onW at hp hq
    simp only [Bool.and_eq_true, decide_eq_true_eq] at hp hq
    refine hpq (hp.1.trans hq.1.symm) ?_
    unfold mtW
    simp only [Bool.and_eq_true, decide_eq_true_eq]
    omega) (fun y hy => by
    obtain ⟨p, hp, rfl⟩ := List.mem_map.1 hy
    obtain ⟨p1, p2⟩ := List.mem_filter.1 hp
    unfold onC at p2
    rw [Bool.and_eq_true, decide_eq_true_eq] at p2
    have := hP.1 p p1
    rw [p2.1, ← hk] at this
    exact this) hlen u1 u2
  obtain ⟨p, hp, rfl⟩ := List.mem_map.1 hmem
  obtain ⟨p1, p2⟩ := List.mem_filter.1 hp
  unfold onC at p2
  rw [Bool.and_eq_true, decide_eq_true_eq] at p2
  unfold tknW
  rw [zip_map, List.any_map, List.any_eq_true]
  refine ⟨p, p1, ?_⟩
  simp only [Function.comp, Bool.and_eq_true, decide_eq_true_eq]
  refine ⟨by unfold cuW; rw [p2.1], ?_⟩
  have h6 := p2.2
  unfold onW at h3 h6
  unfold mtW wnW
  simp only [Bool.and_eq_true, decide_eq_true_eq] at h3 h6 ⊢
  omega
end
end Go.Proofs.YtempjmpfdniecaaGreatDoor
namespace Go.Proofs.YtempjmpfdniecaaGreatDoor
section
variable {α : Type} [DecidableEq α]
/-- The vehicles of a class that are given are the first ones. -/
def CanU (st : List (α × Nat)) : Prop := ∀ c u, (c, u) ∈ st ↔ 1 ≤ u ∧ u ≤ higW st c
theorem canU_nil : CanU ([] : List (α × Nat)) := fun c u => by
  constructor
  · intro h; cases h
  · rintro ⟨h1, h2⟩
    have h3 : u ≤ 0 := h2
    omega
theorem canU_snoc {st : List (α × Nat)} (h : CanU st) {c : α} {u : Nat} (h1 : 1 ≤ u) (h2 : u ≤ higW st c + 1) : CanU (st ++ [(c, u)]) := fun c' u' => by
  rw [List.mem_append, List.mem_singleton, hig_snoc, h c' u']
  by_cases hc : c = c'
  · subst hc
    rw [if_pos rfl]
    constructor
    · rintro (h3 | h3)
      · omega
      · injection h3 with _ h4
        omega
    · rintro ⟨h3, h4⟩
      by_cases h5 : u' ≤ higW st c
      · exact .inl ⟨h3, h5⟩
      · exact .inr (by rw [show u' = u by omega])
  · rw [if_neg hc]
    constructor
    · rintro (h3 | h3)
      · exact h3
      · injection h3 with h4 _
        exact absurd h4.symm hc
    · exact fun h3 => .inl h3
/-- The document goes through what is free; of a class one vehicle that nobody has. -/
def docS {β : Type} (st : List (α × Nat)) (left : Nat) (g : α × Nat × Nat → Option β) : List (α × Nat × Nat) → List α → Option β
  | [], _ => none
  | k :: r, fr => if left < k.2.1 ∨ ((k.1, k.2.2) ∉ st ∧ k.1 ∈ fr) then docS st left g r fr else
    match g k with
    | some o => some o
    | none => docS st left g r (if (k.1, k.2.2) ∈ st then fr else k.1 :: fr)
def docN (ws : List Wn) (st : List (α × Nat)) (x : Wn) (cs : List (CdW α)) : List (α × Nat × Nat) := cs.flatMap fun k => ((List.range' 1 k.2.2).filter fun u => !tknW ws st x k.1 u).map fun u => (k.1, k.2.1, u)
theorem docS_fr {β : Type} {st : List (α × Nat)} {left : Nat} {g : α × Nat × Nat → Option β} : ∀ (b : List (α × Nat × Nat)) (fr fr' : List α), (∀ k ∈ b, (k.1 ∈ fr ↔ k.1 ∈ fr')) → docS st left g b fr = docS st left g b fr'
  | [], _, _, _ => rfl
  | k :: r, fr, fr', h => by
    have hk := h k (List.mem_cons_self ..)
    have hr : ∀ q ∈ r, (q.1 ∈ fr ↔ q.1 ∈ fr') := fun q hq => h q (List.mem_cons_of_mem _ hq)
    unfold docS
    by_cases hc : left < k.2.1 ∨ ((k.1, k.2.2) ∉ st ∧ k.1 ∈ fr)
    · rw [if_pos hc, if_pos (show left < k.2.1 ∨ ((k.1, k.2.2) ∉ st ∧ k.1 ∈ fr') by rw [← hk]; exact hc), docS_fr r fr fr' hr]
    · rw [if_neg hc, if_neg (show ¬ (left < k.2.1 ∨ ((k.1, k.2.2) ∉ st ∧ k.1 ∈ fr')) by rw [← hk]; exact hc)]
      cases g k with
      | some o => rfl
      | none =>
        dsimp only
        split
        · exact docS_fr r fr fr' hr
        · refine docS_fr r _ _ fun q hq => ?_
          rw [List.mem_cons, List.mem_cons, hr q hq]
/-- Those that somebody has are all tried. -/
theorem docS_used {β : Type} {st : List (α × Nat)} {left : Nat} {g : α × Nat × Nat → Option β} : ∀ (a b : List (α × Nat × Nat)) (fr : List α), (∀ k ∈ a, (k.1, k.2.2) ∈ st) → docS st left g (a ++ b) fr = (a.findSome? fun k => if left < k.2.1 then none else g k).or (docS st left g b fr)
  | [], _, _, _ => rfl
  | k :: a, b, fr, h => by
    have hk := h k (List.mem_cons_self ..)
    have ih := docS_used (left := left) (g := g) a b fr fun q hq => h q (List.mem_cons_of_mem _ hq)
    rw [List.cons_append, List.findSome?_cons]
    conv => lhs; unfold docS
    by_cases hl : left < k.2.1
    · rw [if_pos (.inl hl), if_pos hl, ih]
    · rw [if_neg (by rintro (h1 | h1); exact hl h1; exact h1.1 hk), if_neg hl]
      cases g k with
      | some o => rfl
      | none =>
        dsimp only
        rw [if_pos hk, ih]
/-- Of those of one class that nobody has the others are passed over. -/
theorem docS_skip {β : Type} {st : List (α × Nat)} {left : Nat} {g : α × Nat × Nat → Option β} {c : α} {s : Nat} : ∀ (a b : List (α × Nat × Nat)) (fr : List α), (∀ k ∈ a, (k.1, k.2.2) ∉ st ∧ k.1 = c ∧ k.2.1 = s) → (left < s ∨ c ∈ fr) → docS st left g (a ++ b) fr = docS st left g b fr
  | [], _, _, _, _ => rfl
  | k :: a, b, fr, h, hc => by
    obtain ⟨h1, h2, h3⟩ := h k (List.mem_cons_self ..)
    rw [List.cons_append]
    conv => lhs; unfold docS
    rw [if_pos (by rcases hc with hc | hc; exact .inl (by rw [h3]; exact hc); exact .inr ⟨h1, by rw [h2]; exact hc⟩)]
    exact docS_skip a b fr (fun q hq => h q (List.mem_cons_of_mem _ hq)) hc
theorem docS_new {β : Type} {st : List (α × Nat)} {left : Nat} {g : α × Nat × Nat → Option β} {c : α} {s : Nat} (a b : List (α × Nat × Nat)) (fr : List α) (h : ∀ k ∈ a, (k.1, k.2.2) ∉ st ∧ k.1 = c ∧ k.2.1 = s) (hc : c ∉ fr) (hb : ∀ k ∈ b, k.1 ≠ c) : docS st left g (a ++ b) fr = ((a.take 1).findSome? fun k => if left < k.2.1 then none else g k).or (docS st left g b fr) := by
  by_cases hl : left < s
  · rw [docS_skip a b fr h (.inl hl)]
    have e : ((a.take 1).findSome? fun k => if left < k.2.1 then none else g k) = none := fs_none fun k hk => by
      rw [(h k (List.mem_of_mem_take hk)).2.2, if_pos hl]
    rw [e]; rfl
  · cases a with
    | nil => rfl
    | cons k a =>
      obtain ⟨h1, h2, h3⟩ := h k (List.mem_cons_self ..)
      rw [List.cons_append]
      conv => lhs; unfold docS
      rw [if_neg (by rintro (h4 | h4); exact hl (by rw [← h3]; exact h4); exact hc (by rw [← h2]; exact h4.2)), List.take_succ_cons, List.take_zero, List.findSome?_cons, if_neg (show ¬ left < k.2.1 from by rw [h3]; exact hl)]
      cases g k with
      | some o => rfl
      | none =>
        dsimp only
        rw [if_neg h1, docS_skip a b _ (fun q hq => h q (List.mem_cons_of_mem _ hq)) (.inr (by rw [h2]; exact List.mem_cons_self ..))]
        refine docS_fr b _ _ fun q hq => ?_
        rw [List.mem_cons, h2]
        constructor
        · rintro (h5 | h5)
          · exact absurd h5 (hb q hq)
          · exact h5
        · exact fun h5 => .inr h5
theorem take1_filter {a h : Nat} {p : Nat → Bool} (ha : p a = true) : ((List.range' a (h + 1)).filter p).take 1 = [a] := by
  rw [List.range'_succ, List.filter_cons_of_pos ha, List.take_succ_cons, List.take_zero]
/-- The document's search goes through the same vehicles. -/
theorem doc_same {β : Type} {ws : List Wn} {st : List (α × Nat)} {x : Wn} {left : Nat} {g : α × Nat × Nat → Option β} (hu : CanU st) (ht : ∀ c u, tknW ws st x c u = true → (c, u) ∈ st) : ∀ (cs : List (CdW α)) (fr : List α), (cs.map fun k => k.1).Nodup → (∀ k ∈ cs, k.1 ∉ fr) → docS st left g (docN ws st x cs) fr = (nxtW ws st x cs).findSome? fun k => if left < k.2.1 then none else g k
  | [], _, _, _ => rfl
  | k :: cs, fr, hn, hf => by
    rw [List.map_cons, List.nodup_cons] at hn
    have ih := doc_same (left := left) (g := g) hu ht cs fr hn.2 fun q hq => hf q (List.mem_cons_of_mem _ hq)
    have hb : ∀ q ∈ docN ws st x cs, q.1 ≠ k.1 := fun q hq e => by
      unfold docN at hq
      rw [List.mem_flatMap] at hq
      obtain ⟨k', k1, k2⟩ := hq
      obtain ⟨u, _, rfl⟩ := List.mem_map.1 k2
      exact hn.1 (by rw [← e]; exact List.mem_map.2 ⟨k', k1, rfl⟩)
    have e1 : docN ws st x (k :: cs) = ((List.range' 1 k.2.2).filter fun u => !tknW ws st x k.1 u).map (fun u => (k.1, k.2.1, u)) ++ docN ws st x cs := by unfold docN; rw [List.flatMap_cons]
    have e2 : nxtW ws st x (k :: cs) = ((List.range' 1 (min (higW st k.1 + 1) k.2.2)).filter fun u => !tknW ws st x k.1 u).map (fun u => (k.1, k.2.1, u)) ++ nxtW ws st x cs := by unfold nxtW; rw [List.flatMap_cons]
    rw [e1, e2, List.findSome?_append, ← ih]
    have hused : ∀ n, n ≤ higW st k.1 → ∀ q ∈ ((List.range' 1 n).filter fun u => !tknW ws st x k.1 u).map (fun u => (k.1, k.2.1, u)), (q.1, q.2.2) ∈ st := fun n hn2 q hq => by
      obtain ⟨u, h1, rfl⟩ := List.mem_map.1 hq
      have h2 := List.mem_range'_1.1 (List.mem_filter.1 h1).1
      exact (hu k.1 u).2 (by omega)
    by_cases hm : k.2.2 ≤ higW st k.1
    · rw [Nat.min_eq_right (by omega), docS_used _ _ _ (hused _ hm)]
    · obtain ⟨d, hd⟩ : ∃ d, k.2.2 = higW st k.1 + (d + 1) := ⟨k.2.2 - higW st k.1 - 1, by omega⟩
      have hfree : (!tknW ws st x k.1 (1 + higW st k.1)) = true := by
        cases h5 : tknW ws st x k.1 (1 + higW st k.1) with
        | false => rfl
        | true =>
          have := (hu k.1 _).1 (ht _ _ h5)
          omega
      rw [Nat.min_eq_left (by omega), hd, show List.range' 1 (higW st k.1 + (d + 1)) = List.range' 1 (higW st k.1) ++ List.range' (1 + higW st k.1) (d + 1) from (List.range'_append_1 ..).symm, show List.range' 1 (higW st k.1 + 1) = List.range' 1 (higW st k.1) ++ List.range' (1 + higW st k.1) 1 from (List.range'_append_1 ..).symm, List.filter_append, List.filter_append, List.map_append, List.map_append, List.append_assoc, docS_used _ _ _ (hused _ (Nat.le_refl _)), List.findSome?_append]
      rw [docS_new _ _ _ (fun q hq => by
        obtain ⟨u, h1, rfl⟩ := List.mem_map.1 hq
        have h2 := List.mem_range'_1.1 (List.mem_filter.1 h1).1
        refine ⟨fun h3 => ?_, rfl, rfl⟩
        have := (hu k.1 u).1 h3
        omega) (hf k (List.mem_cons_self ..)) hb]
      rw [← List.map_take, take1_filter hfree]
      have e3 : (List.range' (1 + higW st k.1) 1).filter (fun u => !tknW ws st x k.1 u) = [1 + higW st k.1] := by
        exact List.filter_cons_of_pos (p := fun u => !tknW ws st x k.1 u) (l := []) hfree
      rw [e3, Option.or_assoc]
end
end Go.Proofs.YtempjmpfdniecaaGreatDoor
namespace Go.Proofs.YtempjmpfdniecaaGreatDoor
open Go.RowKit
section
variable {α : Type} [DecidableEq α]
theorem allT_iff' {cap : α → Nat} : ∀ (items : List (ItW α)) (pl : List (α × Wn)) (t : Nat), (∀ it ∈ items, ∀ k ∈ it.2, k.2.2 = cap k.1) → (∀ it ∈ items, it.1.1 < it.1.2) → CapC cap pl → (t ∈ allT roomF items pl ↔ DivE cap pl items t)
  | [], pl, t, _, _, hp => by
    unfold allT DivE
    rw [List.mem_singleton]
    constructor
    · rintro rfl
      exact ⟨[], rfl, (fun p hp => by cases hp), rfl, by rw [List.map_nil, List.append_nil]; exact hp⟩
    · rintro ⟨K, h1, _, h3, _⟩
      rw [List.map_eq_nil_iff] at h1
      subst h1
      exact h3
  | it :: r, pl, t, hk, hw, hp => by
    have hF : ∀ k ∈ it.2, (roomF pl it.1 k = true ↔ CapC cap (pl ++ [(k.1, it.1)])) := fun k k1 => roomF_iff pl it.1 k (hw it (List.mem_cons_self ..)) (hk it (List.mem_cons_self ..) k k1) hp
    unfold allT
    rw [List.mem_flatMap]
    constructor
    · rintro ⟨k, k1, k2⟩
      split at k2
      · rename_i hf
        obtain ⟨t', t1, rfl⟩ := List.mem_map.1 k2
        have hc := (hF k k1).1 hf
        obtain ⟨K, h1, h2, h3, h4⟩ := (allT_iff' r _ t' (fun i hi => hk i (List.mem_cons_of_mem _ hi)) (fun i hi => hw i (List.mem_cons_of_mem _ hi)) hc).1 t1
        refine ⟨(it, k) :: K, by rw [List.map_cons, h1], fun p hp => ?_, by rw [List.map_cons, List.sum_cons, h3], ?_⟩
        · rcases List.mem_cons.1 hp with rfl | hp
          · exact k1
          · exact h2 p hp
        · rw [List.append_assoc] at h4; exact h4
      · cases k2
    · rintro ⟨K, h1, h2, h3, h4⟩
      cases K with
      | nil => cases h1
      | cons p K =>
        rw [List.map_cons] at h1
        injection h1 with h5 h6
        have k1 : p.2 ∈ it.2 := by rw [← h5]; exact h2 p (List.mem_cons_self ..)
        have e : pl ++ (p :: K).map plW2 = (pl ++ [(p.2.1, it.1)]) ++ K.map plW2 := by rw [← h5]; simp [plW2]
        rw [e] at h4
        have hc := cap_mono h4
        refine ⟨p.2, k1, ?_⟩
        rw [if_pos ((hF p.2 k1).2 hc)]
        refine List.mem_map.2 ⟨(K.map fun p => p.2.2.1).sum, (allT_iff' r _ _ (fun i hi => hk i (List.mem_cons_of_mem _ hi)) (fun i hi => hw i (List.mem_cons_of_mem _ hi)) hc).2 ⟨K, h6, fun q hq => h2 q (List.mem_cons_of_mem _ hq), rfl, h4⟩, ?_⟩
        rw [h3, List.map_cons, List.sum_cons]
/-- The document's search. -/
def docF (ws : List Wn) : List (List (CdW α)) → List (α × Nat) → Nat → Option (List (α × Nat))
  | [], st, left => if left = 0 then some st else none
  | cs :: r, st, left => docS st left (fun k => docF ws r (st ++ [(k.1, k.2.2)]) (left - k.2.1)) (docN ws st (ws.getD st.length (0, 0)) cs) []
theorem tkn_mem {ws : List Wn} {st : List (α × Nat)} {x : Wn} {c : α} {u : Nat} (h : tknW ws st x c u = true) : (c, u) ∈ st := by
  unfold tknW at h
  obtain ⟨p, hp, h2⟩ := List.any_eq_true.1 h
  rw [Bool.and_eq_true, decide_eq_true_eq] at h2
  rw [← h2.1]
  exact (List.of_mem_zip hp).1
theorem nxt_can {ws : List Wn} {st : List (α × Nat)} {x : Wn} {cs : List (CdW α)} (hu : CanU st) {k : α × Nat × Nat} (h : k ∈ nxtW ws st x cs) : CanU (st ++ [(k.1, k.2.2)]) := by
  unfold nxtW at h
  rw [List.mem_flatMap] at h
  obtain ⟨k', _, k2⟩ := h
  obtain ⟨u, h1, rfl⟩ := List.mem_map.1 k2
  have h2 := List.mem_range'_1.1 (List.mem_filter.1 h1).1
  exact canU_snoc hu h2.1 (by dsimp only; omega)
theorem docF_fill {ws : List Wn} : ∀ (css : List (List (CdW α))) (st : List (α × Nat)) (left : Nat), CanU st → (∀ cs ∈ css, (cs.map fun k => k.1).Nodup) → docF ws css st left = fillW ws css st left
  | [], _, _, _, _ => rfl
  | cs :: r, st, left, hu, hn => by
    unfold docF fillW
    rw [doc_same hu (fun c u h => tkn_mem h) cs [] (hn cs (List.mem_cons_self ..)) (fun k _ h => by cases h)]
    refine fs_congr fun k hk => ?_
    rw [docF_fill r _ _ (nxt_can hu hk) fun c hc => hn c (List.mem_cons_of_mem _ hc)]
/-- The search for vehicles, for bookings whose classes have as many as cap says. -/
def okC (cap : α → Nat) (xs : List Wn) (css : List (List (CdW α))) : Prop := xs.length = css.length ∧ (∀ x ∈ xs, x.1 < x.2) ∧ (∀ cs ∈ css, ∀ k ∈ cs, k.2.2 = cap k.1) ∧ (∀ cs ∈ css, ∀ k ∈ cs, headW cs ≤ k.2.1) ∧ ∀ cs ∈ css, (cs.map fun k => k.1).Nodup
/-- The search for vehicles with as few steps as can be: the program's, over a list that may be out of bounds behind its end. -/
theorem units_go {cap : α → Nat} {xs : List Wn} (hw : ∀ x ∈ xs, x.1 < x.2) : ∀ (css : List (List (CdW α))) (P : List ((α × Wn) × Nat)) (ys : List Wn) (left : Nat), PropW cap P → xs = P.map wnW ++ ys → ys.length = css.length → (∀ cs ∈ css, ∀ k ∈ cs, k.2.2 = cap k.1) → (∀ cs ∈ css, ∀ k ∈ cs, headW cs ≤ k.2.1) → unitsW xs (roomU xs) css (P.map cuW) left = ((solsW xs css (P.map cuW)).find? fun o => decide (o.2 ≤ left)).map Prod.fst
  | [], P, _, left, _, _, _, _, _ => by
    unfold unitsW solsW
    simp
  | cs :: r, P, ys, left, hP, hx, hl, hk, hh => by
    cases ys with
    | nil => cases hl
    | cons y ys =>
      have hy : xs.getD (P.map cuW).length (0, 0) = y := by
        rw [hx, List.getD_eq_getElem?_getD, List.length_map, List.getElem?_append_right (by simp)]
        simp
      have hyw : y.1 < y.2 := hw y (by rw [hx]; simp)
      unfold unitsW
      rw [hy]
      by_cases hl2 : left < restW (cs :: r)
      · rw [if_pos hl2]
        have e : ((solsW xs (cs :: r) (P.map cuW)).find? fun o => decide (o.2 ≤ left)) = none := List.find?_eq_none.2 fun o ho => by
          have := sols_ge (cs :: r) _ hh o ho
          simp; omega
        rw [e]; rfl
      · rw [if_neg hl2]
        unfold solsW
        rw [hy, List.find?_flatMap, List.map_findSome?]
        unfold nxtW
        rw [fs_flat]
        refine fs_congr fun k hkm => ?_
        have hkc := hk cs (List.mem_cons_self ..) k hkm
        rw [fs_filter]
        by_cases h1 : left < k.2.1 + restW r
        · rw [if_pos h1]
          refine (fs_none fun u hu => ?_).symm
          split
          · simp only [Function.comp]
            rw [List.find?_map]
            have e : (solsW xs r (P.map cuW ++ [(k.1, u)])).find? ((fun o : List (α × Nat) × Nat => decide (o.2 ≤ left)) ∘ fun o => (o.1, k.2.1 + o.2)) = none := List.find?_eq_none.2 fun o ho => by
              have := sols_ge r _ (fun cs hcs => hh cs (List.mem_cons_of_mem _ hcs)) o ho
              simp; omega
            rw [e]; rfl
          · rfl
        · rw [if_neg h1]
          by_cases h2 : roomU xs (P.map cuW) y k = false
          · rw [if_pos h2]
            refine (fs_none fun u hu => ?_).symm
            rw [List.mem_range'_1] at hu
            rw [roomU_no ⟨P, hP, rfl, y :: ys, hx⟩ hyw hkc h2 u hu.1 (by omega), if_neg (by decide)]
          · rw [if_neg h2]
            refine fs_congr fun u hu => ?_
            rw [List.mem_range'_1] at hu
            cases ht : tknW xs (P.map cuW) y k.1 u with
            | true => rfl
            | false =>
              rw [if_neg (by decide), if_pos (by rfl)]
              simp only [Function.comp]
              have hP2 : PropW cap (P ++ [((k.1, y), u)]) := by
                refine ⟨fun p hp => ?_, ?_⟩
                · rcases List.mem_append.1 hp with hp | hp
                  · exact hP.1 p hp
                  · rw [List.mem_singleton.1 hp]
                    dsimp only
                    omega
                · rw [List.pairwise_append]
                  refine ⟨hP.2, List.pairwise_singleton _ _, fun p hp q hq => ?_⟩
                  rw [List.mem_singleton.1 hq]
                  intro e1 e2 e3
                  dsimp only at e1 e2 e3
                  have k7 : tknW xs (P.map cuW) y k.1 u = true := by
                    rw [hx]
                    unfold tknW
                    rw [zip_map, List.any_map, List.any_eq_true]
                    refine ⟨p, hp, ?_⟩
                    simp only [Function.comp, Bool.and_eq_true, decide_eq_true_eq]
                    refine ⟨?_, e2⟩
                    unfold cuW
                    rw [e1, e3]
                  rw [k7] at ht
                  cases ht
              have hcu : (P ++ [((k.1, y), u)]).map cuW = P.map cuW ++ [(k.1, u)] := by simp [cuW]
              have ih := units_go hw r (P ++ [((k.1, y), u)]) ys (left - k.2.1) hP2 (by rw [hx]; simp [wnW]) (by simpa using hl) (fun c hc => hk c (List.mem_cons_of_mem _ hc)) (fun c hc => hh c (List.mem_cons_of_mem _ hc))
              rw [hcu] at ih
              rw [List.find?_map, ih]
              have e : (fun o : List (α × Nat) × Nat => decide (o.2 ≤ left)) ∘ (fun o : List (α × Nat) × Nat => (o.1, k.2.1 + o.2)) = fun o : List (α × Nat) × Nat => decide (o.2 ≤ left - k.2.1) := by
                funext o
                simp only [Function.comp, decide_eq_decide]
                omega
              rw [e, Option.map_map]; rfl
/-- The program's least over any order of the bookings, its vehicles, and the document's answer. -/
theorem assign_same {cap : α → Nat} {xs : List Wn} {css : List (List (CdW α))} (h : okC cap xs css) {items : List (ItW α)} (hp : items.Perm (xs.zip css)) :
    (bbW roomF items [] 0 none = none ∧ ∀ n, docF xs css [] n = none) ∨ ∃ n o, bbW roomF items [] 0 none = some n ∧ (∀ m, m < n → docF xs css [] m = none) ∧ docF xs css [] n = some o ∧ unitsW xs (roomU xs) css [] n = some o ∧ (o, n) ∈ solsW xs css [] := by
  obtain ⟨hl, hw, hk, hh, hn⟩ := h
  have hin : ∀ it ∈ items, it.2 ∈ css ∧ it.1 ∈ xs := fun it hi => by
    have := List.of_mem_zip (hp.mem_iff.1 hi)
    exact ⟨this.2, this.1⟩
  have hdoc : ∀ m, docF xs css [] m = ((solsW xs css []).find? fun o => decide (o.2 = m)).map Prod.fst := fun m => by
    rw [docF_fill css [] m canU_nil hn, fill_find]
  have hall : ∀ t, t ∈ allT roomF items [] ↔ ∃ o, (o, t) ∈ solsW xs css [] := fun t => by
    rw [sols_div hl hw hk]
    have hF := allT_iff' (cap := cap) items [] t (fun it hi => hk _ (hin it hi).1) (fun it hi => hw _ (hin it hi).2) (fun c t => Nat.zero_le _)
    rw [hF]
    exact ⟨div_perm hp, div_perm hp.symm⟩
  have hb := bb_min (F := roomF) items [] 0 none fun it hi => hh _ (hin it hi).1
  have hz : ((allT roomF items ([] : List (α × Wn))).map fun t => 0 + t) = allT roomF items [] := by
    conv => rhs; rw [← List.map_id (allT roomF items [])]
    exact List.map_congr_left fun t _ => Nat.zero_add t
  rw [hz] at hb
  rcases minO_none (allT roomF items []) with ⟨h1, h2⟩ | ⟨n, h1, h2, h3⟩
  · refine .inl ⟨hb.trans h2, fun m => ?_⟩
    rw [hdoc, List.find?_eq_none.2 fun o ho => ?_]; rfl
    have := (hall o.2).2 ⟨o.1, ho⟩
    rw [h1] at this
    cases this
  · obtain ⟨o1, ho1⟩ := (hall n).1 h2
    have hmin : ∀ o ∈ solsW xs css [], n ≤ o.2 := fun o ho => h3 o.2 ((hall o.2).2 ⟨o.1, ho⟩)
    obtain ⟨o, ho⟩ : ∃ o, ((solsW xs css []).find? fun o => decide (o.2 = n)) = some o := by
      cases hf : (solsW xs css []).find? fun o => decide (o.2 = n) with
      | some o => exact ⟨o, rfl⟩
      | none => exact absurd (List.find?_eq_none.1 hf (o1, n) ho1) (by simp)
    have ho2 : o.2 = n := by simpa using List.find?_some ho
    refine .inr ⟨n, o.1, hb.trans h1, fun m hm => ?_, ?_, ?_, ?_⟩
    · rw [hdoc, List.find?_eq_none.2 fun o ho => ?_]; rfl
      have := hmin o ho
      simp; omega
    · rw [hdoc, ho]; rfl
    · have h5 := units_go (cap := cap) hw css [] xs n ⟨(fun p hp => by cases hp), List.Pairwise.nil⟩ rfl hl hk hh
      rw [List.map_nil, find_least hmin, ho] at h5
      exact h5
    · rw [← ho2]
      exact List.mem_of_find?_eq_some ho
end
end Go.Proofs.YtempjmpfdniecaaGreatDoor
namespace Go.Proofs.YtempjmpfdniecaaGreatDoor
section
variable {α : Type} [DecidableEq α]
/-- The classes of a way, with their steps (from i on) and numbers. -/
def wayC (many : α → Nat) : Nat → List α → List (CdW α)
  | _, [] => []
  | i, c :: r => (c, i, many c) :: wayC many (i + 1) r
/-- Those with vehicles. -/
def chC (many : α → Nat) (ks : List α) : List (CdW α) := (wayC many 0 ks).filter fun k => decide (0 < k.2.2)
omit [DecidableEq α] in
theorem way_mem {many : α → Nat} : ∀ (ks : List α) (i : Nat) (k : CdW α), k ∈ wayC many i ks → i ≤ k.2.1 ∧ k.2.1 < i + ks.length ∧ k.2.2 = many k.1
  | [], _, _, h => by cases h
  | c :: r, i, k, h => by
    unfold wayC at h
    rcases List.mem_cons.1 h with rfl | h
    · exact ⟨Nat.le_refl _, by simp, rfl⟩
    · have := way_mem r (i + 1) k h
      rw [List.length_cons]
      omega
omit [DecidableEq α] in
theorem way_keys {many : α → Nat} : ∀ (ks : List α) (i : Nat), (wayC many i ks).map (fun k => k.1) = ks
  | [], _ => rfl
  | c :: r, i => by rw [wayC, List.map_cons, way_keys r]
omit [DecidableEq α] in
theorem way_head {many : α → Nat} : ∀ (ks : List α) (i : Nat), ∀ k ∈ (wayC many i ks).filter (fun k => decide (0 < k.2.2)), headW ((wayC many i ks).filter fun k => decide (0 < k.2.2)) ≤ k.2.1
  | [], _, _, h => by cases h
  | c :: r, i, k, h => by
    unfold wayC at h ⊢
    by_cases h0 : 0 < many c
    · rw [List.filter_cons_of_pos (by simpa using h0)] at h ⊢
      show i ≤ k.2.1
      rcases List.mem_cons.1 h with rfl | h
      · exact Nat.le_refl _
      · have := way_mem r (i + 1) k (List.mem_filter.1 h).1
        omega
    · rw [List.filter_cons_of_neg (by simpa using h0)] at h ⊢
      exact way_head r (i + 1) k h
omit [DecidableEq α] in
theorem ch_ok {many : α → Nat} {ks : List α} (hn : ks.Nodup) : (∀ k ∈ chC many ks, k.2.2 = many k.1) ∧ (∀ k ∈ chC many ks, headW (chC many ks) ≤ k.2.1) ∧ ((chC many ks).map fun k => k.1).Nodup ∧ ∀ k ∈ chC many ks, k.2.1 < ks.length :=
  ⟨fun k hk => (way_mem ks 0 k (List.mem_filter.1 hk).1).2.2, way_head ks 0, by
    have h : ((chC many ks).map fun k => k.1).Sublist ((wayC many 0 ks).map fun k => k.1) := List.Sublist.map _ List.filter_sublist
    rw [way_keys] at h
    exact h.nodup hn, fun k hk => by
    have := (way_mem ks 0 k (List.mem_filter.1 hk).1).2.1
    omega⟩
/-- The steps of an end are bounded. -/
theorem sols_le {ws : List Wn} {M : Nat} : ∀ (css : List (List (CdW α))) (st : List (α × Nat)), (∀ cs ∈ css, ∀ k ∈ cs, k.2.1 ≤ M) → ∀ o ∈ solsW ws css st, o.2 ≤ css.length * M
  | [], st, _, o, h => by
    unfold solsW at h
    rw [List.mem_singleton.1 h]
    exact Nat.zero_le _
  | cs :: r, st, hh, o, h => by
    unfold solsW at h
    rw [List.mem_flatMap] at h
    obtain ⟨k, h1, h2⟩ := h
    obtain ⟨o', h3, rfl⟩ := List.mem_map.1 h2
    unfold nxtW at h1
    rw [List.mem_flatMap] at h1
    obtain ⟨k', k1, k2⟩ := h1
    obtain ⟨u, _, rfl⟩ := List.mem_map.1 k2
    have i1 := hh cs (List.mem_cons_self ..) k' k1
    have i2 := sols_le r _ (fun cs hcs => hh cs (List.mem_cons_of_mem _ hcs)) o' h3
    show k'.2.1 + o'.2 ≤ (r.length + 1) * M
    rw [Nat.add_mul]
    omega
end
end Go.Proofs.YtempjmpfdniecaaGreatDoor
namespace Go.Proofs.YtempjmpfdniecaaGreatDoor
open Go.RowKit
def wnB (b : Bk) : Wn := (b.fr, b.to_)
def capB (sl : List Sk) (k : ByteArray) : Nat := (manyV sl k).toNat
/-- The choices of a booking. -/
def chB (cs : List Cs) (sl : List Sk) (b : Bk) : List (CdW ByteArray) := chC (capB sl) (clsF cs b)
theorem path_nodup {l : List Cs} (hc : Closed l) (hl : loopB l l.length = false) {k : ByteArray} (hk : 0 ≤ ixP (csP k) l 0) : (k :: pathN l l.length k).Nodup := by
  have hno : ∀ x ∈ l, ¬ x.key ∈ pathN l l.length x.key := fun x hx hm => by
    have : loopB l l.length = true := List.any_eq_true.2 ⟨x, hx, inK_mem.2 hm⟩
    rw [hl] at this; cases this
  refine List.nodup_cons.2 ⟨fun hu => ?_, ?_⟩
  · obtain ⟨x, _, hx, rfl⟩ := ix_key hk
    exact hno x hx hu
  · show List.Pairwise (fun a b => a ≠ b) _
    rw [List.pairwise_iff_getElem]
    intro i j hi hj hij he
    have hxi : (pathN l l.length k)[i]? = some ((pathN l l.length k)[i]) := List.getElem?_eq_getElem hi
    have hxj : (pathN l l.length k)[j]? = some ((pathN l l.length k)[j]) := List.getElem?_eq_getElem hj
    rw [← he] at hxj
    generalize (pathN l l.length k)[i] = u at *
    have hd := pathN_drop l i _ _ u hxi
    have hmem : u ∈ pathN l (l.length - (i + 1)) u := by
      rw [← hd]
      refine List.mem_of_getElem? (i := j - (i + 1)) ?_
      rw [List.getElem?_drop, show i + 1 + (j - (i + 1)) = j by omega]; exact hxj
    have hb := pathN_len l l.length k
    have hmore := pathN_more l (l.length - (i + 1)) u (i + 1)
    rw [show l.length - (i + 1) + (i + 1) = l.length by omega] at hmore
    rw [hmore] at hmem
    obtain ⟨x, _, hx, rfl⟩ := ix_key (path_in hc _ _ u (List.mem_of_getElem? hxi))
    exact hno x hx (List.mem_of_mem_take hmem)
theorem path_lenA {l : List Cs} (hc : Closed l) (hl : loopB l l.length = false) {k : ByteArray} (hk : 0 ≤ ixP (csP k) l 0) : (k :: pathN l l.length k).length ≤ l.length := by
  have hin : ∀ u ∈ k :: pathN l l.length k, 0 ≤ ixP (csP u) l 0 := fun u hu => by
    rcases List.mem_cons.1 hu with rfl | hu
    · exact hk
    · exact path_in hc _ _ u hu
  have hbound : ∀ x ∈ (k :: pathN l l.length k).map (fun u => (ixP (csP u) l 0).toNat), x < l.length := fun x hx => by
    obtain ⟨u, hu, rfl⟩ := List.mem_map.1 hx
    have h1 := hin u hu
    have h2 := ixP_bound (p := csP u) l
    omega
  have hsame : ∀ u ∈ k :: pathN l l.length k, ∀ v ∈ k :: pathN l l.length k, (ixP (csP u) l 0).toNat = (ixP (csP v) l 0).toNat → u = v := fun u hu v hv he => by
    obtain ⟨x, hx, _, hxu⟩ := ix_key (hin u hu)
    obtain ⟨y, hy, _, hyv⟩ := ix_key (hin v hv)
    rw [he, hy] at hx
    injection hx with hx
    subst hx
    exact hxu.symm.trans hyv
  have hpair : ((k :: pathN l l.length k).map (fun u => (ixP (csP u) l 0).toNat)).Pairwise (fun a b => a ≠ b) := by
    rw [List.pairwise_map]
    have hnd : (k :: pathN l l.length k).Pairwise (fun a b => a ≠ b) := path_nodup hc hl hk
    exact hnd.imp_of_mem fun {a b} ha hb hab he => hab (hsame a ha b hb he)
  have := pigeon _ _ hbound hpair
  rwa [List.length_map] at this
theorem ixP_nodup {l : List ByteArray} (h : l.Nodup) {i : Nat} {x : ByteArray} (hx : l[i]? = some x) : ixP (fun y => x.toList == y.toList) l 0 = (i : Int) := by
  rcases ixP_spec (p := fun y => x.toList == y.toList) l 0 with ⟨_, h2⟩ | ⟨j, z, h1, h2, h3, _⟩
  · have := h2 x (List.mem_of_getElem? hx)
    simp at this
  · have e : x = z := ba_ext (by simpa using h3)
    rw [← e] at h2
    obtain ⟨hi1, hi2⟩ := List.getElem?_eq_some_iff.1 hx
    obtain ⟨hj1, hj2⟩ := List.getElem?_eq_some_iff.1 h2
    have hp : l.Pairwise (fun a b => a ≠ b) := h
    rw [List.pairwise_iff_getElem] at hp
    rcases Nat.lt_trichotomy i j with hij | hij | hij
    · exact absurd (hi2.trans hj2.symm) (hp i j hi1 hj1 hij)
    · rw [h1, ← hij, Nat.zero_add]
    · exact absurd (hj2.trans hi2.symm) (hp j i hj1 hi1 hij)
theorem way_at {many : ByteArray → Nat} : ∀ (ks : List ByteArray) (i : Nat) (k : CdW ByteArray), k ∈ wayC many i ks → ∃ j, ks[j]? = some k.1 ∧ k.2.1 = i + j
  | [], _, _, h => by cases h
  | c :: r, i, k, h => by
    unfold wayC at h
    rcases List.mem_cons.1 h with rfl | h
    · exact ⟨0, rfl, rfl⟩
    · obtain ⟨j, h1, h2⟩ := way_at r (i + 1) k h
      exact ⟨j + 1, h1, by omega⟩
/-- The steps of a choice are those between the classes. -/
theorem steps_ch {cs : List Cs} {b : Bk} {many : ByteArray → Nat} (hcl : Closed cs) (hlo : loopB cs cs.length = false) (hk : 0 ≤ ixP (csP b.cls) cs 0) {k : CdW ByteArray} (h : k ∈ wayC many 0 (clsF cs b)) : stepsV cs b.cls k.1 = (k.2.1 : Int) := by
  obtain ⟨j, h1, h2⟩ := way_at _ _ _ h
  have h3 : ixP (fun y => k.1.toList == y.toList) (b.cls :: pathN cs cs.length b.cls) 0 = (j : Int) := ixP_nodup (path_nodup hcl hlo hk) h1
  rw [← stepsV_eq hcl hlo, path_same hcl hlo, h3]
  omega
theorem okB {cs : List Cs} {sl : List Sk} {l : List Bk} (hcl : Closed cs) (hlo : loopB cs cs.length = false) (hk : ∀ b ∈ l, 0 ≤ ixP (csP b.cls) cs 0) (ht : ∀ b ∈ l, b.fr < b.to_) : okC (capB sl) (l.map wnB) (l.map (chB cs sl)) := by
  have hch := fun b hb => ch_ok (many := capB sl) (path_nodup hcl hlo (hk b hb))
  refine ⟨by simp, fun x hx => ?_, fun c hc k hkm => ?_, fun c hc k hkm => ?_, fun c hc => ?_⟩
  · obtain ⟨b, hb, rfl⟩ := List.mem_map.1 hx; exact ht b hb
  · obtain ⟨b, hb, rfl⟩ := List.mem_map.1 hc; exact (hch b hb).1 k hkm
  · obtain ⟨b, hb, rfl⟩ := List.mem_map.1 hc; exact (hch b hb).2.1 k hkm
  · obtain ⟨b, hb, rfl⟩ := List.mem_map.1 hc; exact (hch b hb).2.2.1
/-- What the document gives with so many steps; the first that is there. -/
def asgF (cs : List Cs) (sl : List Sk) (l : List Bk) (n : Nat) : Option (List (ByteArray × Nat)) := docF (l.map wnB) (l.map (chB cs sl)) [] n
def asgO (cs : List Cs) (sl : List Sk) (l : List Bk) : Option (List (ByteArray × Nat)) := (List.range (l.length * cs.length + 1)).findSome? (asgF cs sl l)
theorem range_find {β : Type} {f : Nat → Option β} {N n : Nat} {o : β} (h1 : ∀ m, m < n → f m = none) (h2 : f n = some o) (h : n < N) : (List.range N).findSome? f = some o := by
  obtain ⟨d, rfl⟩ : ∃ d, N = n + (d + 1) := ⟨N - n - 1, by omega⟩
  rw [List.range_add, List.findSome?_append, fs_none (fun x hx => h1 x (List.mem_range.1 hx)), List.range_succ_eq_map, List.map_cons, List.findSome?_cons, Nat.add_zero, h2]
  rfl
theorem sols_empty {ws : List Wn} : ∀ (css : List (List (CdW ByteArray))) (st : List (ByteArray × Nat)), [] ∈ css → solsW ws css st = []
  | [], _, h => by cases h
  | cs :: r, st, h => by
    unfold solsW
    rcases List.mem_cons.1 h with e | h
    · rw [← e]; rfl
    · rw [List.flatMap_eq_nil_iff]
      intro k _
      rw [sols_empty r _ h]; rfl
/-- The program's answer and the document's. -/
theorem asg_same {cs : List Cs} {sl : List Sk} {l : List Bk} (hcl : Closed cs) (hlo : loopB cs cs.length = false) (hk : ∀ b ∈ l, 0 ≤ ixP (csP b.cls) cs 0) (ht : ∀ b ∈ l, b.fr < b.to_) {items : List (ItW ByteArray)} (hp : items.Perm ((l.map wnB).zip (l.map (chB cs sl)))) :
    (bbW roomF items [] 0 none = none ∧ asgO cs sl l = none) ∨ ∃ n o, bbW roomF items [] 0 none = some n ∧ asgO cs sl l = some o ∧ unitsW (l.map wnB) (roomU (l.map wnB)) (l.map (chB cs sl)) [] n = some o ∧ n ≤ l.length * cs.length ∧ (o, n) ∈ solsW (l.map wnB) (l.map (chB cs sl)) [] := by
  rcases assign_same (okB (sl := sl) hcl hlo hk ht) hp with ⟨h1, h2⟩ | ⟨n, o, h1, h2, h3, h4, h5⟩
  · exact .inl ⟨h1, fs_none fun n _ => h2 n⟩
  · have hle := sols_le (M := cs.length) (l.map (chB cs sl)) [] (fun c hc k hkm => by
      obtain ⟨b, hb, rfl⟩ := List.mem_map.1 hc
      have h6 := (ch_ok (many := capB sl) (path_nodup hcl hlo (hk b hb))).2.2.2 k hkm
      have h7 := path_lenA hcl hlo (hk b hb)
      omega) _ h5
    rw [List.length_map] at hle
    exact .inr ⟨n, o, h1, range_find h2 h3 (by dsimp only at hle; omega), h4, hle, h5⟩
theorem asg_empty {cs : List Cs} {sl : List Sk} {l : List Bk} (hcl : Closed cs) (hlo : loopB cs cs.length = false) (hk : ∀ b ∈ l, 0 ≤ ixP (csP b.cls) cs 0) (ht : ∀ b ∈ l, b.fr < b.to_) (h : [] ∈ l.map (chB cs sl)) : asgO cs sl l = none := by
  rcases asg_same (sl := sl) hcl hlo hk ht (List.Perm.refl _) with ⟨_, h2⟩ | ⟨n, o, _, _, _, _, h5⟩
  · exact h2
  · rw [sols_empty _ _ h] at h5; cases h5
def gvO (l : List Bk) (o : List (ByteArray × Nat)) : List Gv := (l.zip o).map fun p => ⟨p.1.key, p.2.1, (p.2.2 : Int)⟩
/-- The document's search from a booking on. -/
def asgD (cs : List Cs) (sl : List Sk) (l : List Bk) (st : List (ByteArray × Nat)) (left : Nat) : Option (List (ByteArray × Nat)) := docF (l.map wnB) ((l.drop st.length).map (chB cs sl)) st left
theorem gvO_len {l : List Bk} {st : List (ByteArray × Nat)} (h : st.length ≤ l.length) : (gvO l st).length = st.length := by
  unfold gvO
  rw [List.length_map, List.length_zip]; omega
/-- The end of a search holds as many as there are bookings. -/
theorem docF_len {ws : List Wn} : ∀ (css : List (List (CdW ByteArray))) (st : List (ByteArray × Nat)) (left : Nat) (o : List (ByteArray × Nat)), docF ws css st left = some o → o.length = st.length + css.length
  | [], st, left, o, h => by
    unfold docF at h
    split at h
    · cases h; rfl
    · cases h
  | cs :: r, st, left, o, h => by
    have hS : ∀ (dl : List (ByteArray × Nat × Nat)) (fr : List ByteArray), docS st left (fun k => docF ws r (st ++ [(k.1, k.2.2)]) (left - k.2.1)) dl fr = some o → o.length = st.length + (r.length + 1) := by
      intro dl
      induction dl with
      | nil => intro fr h; cases h
      | cons k dl ih =>
        intro fr h
        unfold docS at h
        split at h
        · exact ih _ h
        · split at h
          · rename_i o' ho'
            cases h
            have := docF_len r _ _ _ ho'
            rw [List.length_append, List.length_singleton] at this
            omega
          · exact ih _ h
    unfold docF at h
    exact hS _ _ h
theorem asgD_len {cs : List Cs} {sl : List Sk} {l : List Bk} {st : List (ByteArray × Nat)} {left : Nat} {o : List (ByteArray × Nat)} (hl : st.length ≤ l.length) (h : asgD cs sl l st left = some o) : o.length = l.length := by
  have := docF_len _ _ _ _ h
  rw [List.length_map, List.length_drop] at this
  omega
theorem asgF_D {cs : List Cs} {sl : List Sk} {l : List Bk} {n : Nat} : asgF cs sl l n = asgD cs sl l [] n := rfl
theorem asgO_len {cs : List Cs} {sl : List Sk} {l : List Bk} {o : List (ByteArray × Nat)} (h : asgO cs sl l = some o) : o.length = l.length := by
  unfold asgO at h
  obtain ⟨n, _, hn⟩ := List.exists_of_findSome?_eq_some h
  exact asgD_len (Nat.zero_le _) (asgF_D.symm.trans hn)
end Go.Proofs.YtempjmpfdniecaaGreatDoor
namespace Go.Proofs.YtempjmpfdniecaaGreatDoor
open Go.RowKit
/-- What is wrong with one given vehicle. -/
def gvE1 (cs : List Cs) (sl : List Sk) (p : Bk × Gv) : Int := if noB cs p.2.cls = true then 8 else if stepsV cs p.1.cls p.2.cls < 0 then 16 else if inB p.2.unit 1 (manyV sl p.2.cls) = true then 0 else 1
def gvFn (cs : List Cs) (sl : List Sk) : Option (Bk × Gv) → Bk × Gv → Int := fun _ p => gvE1 cs sl p
def keyQ (p : Bk × Gv) : Bool := p.1.key.toList == p.2.bk.toList
def keysQ (l : List Bk) (g : List Gv) : Bool := decide (l.length = g.length) && (l.zip g).all keyQ
/-- Whether two given vehicles are one, at one moment. -/
def clsh (x y : Bk × Gv) : Bool := ((x.2.cls.toList == y.2.cls.toList) && decide (x.2.unit = y.2.unit)) && meetW x.1.fr x.1.to_ y.1.fr y.1.to_
def cflB (z : List (Bk × Gv)) : Bool := (List.range z.length).any fun i => match z[i]? with
  | some x => (z.take i).any (clsh x)
  | none => false
def givE (cs : List Cs) (sl : List Sk) (l : List Bk) (g : List Gv) : Int := if keysQ l g = true then (if scanE (gvFn cs sl) none (l.zip g) = 0 then (if cflB (l.zip g) = true then 13 else 0) else scanE (gvFn cs sl) none (l.zip g)) else 3
def gchE (cs : List Cs) (sl : List Sk) (l : List Bk) (g : List Gv) : Int := if firstE [stockE cs sl, checkE cs l] = 0 then givE cs sl l g else firstE [stockE cs sl, checkE cs l]
def upV (cs : List Cs) (z : List (Bk × Gv)) : Int := (z.map fun p => max (stepsV cs p.1.cls p.2.cls) 0).sum
theorem zipbg_at {l : List Bk} {g : List Gv} {i : Nat} {x : Bk} {y : Gv} (hx : l[i]? = some x) (hy : g[i]? = some y) : (l.zip g)[i]? = some (x, y) := by
  rw [List.getElem?_zip_eq_some]; exact ⟨hx, hy⟩
theorem gvE1_a {cs : List Cs} {sl : List Sk} {p : Bk × Gv} (h : noB cs p.2.cls = true) : gvE1 cs sl p = 8 := if_pos h
theorem gvE1_b {cs : List Cs} {sl : List Sk} {p : Bk × Gv} (h : noB cs p.2.cls = false) (h2 : stepsV cs p.1.cls p.2.cls < 0) : gvE1 cs sl p = 16 := by
  unfold gvE1; rw [if_neg (show ¬ noB cs p.2.cls = true by rw [h]; decide), if_pos h2]
theorem gvE1_c {cs : List Cs} {sl : List Sk} {p : Bk × Gv} (h : noB cs p.2.cls = false) (h2 : ¬ stepsV cs p.1.cls p.2.cls < 0) (h3 : inB p.2.unit 1 (manyV sl p.2.cls) = false) : gvE1 cs sl p = 1 := by
  unfold gvE1; rw [if_neg (show ¬ noB cs p.2.cls = true by rw [h]; decide), if_neg h2, if_neg (show ¬ inB p.2.unit 1 (manyV sl p.2.cls) = true by rw [h3]; decide)]
theorem gvE1_d {cs : List Cs} {sl : List Sk} {p : Bk × Gv} (h : noB cs p.2.cls = false) (h2 : ¬ stepsV cs p.1.cls p.2.cls < 0) (h3 : inB p.2.unit 1 (manyV sl p.2.cls) = true) : gvE1 cs sl p = 0 := by
  unfold gvE1; rw [if_neg (show ¬ noB cs p.2.cls = true by rw [h]; decide), if_neg h2, if_pos h3]
theorem allq_at {z : List (Bk × Gv)} {i : Nat} {x : Bk × Gv} (h : z[i]? = some x) : (z.take (i + 1)).all keyQ = ((z.take i).all keyQ && keyQ x) := by
  rw [List.take_add_one, h, Option.toList_some, List.all_append]; simp
theorem allq_no {z : List (Bk × Gv)} {i : Nat} {x : Bk × Gv} (h : z[i]? = some x) (hx : keyQ x = false) : z.all keyQ = false := by
  cases h0 : z.all keyQ with
  | false => rfl
  | true => rw [List.all_eq_true.1 h0 x (List.mem_of_getElem? h)] at hx; cases hx
def noCfl (z : List (Bk × Gv)) (i : Nat) : Prop := ∀ j x, j < i → z[j]? = some x → (z.take j).any (clsh x) = false
theorem cfl_yes {z : List (Bk × Gv)} {i k : Nat} {x y : Bk × Gv} (hx : z[i]? = some x) (hy : z[k]? = some y) (hk : k < i) (h : clsh x y = true) : cflB z = true := by
  unfold cflB
  refine List.any_eq_true.2 ⟨i, List.mem_range.2 (List.getElem?_eq_some_iff.1 hx).1, ?_⟩
  rw [hx]
  refine List.any_eq_true.2 ⟨y, ?_, h⟩
  refine List.mem_of_getElem? (i := k) ?_
  rw [List.getElem?_take, if_pos hk]; exact hy
theorem cfl_no {z : List (Bk × Gv)} {i : Nat} (h : noCfl z i) (hi : z.length ≤ i) : cflB z = false := by
  unfold cflB
  rw [List.any_eq_false]
  intro j hj
  have hj2 := List.mem_range.1 hj
  cases hz : z[j]? with
  | none => simp
  | some x => simp [h j x (by omega) hz]
theorem cfl_next {z : List (Bk × Gv)} {i : Nat} {x : Bk × Gv} (h : noCfl z i) (hx : z[i]? = some x) (h2 : (z.take i).any (clsh x) = false) : noCfl z (i + 1) := fun j y hj hy => by
  by_cases e : j = i
  · subst e
    rw [hx] at hy; cases hy; exact h2
  · exact h j y (by omega) hy
theorem anyc_at {z : List (Bk × Gv)} {i : Nat} {x y : Bk × Gv} (h : z[i]? = some y) : (z.take (i + 1)).any (clsh x) = ((z.take i).any (clsh x) || clsh x y) := by
  rw [List.take_add_one, h, Option.toList_some, List.any_append]; simp
theorem up_at {cs : List Cs} {z : List (Bk × Gv)} {i : Nat} {x : Bk × Gv} (h : z[i]? = some x) : upV cs (z.take (i + 1)) = upV cs (z.take i) + max (stepsV cs x.1.cls x.2.cls) 0 := by
  unfold upV
  rw [List.take_add_one, h, Option.toList_some, List.map_append, List.sum_append]; simp
theorem up_bound (cs : List Cs) : ∀ z : List (Bk × Gv), 0 ≤ upV cs z ∧ upV cs z ≤ (z.length : Int) * (cs.length : Int)
  | [] => by simp [upV]
  | x :: r => by
    have ih := up_bound cs r
    have hb := stepsV_bound cs x.1.cls x.2.cls
    have e : upV cs (x :: r) = max (stepsV cs x.1.cls x.2.cls) 0 + upV cs r := by unfold upV; rw [List.map_cons, List.sum_cons]
    rw [e, List.length_cons]
    have e2 : ((r.length + 1 : Nat) : Int) * (cs.length : Int) = (r.length : Int) * (cs.length : Int) + (cs.length : Int) := by rw [Int.natCast_add, Int.add_mul]; simp
    rw [e2]
    omega
theorem right_all {cs : List Cs} {sl : List Sk} {l : List Bk} (h : firstE [stockE cs sl, checkE cs l] = 0) : classesE cs = 0 ∧ formE l = 0 ∧ ∀ b ∈ l, noB cs b.cls = false := by
  have h2 := (firstE_two h).2
  unfold checkE at h2
  obtain ⟨h3, h4⟩ := firstE_two h2
  unfold classedE at h4
  split at h4
  · rename_i h5; exact absurd h4 h5
  · rename_i h5
    split at h4
    · cases h4
    · rename_i h6
      refine ⟨h3, by simpa using h5, fun b hb => ?_⟩
      cases h7 : noB cs b.cls with
      | false => rfl
      | true => exact absurd (List.any_eq_true.2 ⟨b, hb, h7⟩) h6
theorem keys_of {cs : List Cs} {a b : ByteArray} (hc : classesE cs = 0) (ha : noB cs a = false) (hb : noB cs b = false) : keysE cs [a, b] = 0 := by
  unfold noB at ha hb
  unfold keysE
  rw [if_neg (by rw [hc]; decide), if_neg]
  simp [ha, hb]
theorem stepsTo_any (cs : List Cs) (A0 : Option Addr) (n0 c0 : Nat) (ka kb : ByteArray) (w : World) (hcs : SlT csEnc 2 158 w A0 n0 cs) (hco : ∀ x ∈ cs, CsOk x) (hn0 : n0 ≤ 1000) (hb : keysE cs [ka, kb] = 0) :
  Calls Tryz.prog 165 #[.slice A0 n0 c0, .string ka, .string kb] w (fun e w' => e = .returned (.tuple #[.int .i64 (max (stepsV cs ka kb) 0), .bool (decide (0 ≤ stepsV cs ka kb))]) ∧ w.grownBy w' none) := by
 refine gw_enter ⟨21, w, none, []⟩ Tryz.func165 rfl Tryz.ntmps165 rfl (mem0 (X := [SlOld csEnc 2 158 w.heap.size none A0 n0 cs]) (allF_cons hcs.old allF_nil) (allL_cons SlOld.lasts allL_nil)) ?_
 refine sr_ (sg_ rfl (sg_ rfl (nn_ (sr_ (mv_ rfl (mv_ rfl (mv_ rfl ?_)))))))
 refine wl_callv rfl cb243 rfl rfl (fun wx hm => (steps_right cs A0 n0 c0 ka kb wx (hm.fact 0 rfl).1 hco (by omega) hb)) ?_
 refine mv_ rfl (wl_ov (ov_extract rfl rfl) rfl (wl_ov (ov_extract rfl rfl) rfl (wl_ov (ov_extract rfl rfl) rfl (sg_ rfl (sg_ rfl (sg_ rfl (nn_ (sr_ (mv_ rfl (mv_ rfl (sg_ rfl ?_)))))))))))
 refine sg_ rfl (nn_ ?_)
 refine gw_ret ?_
 refine nx_ret2 rfl rfl rfl fun wx hm => ?_
 exact ⟨rfl, hm.g⟩
theorem cgiven1_any (b0 b1 : ByteArray) (b2 b3 b4 b5 : Int) (q0 q1 : ByteArray) (q2 : Int) (w : World) :
  Calls Tryz.prog 163 #[.agg #[.string b0, .string b1, .int .i64 b2, .int .i64 b3, .int .i64 b4, .int .i64 b5], .agg #[.string q0, .string q1, .int .i64 q2]] w (fun e w' => e = .returned (.bool (keyQ ((⟨b0, b1, b2, b3, b4, b5⟩ : Bk), (⟨q0, q1, q2⟩ : Gv)))) ∧ w.grownBy w' none) := by
 refine gw_enter ⟨10, w, none, []⟩ Tryz.func163 rfl Tryz.ntmps163 rfl (mem0 (X := []) allF_nil allL_nil) ?_
 refine sr_ ?_
 refine wl_box rfl rfl rfl fun g1 => ?_
 refine wl_box rfl rfl rfl fun g2 => ?_
 refine sg_ rfl (nn_ (sr_ (fd_ fo92_0 rfl rfl (lk_ sc9 1 rfl rfl rfl (fd_ fo90_0 rfl rfl (lk_ sc9 0 rfl rfl rfl (wl_ov (ov_seql rfl rfl) rfl (sg_ rfl (nn_ ?_)))))))))
 refine gw_ret ?_
 refine nx_ret1 rfl rfl fun wx hm => ?_
 exact ⟨rfl, hm.g⟩
theorem eqKeys_any (l : List Bk) (A : Option Addr) (n c : Nat) (g : List Gv) (G : Option Addr) (gn gc : Nat) (w : World) (hl : SlT bkEnc 6 92 w A n l) (hn : n ≤ 1000) (hg : SlT gvEnc 3 90 w G gn g) (hgn : gn ≤ 1000) :
  Calls Tryz.prog 162 #[.slice A n c, .slice G gn gc, .func (.func 163) #[] #[]] w (fun e w' => e = .returned (.bool (keysQ l g)) ∧ w.grownBy w' none) := by
 refine gw_enter ⟨32, w, none, []⟩ Tryz.func162 rfl Tryz.ntmps162 rfl (mem0 (X := [SlOld bkEnc 6 92 w.heap.size none A n l, SlOld gvEnc 3 90 w.heap.size none G gn g]) (allF_cons hl.old (allF_cons hg.old allF_nil)) (allL_cons SlOld.lasts (allL_cons SlOld.lasts allL_nil))) ?_
 refine sr_ ?_
 have hll := hl.len
 have hgl := hg.len
 refine sg_ rfl (nn_ (gw_seq (sr_ (mv_ rfl (wl_ov (ov_len es76 rfl) rfl (mv_ rfl (wl_ov (ov_len es80 rfl) rfl (wl_ov (ov_neq rfl rfl) rfl (nn_ ?_)))))))))
 refine gw_cond rfl (fun hh => ?_) (fun hh => ?_)
 ·have hne : ¬ (((n : Nat) : Int) = ((gn : Nat) : Int)) := by simpa using hh
  clear hh
  refine sr_ ?_
  have hK : keysQ l g = false := by unfold keysQ; rw [decide_eq_false (by omega)]; rfl
  refine sg_ rfl (nn_ ?_)
  refine gw_ret ?_
  refine nx_then_ret ?_
  refine nx_ret1 rfl rfl fun wx hm => ?_
  exact ⟨by rw [hK], hm.g⟩
 have hne : ((n : Nat) : Int) = ((gn : Nat) : Int) := by simpa using hh
 clear hh
 refine gw_skip (nx_then (gw_seq (sr_ ?_)))
 obtain rfl : n = gn := by omega
 have hzl : (l.zip g).length = n := by rw [List.length_zip]; omega
 have hK0 : keysQ l g = (l.zip g).all keyQ := by unfold keysQ; rw [decide_eq_true (by omega), Bool.true_and]
 refine mv_ rfl (wl_ov (ov_len es76 rfl) rfl (mv_ rfl (nn_ (gw_block ?_))))
 refine gw_loop (γ := Nat) (fun (i : Nat) => i ≤ n ∧ ((l.zip g).take i).all keyQ = true) (fun (i : Nat) => [(1, .slice G n gc), (2, .func (.func 163) #[] #[]), (15, .slice A n c), (16, .int .i64 ((n : Nat) : Int)), (17, .int .i64 ((i : Nat) : Int))]) (fun (i : Nat) => fun _ => True) (fun (i : Nat) => []) (fun (i : Nat) => []) (fun (i : Nat) => [SlOld bkEnc 6 92 w.heap.size none A n l, SlOld gvEnc 3 90 w.heap.size none G n g]) (fun (i : Nat) => n - i) 0 ⟨Nat.zero_le _, rfl⟩ ⟨rfl, rfl, rfl, rfl, rfl, trivial⟩ (fun _ hm => hm.pick [] [] [0, 1] rfl rfl) ?_
 intro i hinv
 replace hinv : i ≤ n ∧ ((l.zip g).take i).all keyQ = true := hinv
 refine sr_ ?_
 obtain ⟨hi0, hall⟩ := hinv
 refine wl_ov (ov_lss rfl rfl) rfl (nn_ (gw_seq ?_))
 refine gw_cond rfl (fun hh => ?_) (fun hh => ?_)
 ·have hi : ((i : Nat) : Int) < ((n : Nat) : Int) := by simpa using hh
  clear hh
  refine gw_skip (nx_then (gw_seq (gw_block (sr_ ?_))))
  obtain ⟨gb, goff, hA, _, _⟩ := hg.get (by omega)
  subst hA
  obtain ⟨ab, aoff, hA, _, _⟩ := hl.get (by omega)
  subst hA
  obtain ⟨gx, hgx⟩ : ∃ x, g[i]? = some x := ⟨_, List.getElem?_eq_getElem (by omega)⟩
  obtain ⟨q0, q1, q2⟩ := gx
  obtain ⟨bx, hbx⟩ : ∃ x, l[i]? = some x := ⟨_, List.getElem?_eq_getElem (by omega)⟩
  obtain ⟨b0, b1, b2, b3, b4, b5⟩ := bx
  have hz := zipbg_at hbx hgx
  have hat := allq_at hz
  rw [hall, Bool.true_and] at hat
  refine mv_ rfl ?_
  refine wl_ov (ov_index (j := i) es76 rfl rfl (by omega)) rfl ?_
  refine wl_ov (ov_elem (vs := [.string b0, .string b1, .int .i64 b2, .int .i64 b3, .int .i64 b4, .int .i64 b5]) rz92 rfl (fun _ hm => (hm.fact 0 rfl).1) hbx rfl rfl) rfl ?_
  refine wl_alloc zc92 rfl fun g1 => ?_
  refine sg_ rfl ?_
  refine wl_stores (cs' := [.string b0, .string b1, .int .i64 b2, .int .i64 b3, .int .i64 b4, .int .i64 b5]) 0 rz92 rfl rfl rfl rfl rfl rfl rfl rfl ?_
  refine nn_ (sr_ (mv_ rfl (mv_ rfl ?_)))
  refine wl_ov (ov_index (j := i) es80 rfl rfl (by omega)) rfl ?_
  refine wl_ov (ov_elem (vs := [.string q0, .string q1, .int .i64 q2]) rz90 rfl (fun _ hm => (hm.fact 1 rfl).1) hgx rfl rfl) rfl ?_
  refine wl_alloc zc90 rfl fun g2 => ?_
  refine wl_stores (cs' := [.string q0, .string q1, .int .i64 q2]) 0 rz90 rfl rfl rfl rfl rfl rfl rfl rfl ?_
  refine nn_ (sr_ (mv_ rfl ?_))
  refine wl_ov (ov_loads rz92 rfl (fun _ hm => hm.blkI 1 rfl) rfl rfl) rfl ?_
  refine wl_ov (ov_loads rz90 rfl (fun _ hm => hm.blkI 0 rfl) rfl rfl) rfl ?_
  refine wl_callv rfl cb163 rfl rfl (fun wx hm => (cgiven1_any b0 b1 b2 b3 b4 b5 q0 q1 q2 wx)) ?_
  refine wl_ov (ov_un_not rfl) rfl (nn_ ?_)
  rcases Bool.eq_false_or_eq_true (!(keyQ ((⟨b0, b1, b2, b3, b4, b5⟩ : Bk), (⟨q0, q1, q2⟩ : Gv)))) with hq | hq
  ·refine gw_set 30 rfl (congrArg Value.bool hq) ?_
   refine ct_ rfl (sr_ (sg_ rfl (nn_ ?_)))
   refine gw_ret ?_
   refine nx_blk_ret (nx_then_ret (nx_then_ret (nx_blk_ret (nx_then_ret ?_))))
   have hk : keyQ ((⟨b0, b1, b2, b3, b4, b5⟩ : Bk), (⟨q0, q1, q2⟩ : Gv)) = false := by simpa using hq
   have hK : keysQ l g = false := by rw [hK0]; exact allq_no hz hk
   refine nx_ret1 rfl rfl fun wx hm => ?_
   exact ⟨by rw [hK], hm.g⟩
  refine gw_set 30 rfl (congrArg Value.bool hq) ?_
  refine cf_ rfl (gw_skip (nx_blk_nrm (nx_then (gw_region (ad_ rfl rfl (mv_ rfl (wl_nil ?_)))))))
  have hk : keyQ ((⟨b0, b1, b2, b3, b4, b5⟩ : Bk), (⟨q0, q1, q2⟩ : Gv)) = true := by simpa using hq
  exact nx_round (i + 1) ⟨by (try dsimp only); omega, by (try dsimp only); rw [hat, hk]⟩ (by (try dsimp only); omega) ⟨rfl, rfl, rfl, rfl, (some_int (by omega)), trivial⟩ (fun _ hm => hm.pick [] [] [0, 1] rfl rfl)
 have hi : ¬ (((i : Nat) : Int) < ((n : Nat) : Int)) := by simpa using hh
 clear hh
 refine gw_exit ?_
 refine nx_then_exit (nx_then_exit ?_)
 refine nx_blk_here ?_
 refine nx_then (sr_ ?_)
 have hlt : (l.zip g).take i = l.zip g := List.take_of_length_le (by omega)
 rw [hlt] at hall
 have hK : keysQ l g = true := by rw [hK0]; exact hall
 refine sg_ rfl (nn_ ?_)
 refine gw_ret ?_
 refine nx_ret1 rfl rfl fun wx hm => ?_
 exact ⟨by rw [hK], hm.g⟩
theorem checkGiven_any (cs : List Cs) (A0 : Option Addr) (n0 c0 : Nat) (sl : List Sk) (A1 : Option Addr) (n1 c1 : Nat) (l : List Bk) (A : Option Addr) (n c : Nat) (g : List Gv) (G : Option Addr) (gn gc : Nat) (w : World) (hcs : SlT csEnc 2 158 w A0 n0 cs) (hco : ∀ x ∈ cs, CsOk x) (hn0 : n0 ≤ 1000) (hs : SlT skEnc 2 211 w A1 n1 sl) (hso : ∀ x ∈ sl, SkOk x) (hn1 : n1 ≤ 1000) (hl : SlT bkEnc 6 92 w A n l) (hok : ∀ x ∈ l, BkOk x) (hn : n ≤ 1000) (hg : SlT gvEnc 3 90 w G gn g) (hgn : gn ≤ 1000) (hgc : gn ≤ gc) :
  Calls Tryz.prog 60 #[.slice A0 n0 c0, .slice A1 n1 c1, .slice A n c, .slice G gn gc] w (GotE w (gchE cs sl l g)) := by
 refine gw_enter ⟨107, w, none, []⟩ Tryz.func60 rfl Tryz.ntmps60 rfl (mem0 (X := [SlOld csEnc 2 158 w.heap.size none A0 n0 cs, SlOld skEnc 2 211 w.heap.size none A1 n1 sl, SlOld bkEnc 6 92 w.heap.size none A n l, SlOld gvEnc 3 90 w.heap.size none G gn g]) (allF_cons hcs.old (allF_cons hs.old (allF_cons hl.old (allF_cons hg.old allF_nil)))) (allL_cons SlOld.lasts (allL_cons SlOld.lasts (allL_cons SlOld.lasts (allL_cons SlOld.lasts allL_nil))))) ?_
 refine sr_ ?_
 have hll := hl.len
 have hgl := hg.len
 obtain ⟨AE, hAE⟩ : ∃ z, z = firstE [stockE cs sl, checkE cs l] := ⟨_, rfl⟩
 obtain ⟨GE, hGE⟩ : ∃ z, z = gchE cs sl l g := ⟨_, rfl⟩
 rw [← hGE]
 have hge := hGE
 unfold gchE at hge
 rw [← hAE] at hge
 refine sg_ rfl (nn_ (gw_seq (sr_ (mv_ rfl (mv_ rfl (mv_ rfl ?_))))))
 refine wl_callv (v := .int .i64 AE) rfl cb124 rfl rfl (fun wx hm => (by rw [hAE]; exact checkAll_any cs A0 n0 c0 sl A1 n1 c1 l A n c wx (hm.fact 0 rfl).1 hco hn0 (hm.fact 1 rfl).1 hso hn1 (hm.fact 2 rfl).1 hok hn)) ?_
 refine sg_ rfl (nn_ (sr_ (mv_ rfl (wl_ov (ov_neq rfl rfl) rfl (nn_ ?_)))))
 refine gw_cond rfl (fun hh => ?_) (fun hh => ?_)
 ·have h1 : ¬ (AE = 0) := by simpa using hh
  clear hh
  refine sr_ ?_
  have h1 : ¬ AE = 0 := by simpa using h1
  rw [if_neg h1] at hge
  refine mv_ rfl (sg_ rfl (nn_ ?_))
  refine gw_ret ?_
  refine nx_then_ret ?_
  refine nx_ret1 rfl rfl fun wx hm => ?_
  exact ⟨ret_int (by rw [hge]), hm.g⟩
 have h1 : AE = 0 := by simpa using hh
 clear hh
 refine gw_skip (nx_then (gw_seq (sr_ ?_)))
 have h2 : AE = 0 := by simpa using h1
 rw [if_pos h2] at hge
 have h0 := hAE.symm.trans h2
 unfold givE at hge
 obtain ⟨hce, hfm, hcl2⟩ := right_all h0
 have hcz := classesE_ok hce
 have htim := form_tim hfm
 refine mv_ rfl (mv_ rfl ?_)
 refine wl_callv rfl cb162 rfl rfl (fun wx hm => (eqKeys_any l A n c g G gn gc wx (hm.fact 2 rfl).1 hn (hm.fact 3 rfl).1 hgn)) ?_
 refine wl_ov (ov_un_not rfl) rfl (nn_ ?_)
 refine gw_cond rfl (fun hh => ?_) (fun hh => ?_)
 ·have hkq : (keysQ l g) = false := by simpa using hh
  clear hh
  refine sr_ ?_
  rw [if_neg (by rw [show keysQ l g = false by simpa using hkq]; decide)] at hge
  refine sg_ rfl (nn_ ?_)
  refine gw_ret ?_
  refine nx_then_ret ?_
  refine nx_ret1 rfl rfl fun wx hm => ?_
  exact ⟨ret_int (by rw [hge]), hm.g⟩
 have hkq : (keysQ l g) = true := by simpa using hh
 clear hh
 refine gw_skip (nx_then (gw_seq (sr_ ?_)))
 have hK : keysQ l g = true := by simpa using hkq
 rw [if_pos hK] at hge
 obtain rfl : n = gn := by
  unfold keysQ at hK
  simp only [Bool.and_eq_true, decide_eq_true_eq] at hK
  omega
 have hzl : (l.zip g).length = n := by rw [List.length_zip]; omega
 refine mv_ rfl (wl_ov (ov_len es80 rfl) rfl (mv_ rfl (nn_ (gw_block ?_))))
 refine gw_loop (γ := Nat) (fun (i : Nat) => i ≤ n ∧ scanE (gvFn cs sl) none (l.zip g) = scanE (gvFn cs sl) (prevOf (l.zip g) i) ((l.zip g).drop i)) (fun (i : Nat) => [(0, .slice A0 n0 c0), (1, .slice A1 n1 c1), (2, .slice A n c), (3, .slice G n gc), (29, .slice G n gc), (30, .int .i64 ((n : Nat) : Int)), (31, .int .i64 ((i : Nat) : Int))]) (fun (i : Nat) => fun _ => True) (fun (i : Nat) => []) (fun (i : Nat) => []) (fun (i : Nat) => [SlOld csEnc 2 158 w.heap.size none A0 n0 cs, SlOld skEnc 2 211 w.heap.size none A1 n1 sl, SlOld bkEnc 6 92 w.heap.size none A n l, SlOld gvEnc 3 90 w.heap.size none G n g]) (fun (i : Nat) => n - i) 0 ⟨Nat.zero_le _, rfl⟩ ⟨rfl, rfl, rfl, rfl, rfl, rfl, rfl, trivial⟩ (fun _ hm => hm.pick [] [] [0, 1, 2, 3] rfl rfl) ?_
 intro i hinv
 replace hinv : i ≤ n ∧ scanE (gvFn cs sl) none (l.zip g) = scanE (gvFn cs sl) (prevOf (l.zip g) i) ((l.zip g).drop i) := hinv
 refine sr_ ?_
 obtain ⟨hi0, hsc⟩ := hinv
 refine wl_ov (ov_lss rfl rfl) rfl (nn_ (gw_seq ?_))
 refine gw_cond rfl (fun hh => ?_) (fun hh => ?_)
 ·have hi : ((i : Nat) : Int) < ((n : Nat) : Int) := by simpa using hh
  clear hh
  refine gw_skip (nx_then (gw_seq (gw_block (sr_ ?_))))
  obtain ⟨gb, goff, hA, _, _⟩ := hg.get (by omega)
  subst hA
  obtain ⟨ab, aoff, hA, _, _⟩ := hl.get (by omega)
  subst hA
  obtain ⟨gx, hgx⟩ : ∃ x, g[i]? = some x := ⟨_, List.getElem?_eq_getElem (by omega)⟩
  obtain ⟨q0, q1, q2⟩ := gx
  obtain ⟨bx, hbx⟩ : ∃ x, l[i]? = some x := ⟨_, List.getElem?_eq_getElem (by omega)⟩
  obtain ⟨b0, b1, b2, b3, b4, b5⟩ := bx
  have hz := zipbg_at hbx hgx
  have hat := scanE_at (gvFn cs sl) (l.zip g) i _ hz
  rw [← hsc] at hat
  have hnb := hcl2 _ (List.mem_of_getElem? hbx)
  dsimp only at hnb
  have hE : gvFn cs sl (prevOf (l.zip g) i) ((⟨b0, b1, b2, b3, b4, b5⟩ : Bk), (⟨q0, q1, q2⟩ : Gv)) = gvE1 cs sl ((⟨b0, b1, b2, b3, b4, b5⟩ : Bk), (⟨q0, q1, q2⟩ : Gv)) := rfl
  rw [hE] at hat
  refine mv_ rfl ?_
  refine wl_ov (ov_index (j := i) es80 rfl rfl (by omega)) rfl ?_
  refine wl_ov (ov_elem (vs := [.string q0, .string q1, .int .i64 q2]) rz90 rfl (fun _ hm => (hm.fact 3 rfl).1) hgx rfl rfl) rfl ?_
  refine wl_alloc zc90 rfl fun g1 => ?_
  refine sg_ rfl ?_
  refine wl_stores (cs' := [.string q0, .string q1, .int .i64 q2]) 0 rz90 rfl rfl rfl rfl rfl rfl rfl rfl ?_
  refine nn_ (gw_seq (sr_ (mv_ rfl (fd_ fo90_1 rfl rfl (lk_ sc9 0 rfl rfl rfl ?_)))))
  refine wl_callv rfl cb164 rfl rfl (fun wx hm => (hasClass_any cs A0 n0 c0 q1 wx (hm.fact 0 rfl).1 hco hn0)) ?_
  refine wl_ov (ov_un_not rfl) rfl (nn_ ?_)
  refine gw_cond rfl (fun hh => ?_) (fun hh => ?_)
  ·have hq : (!noB cs q1) = false := by simpa using hh
   clear hh
   refine sr_ ?_
   have h1 : noB cs q1 = true := by simpa using hq
   refine sg_ rfl (nn_ ?_)
   refine gw_ret ?_
   refine nx_then_ret (nx_blk_ret (nx_then_ret (nx_then_ret (nx_blk_ret (nx_then_ret ?_)))))
   have hE1 : gvE1 cs sl ((⟨b0, b1, b2, b3, b4, b5⟩ : Bk), (⟨q0, q1, q2⟩ : Gv)) = 8 := gvE1_a h1
   have hS : scanE (gvFn cs sl) none (l.zip g) = 8 := by rw [hat, hE1]; exact if_neg (by decide)
   refine nx_ret1 rfl rfl fun wx hm => ?_
   exact ⟨ret_int (by rw [hge, if_neg (by rw [hS]; decide), hS]), hm.g⟩
  have hq : (!noB cs q1) = true := by simpa using hh
  clear hh
  refine gw_skip (nx_then (gw_seq (gw_seq ?_)))
  have h1 : noB cs q1 = false := by simpa using hq
  refine gd (fun wz => Blk wz g1 90 [.string q0, .string q1, .int .i64 q2] ∧ (SlOld csEnc 2 158 w.heap.size none A0 n0 cs) wz ∧ (SlOld skEnc 2 211 w.heap.size none A1 n1 sl) wz ∧ (SlOld bkEnc 6 92 w.heap.size none (some ⟨ab, aoff, none⟩) n l) wz ∧ (SlOld gvEnc 3 90 w.heap.size none (some ⟨gb, goff, none⟩) n g) wz ∧ True) mixed (fun _ hm => ⟨hm.bl 0, hm.fa 0, hm.fa 1, hm.fa 2, hm.fa 3, trivial⟩) fun z => ?_
  refine wt 0 14 1 rfl z (ov_move rfl) ?_
  refine wt 1 14 3 rfl z (ov_move rfl) ?_
  refine wt 2 14 7 rfl z (ov_move rfl) ?_
  refine wt 3 14 15 rfl z (ov_index (j := i) es76 rfl rfl (by omega)) ?_
  refine wt 4 14 31 rfl z (ov_field fo92_1 rfl rfl) ?_
  refine wt 5 14 63 rfl z (ov_elem1 (k := 1) (v := .string b1) sc9 rfl (fun _ hm => (hm.2.2.2.1).1) hbx rfl rfl) ?_
  refine wt 6 14 127 rfl z (ov_field fo90_1 rfl rfl) ?_
  refine wt 7 14 255 rfl z (ov_load sc9 rfl (fun _ hm => hm.1) rfl) ?_
  refine wa1 8 rfl ?_
  refine wl_callv rfl cb165 rfl rfl (fun wx hm => (stepsTo_any cs A0 n0 c0 b1 q1 wx (hm.fact 0 rfl).1 hco hn0 (keys_of hce hnb h1))) ?_
  refine wl_nil ?_
  refine nw 14 511 (fun _ hm => ⟨hm.bl 0, hm.fa 0, hm.fa 1, hm.fa 2, hm.fa 3, trivial⟩) fun z => ?_
  refine wt 9 14 1023 rfl z (ov_move rfl) ?_
  refine wt 10 14 2047 rfl z (ov_extract rfl rfl) ?_
  refine wt 11 14 4095 rfl z (ov_extract rfl rfl) ?_
  refine wt 12 14 8191 rfl z (ov_assign rfl) ?_
  refine wt 13 14 16383 rfl z (ov_assign rfl) ?_
  refine wa_done (by kernel_rfl) ?_
  refine nx_then (sr_ (mv_ rfl (wl_ov (ov_un_not rfl) rfl (nn_ ?_))))
  refine gw_cond rfl (fun hh => ?_) (fun hh => ?_)
  ·have hs : (decide (0 ≤ stepsV cs b1 q1)) = false := by simpa using hh
   clear hh
   refine sr_ ?_
   have h2 : stepsV cs b1 q1 < 0 := by have := of_decide_eq_false hs; omega
   refine sg_ rfl (nn_ ?_)
   refine gw_ret ?_
   refine nx_then_ret (nx_blk_ret (nx_then_ret (nx_then_ret (nx_blk_ret (nx_then_ret ?_)))))
   have hE1 : gvE1 cs sl ((⟨b0, b1, b2, b3, b4, b5⟩ : Bk), (⟨q0, q1, q2⟩ : Gv)) = 16 := gvE1_b h1 h2
   have hS : scanE (gvFn cs sl) none (l.zip g) = 16 := by rw [hat, hE1]; exact if_neg (by decide)
   refine nx_ret1 rfl rfl fun wx hm => ?_
   exact ⟨ret_int (by rw [hge, if_neg (by rw [hS]; decide), hS]), hm.g⟩
  have hs : (decide (0 ≤ stepsV cs b1 q1)) = true := by simpa using hh
  clear hh
  refine gw_skip (nx_then (gw_seq ?_))
  have h2 : ¬ stepsV cs b1 q1 < 0 := by have := of_decide_eq_true hs; omega
  refine gd (fun wz => Blk wz g1 90 [.string q0, .string q1, .int .i64 q2] ∧ (SlOld csEnc 2 158 w.heap.size none A0 n0 cs) wz ∧ (SlOld skEnc 2 211 w.heap.size none A1 n1 sl) wz ∧ (SlOld bkEnc 6 92 w.heap.size none (some ⟨ab, aoff, none⟩) n l) wz ∧ (SlOld gvEnc 3 90 w.heap.size none (some ⟨gb, goff, none⟩) n g) wz ∧ True) mixed (fun _ hm => ⟨hm.bl 0, hm.fa 0, hm.fa 1, hm.fa 2, hm.fa 3, trivial⟩) fun z => ?_
  refine wt 0 8 1 rfl z (ov_field fo90_2 rfl rfl) ?_
  refine wt 1 8 3 rfl z (ov_load sc3 rfl (fun _ hm => hm.1) rfl) ?_
  refine wt 2 8 7 rfl z (ov_move rfl) ?_
  refine wt 3 8 15 rfl z (ov_field fo90_1 rfl rfl) ?_
  refine wt 4 8 31 rfl z (ov_load sc9 rfl (fun _ hm => hm.1) rfl) ?_
  refine wa1 5 rfl ?_
  refine wl_callv rfl cb158 rfl rfl (fun wx hm => (many_any sl A1 n1 c1 q1 wx (hm.fact 1 rfl).1 hso hn1)) ?_
  refine wl_nil ?_
  refine nw 8 63 (fun _ hm => ⟨hm.bl 0, hm.fa 0, hm.fa 1, hm.fa 2, hm.fa 3, trivial⟩) fun z => ?_
  refine wa1 6 rfl ?_
  refine wl_callw rfl cb166 rfl rfl (fun wx hm => (in_any _ _ _ wx)) ?_
  refine wl_nil ?_
  refine nw 8 127 (fun _ hm => ⟨hm.bl 0, hm.fa 0, hm.fa 1, hm.fa 2, hm.fa 3, trivial⟩) fun z => ?_
  refine wt 7 8 255 rfl z (ov_un_not rfl) ?_
  refine wa_done (by kernel_rfl) ?_
  refine nx_then ?_
  refine gw_cond rfl (fun hh => ?_) (fun hh => ?_)
  ·have hu : (inB q2 1 (manyV sl q1)) = false := by simpa using hh
   clear hh
   refine sr_ ?_
   have h3 : inB q2 1 (manyV sl q1) = false := by simpa using hu
   refine sg_ rfl (nn_ ?_)
   refine gw_ret ?_
   refine nx_blk_ret (nx_then_ret (nx_then_ret (nx_blk_ret (nx_then_ret ?_))))
   have hE1 : gvE1 cs sl ((⟨b0, b1, b2, b3, b4, b5⟩ : Bk), (⟨q0, q1, q2⟩ : Gv)) = 1 := gvE1_c h1 h2 h3
   have hS : scanE (gvFn cs sl) none (l.zip g) = 1 := by rw [hat, hE1]; exact if_neg (by decide)
   refine nx_ret1 rfl rfl fun wx hm => ?_
   exact ⟨ret_int (by rw [hge, if_neg (by rw [hS]; decide), hS]), hm.g⟩
  have hu : (inB q2 1 (manyV sl q1)) = true := by simpa using hh
  clear hh
  refine gw_skip (nx_blk_nrm (nx_then (gw_region ?_)))
  have h3 : inB q2 1 (manyV sl q1) = true := by simpa using hu
  refine ad_ rfl rfl (mv_ rfl (wl_nil ?_))
  exact nx_round (i + 1) ⟨by (try dsimp only); omega, by (try dsimp only); rw [hat, gvE1_d h1 h2 h3, if_pos rfl]⟩ (by (try dsimp only); omega) ⟨rfl, rfl, rfl, rfl, rfl, rfl, (some_int (by omega)), trivial⟩ (fun _ hm => hm.pick [] [] [0, 1, 2, 3] rfl rfl)
 have hi : ¬ (((i : Nat) : Int) < ((n : Nat) : Int)) := by simpa using hh
 clear hh
 refine gw_exit ?_
 refine nx_then_exit (nx_then_exit ?_)
 refine nx_blk_here ?_
 refine nx_then (gw_seq (sr_ ?_))
 have hS0 : scanE (gvFn cs sl) none (l.zip g) = 0 := by rw [hsc, scanE_end _ _ _ _ (by omega)]
 rw [if_pos hS0] at hge
 clear hsc
 refine mv_ rfl (wl_ov (ov_len es80 rfl) rfl (mv_ rfl (nn_ (gw_block ?_))))
 refine gw_loop (γ := Nat) (fun (j : Nat) => j ≤ n ∧ noCfl (l.zip g) j) (fun (j : Nat) => [(2, .slice A n c), (3, .slice G n gc), (64, .slice G n gc), (65, .int .i64 ((n : Nat) : Int)), (66, .int .i64 ((j : Nat) : Int))]) (fun (j : Nat) => fun _ => True) (fun (j : Nat) => []) (fun (j : Nat) => []) (fun (j : Nat) => [SlOld csEnc 2 158 w.heap.size none A0 n0 cs, SlOld skEnc 2 211 w.heap.size none A1 n1 sl, SlOld bkEnc 6 92 w.heap.size none A n l, SlOld gvEnc 3 90 w.heap.size none G n g]) (fun (j : Nat) => n - j) 0 ⟨Nat.zero_le _, fun _ _ h => by omega⟩ ⟨rfl, rfl, rfl, rfl, rfl, trivial⟩ (fun _ hm => hm.pick [] [] [0, 1, 2, 3] rfl rfl) ?_
 intro j hinv
 replace hinv : j ≤ n ∧ noCfl (l.zip g) j := hinv
 refine sr_ ?_
 obtain ⟨hj0, hnc⟩ := hinv
 refine wl_ov (ov_lss rfl rfl) rfl (nn_ (gw_seq ?_))
 refine gw_cond rfl (fun hh => ?_) (fun hh => ?_)
 ·have hj : ((j : Nat) : Int) < ((n : Nat) : Int) := by simpa using hh
  clear hh
  refine gw_skip (nx_then (gw_seq (gw_block (sr_ ?_))))
  obtain ⟨gb, goff, hA, _, _⟩ := hg.get (by omega)
  subst hA
  obtain ⟨ab, aoff, hA, _, _⟩ := hl.get (by omega)
  subst hA
  obtain ⟨gx, hgx1⟩ : ∃ x, g[j]? = some x := ⟨_, List.getElem?_eq_getElem (by omega)⟩
  obtain ⟨q0, q1, q2⟩ := gx
  obtain ⟨bx, hbx1⟩ : ∃ x, l[j]? = some x := ⟨_, List.getElem?_eq_getElem (by omega)⟩
  obtain ⟨b0, b1, b2, b3, b4, b5⟩ := bx
  have hz1 := zipbg_at hbx1 hgx1
  refine mv_ rfl ?_
  refine wl_ov (ov_index (j := j) es80 rfl rfl (by omega)) rfl ?_
  refine wl_ov (ov_elem (vs := [.string q0, .string q1, .int .i64 q2]) rz90 rfl (fun _ hm => (hm.fact 3 rfl).1) hgx1 rfl rfl) rfl ?_
  refine wl_alloc zc90 rfl fun g2 => ?_
  refine sg_ rfl ?_
  refine wl_stores (cs' := [.string q0, .string q1, .int .i64 q2]) 0 rz90 rfl rfl rfl rfl rfl rfl rfl rfl ?_
  refine nn_ (sr_ (mv_ rfl (mv_ rfl ?_)))
  refine wl_ov (ov_sliceHi (hi := j) es80 rfl rfl rfl (by omega)) rfl ?_
  refine wl_ov (ov_len es80 rfl) rfl (mv_ rfl (nn_ (gw_block ?_)))
  refine gw_loop (γ := Nat) (fun (k : Nat) => k ≤ j ∧ ((l.zip g).take k).any (clsh ((⟨b0, b1, b2, b3, b4, b5⟩ : Bk), (⟨q0, q1, q2⟩ : Gv))) = false) (fun (k : Nat) => [(2, .slice (some ⟨ab, aoff, none⟩) n c), (3, .slice (some ⟨gb, goff, none⟩) n gc), (14, .int .i64 ((j : Nat) : Int)), (15, .pointer (some ⟨g2, 0, none⟩)), (64, .slice (some ⟨gb, goff, none⟩) n gc), (65, .int .i64 ((n : Nat) : Int)), (66, .int .i64 ((j : Nat) : Int)), (73, .slice (some ⟨gb, goff, none⟩) j gc), (74, .int .i64 ((j : Nat) : Int)), (75, .int .i64 ((k : Nat) : Int))]) (fun (k : Nat) => fun _ => True) (fun (k : Nat) => [(g2, 90, [.string q0, .string q1, .int .i64 q2])]) (fun (k : Nat) => []) (fun (k : Nat) => [SlOld csEnc 2 158 w.heap.size none A0 n0 cs, SlOld skEnc 2 211 w.heap.size none A1 n1 sl, SlOld bkEnc 6 92 w.heap.size none (some ⟨ab, aoff, none⟩) n l, SlOld gvEnc 3 90 w.heap.size none (some ⟨gb, goff, none⟩) n g]) (fun (k : Nat) => j - k) 0 ⟨Nat.zero_le _, rfl⟩ ⟨rfl, rfl, rfl, rfl, rfl, rfl, rfl, rfl, rfl, rfl, trivial⟩ (fun _ hm => hm.pick [0] [] [0, 1, 2, 3] rfl rfl) ?_
  intro k hinv
  replace hinv : k ≤ j ∧ ((l.zip g).take k).any (clsh ((⟨b0, b1, b2, b3, b4, b5⟩ : Bk), (⟨q0, q1, q2⟩ : Gv))) = false := hinv
  refine sr_ ?_
  obtain ⟨hk0, hany⟩ := hinv
  refine wl_ov (ov_lss rfl rfl) rfl (nn_ (gw_seq ?_))
  refine gw_cond rfl (fun hh => ?_) (fun hh => ?_)
  ·have hk : ((k : Nat) : Int) < ((j : Nat) : Int) := by simpa using hh
   clear hh
   refine gw_skip (nx_then (gw_seq (gw_block (sr_ ?_))))
   have hkn : k < n := by omega
   obtain ⟨gx, hgx2⟩ : ∃ x, g[k]? = some x := ⟨_, List.getElem?_eq_getElem (by omega)⟩
   obtain ⟨e0, e1, e2⟩ := gx
   obtain ⟨bx, hbx2⟩ : ∃ x, l[k]? = some x := ⟨_, List.getElem?_eq_getElem (by omega)⟩
   obtain ⟨d0, d1, d2, d3, d4, d5⟩ := bx
   have hz2 := zipbg_at hbx2 hgx2
   have hat := anyc_at (x := ((⟨b0, b1, b2, b3, b4, b5⟩ : Bk), (⟨q0, q1, q2⟩ : Gv))) hz2
   rw [hany, Bool.false_or] at hat
   have htm1 := htim _ (List.mem_of_getElem? hbx1)
   have htm2 := htim _ (List.mem_of_getElem? hbx2)
   dsimp only at htm1 htm2
   refine mv_ rfl ?_
   refine wl_ov (ov_index (j := k) es80 rfl rfl (by omega)) rfl ?_
   refine wl_ov (ov_elem (vs := [.string e0, .string e1, .int .i64 e2]) rz90 rfl (fun _ hm => (hm.fact 3 rfl).1) hgx2 rfl rfl) rfl ?_
   refine wl_alloc zc90 rfl fun g3 => ?_
   refine sg_ rfl ?_
   refine wl_stores (cs' := [.string e0, .string e1, .int .i64 e2]) 0 rz90 rfl rfl rfl rfl rfl rfl rfl rfl ?_
   refine nn_ (gw_seq ?_)
   refine gd (fun wz => Blk wz g3 90 [.string e0, .string e1, .int .i64 e2] ∧ Blk wz g2 90 [.string q0, .string q1, .int .i64 q2] ∧ (SlOld csEnc 2 158 w.heap.size none A0 n0 cs) wz ∧ (SlOld skEnc 2 211 w.heap.size none A1 n1 sl) wz ∧ (SlOld bkEnc 6 92 w.heap.size none (some ⟨ab, aoff, none⟩) n l) wz ∧ (SlOld gvEnc 3 90 w.heap.size none (some ⟨gb, goff, none⟩) n g) wz ∧ True) mixed (fun _ hm => ⟨hm.bl 0, hm.bl 1, hm.fa 0, hm.fa 1, hm.fa 2, hm.fa 3, trivial⟩) fun z => ?_
   refine wt 0 25 1 rfl z (ov_field fo90_1 rfl rfl) ?_
   refine wt 1 25 3 rfl z (ov_load sc9 rfl (fun _ hm => hm.2.1) rfl) ?_
   refine wt 2 25 7 rfl z (ov_field fo90_1 rfl rfl) ?_
   refine wt 3 25 15 rfl z (ov_load sc9 rfl (fun _ hm => hm.1) rfl) ?_
   refine wt 4 25 31 rfl z (ov_seql rfl rfl) ?_
   refine wt 5 25 63 rfl z (ov_move rfl) ?_
   rcases Bool.eq_false_or_eq_true (q1.toList == e1.toList) with hp0 | hp0
   ·refine wa_set 85 rfl (congrArg Value.bool hp0) ?_
    refine wto 6 25 127 rfl rfl rfl z (ov_field fo90_2 rfl rfl) ?_
    refine wto 7 25 255 rfl rfl rfl z (ov_load sc3 rfl (fun _ hm => hm.2.1) rfl) ?_
    refine wto 8 25 511 rfl rfl rfl z (ov_field fo90_2 rfl rfl) ?_
    refine wto 9 25 1023 rfl rfl rfl z (ov_load sc3 rfl (fun _ hm => hm.1) rfl) ?_
    refine wto 10 25 2047 rfl rfl rfl z (ov_eql rfl rfl) ?_
    refine wt 11 25 4095 rfl z (ov_pick_t rfl rfl) ?_
    refine wt 12 25 8191 rfl z (ov_move rfl) ?_
    rcases Bool.eq_false_or_eq_true (decide (q2 = e2)) with hp1 | hp1
    ·refine wa_set 92 rfl (congrArg Value.bool hp1) ?_
     refine wto 13 25 16383 rfl rfl rfl z (ov_move rfl) ?_
     refine wto 14 25 32767 rfl rfl rfl z (ov_move rfl) ?_
     refine wto 15 25 65535 rfl rfl rfl z (ov_index (j := j) es76 rfl rfl (by omega)) ?_
     refine wto 16 25 131071 rfl rfl rfl z (ov_field fo92_2 rfl rfl) ?_
     refine wto 17 25 262143 rfl rfl rfl z (ov_elemN (k := 2) (vs := [.int .i64 b2, .int .i64 b3]) rz27 rfl (fun _ hm => (hm.2.2.2.2.1).1) hbx1 rfl rfl rfl) ?_
     refine wto 18 25 524287 rfl rfl rfl z (ov_move rfl) ?_
     refine wto 19 25 1048575 rfl rfl rfl z (ov_move rfl) ?_
     refine wto 20 25 2097151 rfl rfl rfl z (ov_index (j := k) es76 rfl rfl (by omega)) ?_
     refine wto 21 25 4194303 rfl rfl rfl z (ov_field fo92_2 rfl rfl) ?_
     refine wto 22 25 8388607 rfl rfl rfl z (ov_elemN (k := 2) (vs := [.int .i64 d2, .int .i64 d3]) rz27 rfl (fun _ hm => (hm.2.2.2.2.1).1) hbx2 rfl rfl rfl) ?_
     refine wa1 23 rfl ?_
     refine wl_guard_on rfl rfl rfl ?_
     refine wl_callv rfl cb161 rfl rfl (fun wx hm => (meet_any b2 b3 d2 d3 wx)) ?_
     refine wl_nil ?_
     refine nw 25 16777215 (fun _ hm => ⟨hm.bl 0, hm.bl 1, hm.fa 0, hm.fa 1, hm.fa 2, hm.fa 3, trivial⟩) fun z => ?_
     refine wt 24 25 33554431 rfl z (ov_pick_t rfl rfl) ?_
     refine wa_done (by kernel_rfl) ?_
     refine nx_then ?_
     rcases Bool.eq_false_or_eq_true (meetW b2 b3 d2 d3) with hme | hme
     ·refine gw_set 104 rfl (congrArg Value.bool hme) ?_
      refine ct_ rfl (sr_ (sg_ rfl (nn_ ?_)))
      refine gw_ret ?_
      refine nx_blk_ret (nx_then_ret (nx_then_ret (nx_blk_ret (nx_blk_ret (nx_then_ret (nx_then_ret (nx_blk_ret (nx_then_ret ?_))))))))
      have hc : clsh ((⟨b0, b1, b2, b3, b4, b5⟩ : Bk), (⟨q0, q1, q2⟩ : Gv)) ((⟨d0, d1, d2, d3, d4, d5⟩ : Bk), (⟨e0, e1, e2⟩ : Gv)) = true := by
       unfold clsh; dsimp only
       rw [hp0, hp1, hme]; rfl
      have hcf := cfl_yes hz1 hz2 (by omega) hc
      refine nx_ret1 rfl rfl fun wx hm => ?_
      exact ⟨ret_int (by rw [hge, if_pos hcf]), hm.g⟩
     refine gw_set 104 rfl (congrArg Value.bool hme) ?_
     refine cf_ rfl (gw_skip (nx_blk_nrm (nx_then (gw_region (ad_ rfl rfl (mv_ rfl (wl_nil ?_)))))))
     have hc : clsh ((⟨b0, b1, b2, b3, b4, b5⟩ : Bk), (⟨q0, q1, q2⟩ : Gv)) ((⟨d0, d1, d2, d3, d4, d5⟩ : Bk), (⟨e0, e1, e2⟩ : Gv)) = false := by
      unfold clsh; dsimp only
      rw [hp0, hp1, hme]; rfl
     exact nx_round (k + 1) ⟨by (try dsimp only); omega, by (try dsimp only); rw [hat, hc]⟩ (by (try dsimp only); omega) ⟨rfl, rfl, rfl, rfl, rfl, rfl, rfl, rfl, rfl, (some_int (by omega)), trivial⟩ (fun _ hm => hm.pick [1] [] [0, 1, 2, 3] rfl rfl)
    refine wa_set 92 rfl (congrArg Value.bool hp1) ?_
    refine wtf 13 25 16383 rfl rfl rfl z ?_
    refine wtf 14 25 32767 rfl rfl rfl z ?_
    refine wtf 15 25 65535 rfl rfl rfl z ?_
    refine wtf 16 25 131071 rfl rfl rfl z ?_
    refine wtf 17 25 262143 rfl rfl rfl z ?_
    refine wtf 18 25 524287 rfl rfl rfl z ?_
    refine wtf 19 25 1048575 rfl rfl rfl z ?_
    refine wtf 20 25 2097151 rfl rfl rfl z ?_
    refine wtf 21 25 4194303 rfl rfl rfl z ?_
    refine wtf 22 25 8388607 rfl rfl rfl z ?_
    refine wtf 23 25 16777215 rfl rfl rfl z ?_
    refine wt 24 25 33554431 rfl z (ov_pick_f rfl rfl) ?_
    refine wa_done (by kernel_rfl) ?_
    refine nx_then (cf_ rfl (gw_skip (nx_blk_nrm (nx_then (gw_region (ad_ rfl rfl (mv_ rfl (wl_nil ?_))))))))
    have hc : clsh ((⟨b0, b1, b2, b3, b4, b5⟩ : Bk), (⟨q0, q1, q2⟩ : Gv)) ((⟨d0, d1, d2, d3, d4, d5⟩ : Bk), (⟨e0, e1, e2⟩ : Gv)) = false := by
     unfold clsh; dsimp only
     rw [hp0, hp1]; rfl
    exact nx_round (k + 1) ⟨by (try dsimp only); omega, by (try dsimp only); rw [hat, hc]⟩ (by (try dsimp only); omega) ⟨rfl, rfl, rfl, rfl, rfl, rfl, rfl, rfl, rfl, (some_int (by omega)), trivial⟩ (fun _ hm => hm.pick [1] [] [0, 1, 2, 3] rfl rfl)
   refine wa_set 85 rfl (congrArg Value.bool hp0) ?_
   refine wtf 6 25 127 rfl rfl rfl z ?_
   refine wtf 7 25 255 rfl rfl rfl z ?_
   refine wtf 8 25 511 rfl rfl rfl z ?_
   refine wtf 9 25 1023 rfl rfl rfl z ?_
   refine wtf 10 25 2047 rfl rfl rfl z ?_
   refine wt 11 25 4095 rfl z (ov_pick_f rfl rfl) ?_
   refine wt 12 25 8191 rfl z (ov_move rfl) ?_
   refine wtf 13 25 16383 rfl rfl rfl z ?_
   refine wtf 14 25 32767 rfl rfl rfl z ?_
   refine wtf 15 25 65535 rfl rfl rfl z ?_
   refine wtf 16 25 131071 rfl rfl rfl z ?_
   refine wtf 17 25 262143 rfl rfl rfl z ?_
   refine wtf 18 25 524287 rfl rfl rfl z ?_
   refine wtf 19 25 1048575 rfl rfl rfl z ?_
   refine wtf 20 25 2097151 rfl rfl rfl z ?_
   refine wtf 21 25 4194303 rfl rfl rfl z ?_
   refine wtf 22 25 8388607 rfl rfl rfl z ?_
   refine wtf 23 25 16777215 rfl rfl rfl z ?_
   refine wt 24 25 33554431 rfl z (ov_pick_f rfl rfl) ?_
   refine wa_done (by kernel_rfl) ?_
   refine nx_then (cf_ rfl (gw_skip (nx_blk_nrm (nx_then (gw_region (ad_ rfl rfl (mv_ rfl (wl_nil ?_))))))))
   have hc : clsh ((⟨b0, b1, b2, b3, b4, b5⟩ : Bk), (⟨q0, q1, q2⟩ : Gv)) ((⟨d0, d1, d2, d3, d4, d5⟩ : Bk), (⟨e0, e1, e2⟩ : Gv)) = false := by
    unfold clsh; dsimp only
    rw [hp0]; rfl
   exact nx_round (k + 1) ⟨by (try dsimp only); omega, by (try dsimp only); rw [hat, hc]⟩ (by (try dsimp only); omega) ⟨rfl, rfl, rfl, rfl, rfl, rfl, rfl, rfl, rfl, (some_int (by omega)), trivial⟩ (fun _ hm => hm.pick [1] [] [0, 1, 2, 3] rfl rfl)
  have hk : ¬ (((k : Nat) : Int) < ((j : Nat) : Int)) := by simpa using hh
  clear hh
  refine gw_exit ?_
  refine nx_then_exit (nx_then_exit ?_)
  refine nx_blk_here ?_
  refine nx_blk_nrm (nx_then (gw_region (ad_ rfl rfl (mv_ rfl (wl_nil ?_)))))
  obtain rfl : k = j := by omega
  exact nx_round (k + 1) ⟨by (try dsimp only); omega, cfl_next hnc hz1 hany⟩ (by (try dsimp only); omega) ⟨rfl, rfl, rfl, rfl, (some_int (by omega)), trivial⟩ (fun _ hm => hm.pick [] [] [0, 1, 2, 3] rfl rfl)
 have hj : ¬ (((j : Nat) : Int) < ((n : Nat) : Int)) := by simpa using hh
 clear hh
 refine gw_exit ?_
 refine nx_then_exit (nx_then_exit ?_)
 refine nx_blk_here ?_
 refine nx_then (sr_ ?_)
 have hcf := cfl_no hnc (by omega)
 refine sg_ rfl (nn_ ?_)
 refine gw_ret ?_
 refine nx_ret1 rfl rfl fun wx hm => ?_
 exact ⟨ret_int (by rw [hge, if_neg (by rw [hcf]; decide)]), hm.g⟩
theorem giv_right {cs : List Cs} {sl : List Sk} {l : List Bk} {g : List Gv} (h : givE cs sl l g = 0) : l.length = g.length ∧ ∀ x ∈ g, noB cs x.cls = false := by
  unfold givE at h
  split at h
  · rename_i hK
    have hlen : l.length = g.length := by
      unfold keysQ at hK
      simp only [Bool.and_eq_true, decide_eq_true_eq] at hK
      exact hK.1
    split at h
    · rename_i hS
      refine ⟨hlen, fun x hx => ?_⟩
      obtain ⟨i, hi⟩ := List.getElem?_of_mem hx
      have hil := (List.getElem?_eq_some_iff.1 hi).1
      obtain ⟨b, hb⟩ : ∃ b, l[i]? = some b := ⟨_, List.getElem?_eq_getElem (by omega)⟩
      obtain ⟨q, hq⟩ := scanE_all hS _ (List.mem_of_getElem? (zipbg_at hb hi))
      have hq2 : gvE1 cs sl (b, x) = 0 := hq
      unfold gvE1 at hq2
      cases hn : noB cs x.cls with
      | false => rfl
      | true => rw [if_pos hn] at hq2; cases hq2
    · rename_i hS; exact absurd h hS
  · cases h
theorem gch_zero {cs : List Cs} {sl : List Sk} {l : List Bk} {g : List Gv} (h : gchE cs sl l g = 0) : firstE [stockE cs sl, checkE cs l] = 0 ∧ givE cs sl l g = 0 := by
  unfold gchE at h
  split at h
  · exact ⟨‹_›, h⟩
  · exact absurd h ‹_›
theorem upgrades_any (cs : List Cs) (A0 : Option Addr) (n0 c0 : Nat) (sl : List Sk) (A1 : Option Addr) (n1 c1 : Nat) (l : List Bk) (A : Option Addr) (n c : Nat) (g : List Gv) (G : Option Addr) (gn gc : Nat) (w : World) (hcs : SlT csEnc 2 158 w A0 n0 cs) (hco : ∀ x ∈ cs, CsOk x) (hn0 : n0 ≤ 1000) (hs : SlT skEnc 2 211 w A1 n1 sl) (hso : ∀ x ∈ sl, SkOk x) (hn1 : n1 ≤ 1000) (hl : SlT bkEnc 6 92 w A n l) (hok : ∀ x ∈ l, BkOk x) (hn : n ≤ 1000) (hg : SlT gvEnc 3 90 w G gn g) (hgn : gn ≤ 1000) (hgc : gn ≤ gc) :
  Calls Tryz.prog 61 #[.slice A0 n0 c0, .slice A1 n1 c1, .slice A n c, .slice G gn gc] w (fun e w' => e = .returned (.tuple #[.int .i64 (if gchE cs sl l g = 0 then upV cs (l.zip g) else 0), .int .i64 (gchE cs sl l g)]) ∧ w.grownBy w' none) := by
 refine gw_enter ⟨48, w, none, []⟩ Tryz.func61 rfl Tryz.ntmps61 rfl (mem0 (X := [SlOld csEnc 2 158 w.heap.size none A0 n0 cs, SlOld skEnc 2 211 w.heap.size none A1 n1 sl, SlOld bkEnc 6 92 w.heap.size none A n l, SlOld gvEnc 3 90 w.heap.size none G gn g]) (allF_cons hcs.old (allF_cons hs.old (allF_cons hl.old (allF_cons hg.old allF_nil)))) (allL_cons SlOld.lasts (allL_cons SlOld.lasts (allL_cons SlOld.lasts (allL_cons SlOld.lasts allL_nil))))) ?_
 refine sr_ ?_
 have hll := hl.len
 have hgl := hg.len
 obtain ⟨GE, hGE⟩ : ∃ z, z = gchE cs sl l g := ⟨_, rfl⟩
 rw [← hGE]
 refine sg_ rfl (sg_ rfl (nn_ (gw_seq (sr_ (mv_ rfl (mv_ rfl (mv_ rfl (mv_ rfl ?_))))))))
 refine wl_callv (v := .int .i64 GE) rfl cb60 rfl rfl (fun wx hm => (by rw [hGE]; exact checkGiven_any cs A0 n0 c0 sl A1 n1 c1 l A n c g G gn gc wx (hm.fact 0 rfl).1 hco hn0 (hm.fact 1 rfl).1 hso hn1 (hm.fact 2 rfl).1 hok hn (hm.fact 3 rfl).1 hgn hgc)) ?_
 refine sg_ rfl (nn_ (sr_ (mv_ rfl (wl_ov (ov_neq rfl rfl) rfl (nn_ ?_)))))
 refine gw_cond rfl (fun hh => ?_) (fun hh => ?_)
 ·have h1 : ¬ (GE = 0) := by simpa using hh
  clear hh
  refine sr_ ?_
  have h1 : ¬ GE = 0 := by simpa using h1
  refine mv_ rfl (sg_ rfl (sg_ rfl (nn_ ?_)))
  refine gw_ret ?_
  refine nx_then_ret ?_
  refine nx_ret2 rfl rfl rfl fun wx hm => ?_
  exact ⟨by rw [if_neg h1], hm.g⟩
 have h1 : GE = 0 := by simpa using hh
 clear hh
 refine gw_skip (nx_then (sr_ ?_))
 obtain rfl : GE = 0 := by simpa using h1
 obtain ⟨h0, hgz⟩ := gch_zero hGE.symm
 obtain ⟨hce, hfm, hcl2⟩ := right_all h0
 obtain ⟨hle, hcls⟩ := giv_right hgz
 obtain rfl : n = gn := by omega
 have hzl : (l.zip g).length = n := by rw [List.length_zip]; omega
 refine sg_ rfl (nn_ (gw_seq (sr_ (mv_ rfl (wl_ov (ov_len es80 rfl) rfl (mv_ rfl (nn_ (gw_block ?_))))))))
 refine gw_loop (γ := Nat) (fun (i : Nat) => i ≤ n) (fun (i : Nat) => [(0, .slice A0 n0 c0), (2, .slice A n c), (8, .int .i64 0), (9, .int .i64 0), (11, .int .i64 (upV cs ((l.zip g).take i))), (24, .slice G n gc), (25, .int .i64 ((n : Nat) : Int)), (26, .int .i64 ((i : Nat) : Int))]) (fun (i : Nat) => fun _ => True) (fun (i : Nat) => []) (fun (i : Nat) => []) (fun (i : Nat) => [SlOld csEnc 2 158 w.heap.size none A0 n0 cs, SlOld skEnc 2 211 w.heap.size none A1 n1 sl, SlOld bkEnc 6 92 w.heap.size none A n l, SlOld gvEnc 3 90 w.heap.size none G n g]) (fun (i : Nat) => n - i) 0 (Nat.zero_le _) ⟨rfl, rfl, rfl, rfl, rfl, rfl, rfl, rfl, trivial⟩ (fun _ hm => hm.pick [] [] [0, 1, 2, 3] rfl rfl) ?_
 intro i hinv
 replace hinv : i ≤ n := hinv
 refine sr_ ?_
 have hi0 := hinv
 refine wl_ov (ov_lss rfl rfl) rfl (nn_ (gw_seq ?_))
 refine gw_cond rfl (fun hh => ?_) (fun hh => ?_)
 ·have hi : ((i : Nat) : Int) < ((n : Nat) : Int) := by simpa using hh
  clear hh
  refine gw_skip (nx_then (gw_seq (gw_block (sr_ ?_))))
  obtain ⟨gb, goff, hA, _, _⟩ := hg.get (by omega)
  subst hA
  obtain ⟨ab, aoff, hA, _, _⟩ := hl.get (by omega)
  subst hA
  obtain ⟨gx, hgx⟩ : ∃ x, g[i]? = some x := ⟨_, List.getElem?_eq_getElem (by omega)⟩
  obtain ⟨q0, q1, q2⟩ := gx
  obtain ⟨bx, hbx⟩ : ∃ x, l[i]? = some x := ⟨_, List.getElem?_eq_getElem (by omega)⟩
  obtain ⟨b0, b1, b2, b3, b4, b5⟩ := bx
  have hz := zipbg_at hbx hgx
  have hat := up_at (cs := cs) hz
  dsimp only at hat
  have hub := up_bound cs ((l.zip g).take i)
  have htl : ((l.zip g).take i).length ≤ 1000 := by rw [List.length_take]; omega
  have hcsl : cs.length ≤ 1000 := by rw [hcs.len]; exact hn0
  have hprod : (((l.zip g).take i).length : Int) * (cs.length : Int) ≤ 1000000 := by
   have := Nat.mul_le_mul htl hcsl
   omega
  have hsb := stepsV_bound cs b1 q1
  have hnb := hcl2 _ (List.mem_of_getElem? hbx)
  dsimp only at hnb
  have h1 := hcls _ (List.mem_of_getElem? hgx)
  dsimp only at h1
  refine mv_ rfl ?_
  refine wl_ov (ov_index (j := i) es80 rfl rfl (by omega)) rfl ?_
  refine wl_ov (ov_elem (vs := [.string q0, .string q1, .int .i64 q2]) rz90 rfl (fun _ hm => (hm.fact 3 rfl).1) hgx rfl rfl) rfl ?_
  refine wl_alloc zc90 rfl fun g1 => ?_
  refine sg_ rfl ?_
  refine wl_stores (cs' := [.string q0, .string q1, .int .i64 q2]) 0 rz90 rfl rfl rfl rfl rfl rfl rfl rfl ?_
  refine nn_ (gw_seq ?_)
  refine gd (fun wz => Blk wz g1 90 [.string q0, .string q1, .int .i64 q2] ∧ (SlOld csEnc 2 158 w.heap.size none A0 n0 cs) wz ∧ (SlOld skEnc 2 211 w.heap.size none A1 n1 sl) wz ∧ (SlOld bkEnc 6 92 w.heap.size none (some ⟨ab, aoff, none⟩) n l) wz ∧ (SlOld gvEnc 3 90 w.heap.size none (some ⟨gb, goff, none⟩) n g) wz ∧ True) mixed (fun _ hm => ⟨hm.bl 0, hm.fa 0, hm.fa 1, hm.fa 2, hm.fa 3, trivial⟩) fun z => ?_
  refine wt 0 14 1 rfl z (ov_move rfl) ?_
  refine wt 1 14 3 rfl z (ov_move rfl) ?_
  refine wt 2 14 7 rfl z (ov_move rfl) ?_
  refine wt 3 14 15 rfl z (ov_index (j := i) es76 rfl rfl (by omega)) ?_
  refine wt 4 14 31 rfl z (ov_field fo92_1 rfl rfl) ?_
  refine wt 5 14 63 rfl z (ov_elem1 (k := 1) (v := .string b1) sc9 rfl (fun _ hm => (hm.2.2.2.1).1) hbx rfl rfl) ?_
  refine wt 6 14 127 rfl z (ov_field fo90_1 rfl rfl) ?_
  refine wt 7 14 255 rfl z (ov_load sc9 rfl (fun _ hm => hm.1) rfl) ?_
  refine wa1 8 rfl ?_
  refine wl_callv rfl cb165 rfl rfl (fun wx hm => (stepsTo_any cs A0 n0 c0 b1 q1 wx (hm.fact 0 rfl).1 hco hn0 (keys_of hce hnb h1))) ?_
  refine wl_nil ?_
  refine nw 14 511 (fun _ hm => ⟨hm.bl 0, hm.fa 0, hm.fa 1, hm.fa 2, hm.fa 3, trivial⟩) fun z => ?_
  refine wt 9 14 1023 rfl z (ov_move rfl) ?_
  refine wt 10 14 2047 rfl z (ov_extract rfl rfl) ?_
  refine wt 11 14 4095 rfl z (ov_extract rfl rfl) ?_
  refine wt 12 14 8191 rfl z (ov_assign rfl) ?_
  refine wt 13 14 16383 rfl z (ov_assign rfl) ?_
  refine wa_done (by kernel_rfl) ?_
  refine nx_then (gw_region (mv_ rfl (mv_ rfl (ad_ rfl rfl (sg_ rfl (wl_nil (nx_blk_nrm (nx_then (gw_region (ad_ rfl rfl (mv_ rfl (wl_nil ?_))))))))))))
  exact nx_round (i + 1) (by omega) (by omega) ⟨rfl, rfl, rfl, rfl, (some_int hat.symm), rfl, rfl, (some_int (by omega)), trivial⟩ (fun _ hm => hm.pick [] [] [0, 1, 2, 3] rfl rfl)
 have hi : ¬ (((i : Nat) : Int) < ((n : Nat) : Int)) := by simpa using hh
 clear hh
 refine gw_exit ?_
 refine nx_then_exit (nx_then_exit ?_)
 refine nx_blk_here ?_
 refine nx_then (sr_ ?_)
 have hlt : (l.zip g).take i = (l.zip g) := List.take_of_length_le (by omega)
 rw [hlt]
 refine mv_ rfl (sg_ rfl (sg_ rfl (nn_ ?_)))
 refine gw_ret ?_
 refine nx_ret2 rfl rfl rfl fun wx hm => ?_
 exact ⟨by rw [if_pos rfl], hm.g⟩
end Go.Proofs.YtempjmpfdniecaaGreatDoor
namespace Go.Proofs.YtempjmpfdniecaaGreatDoor
open Go.RowKit
theorem scanE_zero {α : Type} {f : α → Int} : ∀ {l : List α} {p : Option α}, (∀ x ∈ l, f x = 0) → scanE (fun _ x => f x) p l = 0
  | [], _, _ => rfl
  | x :: l, p, h => by
    unfold scanE
    rw [if_pos (h x (List.mem_cons_self ..))]
    exact scanE_zero fun y hy => h y (List.mem_cons_of_mem _ hy)
section
variable {cap : ByteArray → Nat}
theorem fit_len : ∀ {P : List ((ByteArray × Wn) × Nat)} {css : List (List (CdW ByteArray))} {ss : List Nat}, FitL cap P css ss → P.length = css.length
  | _, _, _, .nil => rfl
  | _, _, _, .cons _ hr => by rw [List.length_cons, List.length_cons, fit_len hr]
theorem fit_at : ∀ {P : List ((ByteArray × Wn) × Nat)} {css : List (List (CdW ByteArray))} {ss : List Nat}, FitL cap P css ss → ∀ {i : Nat} {p : (ByteArray × Wn) × Nat} {cs : List (CdW ByteArray)}, P[i]? = some p → css[i]? = some cs → ∃ s, (p.1.1, s, cap p.1.1) ∈ cs
  | _, _, _, .nil, _, _, _, h, _ => by cases h
  | _, _, _, .cons (s := s) h hr, 0, _, _, h1, h2 => by
    cases h1; cases h2; exact ⟨s, h⟩
  | _, _, _, .cons h hr, i + 1, _, _, h1, h2 => fit_at hr (i := i) (by simpa using h1) (by simpa using h2)
theorem fit_of : ∀ (P : List ((ByteArray × Wn) × Nat)) (css : List (List (CdW ByteArray))), P.length = css.length → (∀ (i : Nat) (p : (ByteArray × Wn) × Nat) (cs : List (CdW ByteArray)), P[i]? = some p → css[i]? = some cs → ∃ s, (p.1.1, s, cap p.1.1) ∈ cs) → ∃ ss, FitL cap P css ss
  | [], [], _, _ => ⟨[], .nil⟩
  | [], _ :: _, h, _ => by cases h
  | _ :: _, [], h, _ => by cases h
  | p :: P, cs :: css, h, hh => by
    obtain ⟨s, hs⟩ := hh 0 p cs rfl rfl
    obtain ⟨ss, hss⟩ := fit_of P css (by simpa using h) fun i q c h1 h2 => hh (i + 1) q c (by simpa using h1) (by simpa using h2)
    exact ⟨s :: ss, .cons hs hss⟩
end
section
variable {cs : List Cs} {sl : List Sk}
theorem ch_mem {b : Bk} {k : CdW ByteArray} (h : k ∈ chB cs sl b) : k ∈ wayC (capB sl) 0 (clsF cs b) := (List.mem_filter.1 h).1
theorem clsF_in {b : Bk} (hcl : Closed cs) (hk : 0 ≤ ixP (csP b.cls) cs 0) {u : ByteArray} (h : u ∈ clsF cs b) : noB cs u = false := by
  have : 0 ≤ ixP (csP u) cs 0 := by
    rcases List.mem_cons.1 h with rfl | h
    · exact hk
    · exact path_in hcl _ _ u h
  unfold noB
  exact decide_eq_false (by omega)
theorem way_in {many : ByteArray → Nat} {ks : List ByteArray} {i : Nat} {k : CdW ByteArray} (h : k ∈ wayC many i ks) : k.1 ∈ ks := by
  obtain ⟨j, h1, _⟩ := way_at ks i k h
  exact List.mem_of_getElem? h1
/-- The steps add up. -/
theorem up_fit (hcl : Closed cs) (hlo : loopB cs cs.length = false) : ∀ (l : List Bk) (P : List ((ByteArray × Wn) × Nat)) (ss : List Nat), (∀ b ∈ l, 0 ≤ ixP (csP b.cls) cs 0) → FitL (capB sl) P (l.map (chB cs sl)) ss → upV cs (l.zip (gvO l (P.map cuW))) = ((ss.sum : Nat) : Int)
  | [], P, ss, _, hf => by
    cases hf; rfl
  | b :: l, P, ss, hk, hf => by
    rw [List.map_cons] at hf
    cases hf with
    | @cons p P _ _ s ss h hr =>
      have ih := up_fit hcl hlo l P ss (fun x hx => hk x (List.mem_cons_of_mem _ hx)) hr
      have hs := steps_ch hcl hlo (hk b (List.mem_cons_self ..)) (ch_mem h)
      dsimp only at hs
      have e : upV cs ((b :: l).zip (gvO (b :: l) ((p :: P).map cuW))) = max (stepsV cs b.cls p.1.1) 0 + upV cs (l.zip (gvO l (P.map cuW))) := by
        unfold upV gvO
        simp only [List.map_cons, List.zip_cons_cons, List.sum_cons]; rfl
      rw [e, ih, hs, List.sum_cons]
      omega
theorem gvO_at {l : List Bk} {P : List ((ByteArray × Wn) × Nat)} {i : Nat} {b : Bk} {p : (ByteArray × Wn) × Nat} (h1 : l[i]? = some b) (h2 : P[i]? = some p) : (gvO l (P.map cuW))[i]? = some ⟨b.key, p.1.1, ((p.2 : Nat) : Int)⟩ := by
  unfold gvO
  rw [List.getElem?_map, zip_at h1 (show (P.map cuW)[i]? = some (cuW p) by rw [List.getElem?_map, h2]; rfl)]; rfl
/-- What stands apart within its choices is right. -/
theorem giv_zero {l : List Bk} {P : List ((ByteArray × Wn) × Nat)} {ss : List Nat} (hcl : Closed cs) (hlo : loopB cs cs.length = false) (hk : ∀ b ∈ l, 0 ≤ ixP (csP b.cls) cs 0) (hf : FitL (capB sl) P (l.map (chB cs sl)) ss) (hP : PropW (capB sl) P) (hw : P.map wnW = l.map wnB) : givE cs sl l (gvO l (P.map cuW)) = 0 := by
  have hPl : P.length = l.length := by have := fit_len hf; rwa [List.length_map] at this
  have hgl : (gvO l (P.map cuW)).length = l.length := by rw [gvO_len (by rw [List.length_map]; omega), List.length_map]; exact hPl
  have hz : ∀ (i : Nat) (x : Bk × Gv), (l.zip (gvO l (P.map cuW)))[i]? = some x → ∃ b p, l[i]? = some b ∧ P[i]? = some p ∧ x = (b, ⟨b.key, p.1.1, ((p.2 : Nat) : Int)⟩) ∧ p.1.2 = wnB b := fun i x hx => by
    obtain ⟨x1, x2⟩ := x
    rw [List.getElem?_zip_eq_some] at hx
    obtain ⟨h1, h2⟩ := hx
    dsimp only at h1 h2
    have hi := (List.getElem?_eq_some_iff.1 h1).1
    obtain ⟨p, hp⟩ : ∃ p, P[i]? = some p := ⟨_, List.getElem?_eq_getElem (by omega)⟩
    rw [gvO_at h1 hp] at h2
    cases h2
    refine ⟨x1, p, h1, hp, rfl, ?_⟩
    have e := congrArg (fun z => z[i]?) hw
    rw [List.getElem?_map, List.getElem?_map, hp, h1] at e
    exact Option.some.inj e
  have h1 : keysQ l (gvO l (P.map cuW)) = true := by
    unfold keysQ
    rw [Bool.and_eq_true, decide_eq_true_eq, List.all_eq_true]
    refine ⟨hgl.symm, fun x hx => ?_⟩
    obtain ⟨i, hi⟩ := List.getElem?_of_mem hx
    obtain ⟨b, p, _, _, rfl, _⟩ := hz i x hi
    unfold keyQ
    exact beq_self_eq_true _
  have h2 : scanE (gvFn cs sl) none (l.zip (gvO l (P.map cuW))) = 0 := scanE_zero (f := gvE1 cs sl) fun x hx => by
    obtain ⟨i, hi⟩ := List.getElem?_of_mem hx
    obtain ⟨b, p, hb, hp, rfl, _⟩ := hz i x hi
    obtain ⟨s, hs⟩ := fit_at hf hp (show (l.map (chB cs sl))[i]? = some (chB cs sl b) by rw [List.getElem?_map, hb]; rfl)
    have hbk := hk b (List.mem_of_getElem? hb)
    have hst := steps_ch hcl hlo hbk (ch_mem hs)
    dsimp only at hst
    have hpb := hP.1 p (List.mem_of_getElem? hp)
    refine gvE1_d (clsF_in hcl hbk (way_in (ch_mem hs))) (by dsimp only; omega) ?_
    dsimp only
    rw [inB_iff]
    unfold capB at hpb
    omega
  have h3 : cflB (l.zip (gvO l (P.map cuW))) = false := cfl_no (i := (l.zip (gvO l (P.map cuW))).length) (fun j x _ hx => by
    rw [List.any_eq_false]
    intro y hy hc
    obtain ⟨k, hk2⟩ := List.getElem?_of_mem hy
    rw [List.getElem?_take] at hk2
    split at hk2
    · rename_i hkj
      obtain ⟨b, p, hb, hp, rfl, hpw⟩ := hz j x hx
      obtain ⟨b', q, hb', hq, rfl, hqw⟩ := hz k y hk2
      unfold clsh at hc
      simp only [Bool.and_eq_true, beq_iff_eq, decide_eq_true_eq] at hc
      obtain ⟨⟨c1, c2⟩, c3⟩ := hc
      obtain ⟨hj1, hj2⟩ := List.getElem?_eq_some_iff.1 hp
      obtain ⟨hq1, hq2⟩ := List.getElem?_eq_some_iff.1 hq
      have ha := List.pairwise_iff_getElem.1 hP.2 k j hq1 hj1 hkj
      rw [hj2, hq2] at ha
      refine ha (ba_ext c1.symm) ?_ (by omega)
      rw [hpw, hqw]
      unfold mtW wnB
      unfold meetW at c3
      simp only [Bool.and_eq_true, decide_eq_true_eq] at c3 ⊢
      omega
    · cases hk2) (Nat.le_refl _)
  unfold givE
  rw [if_pos h1, if_pos h2, if_neg (by rw [h3]; decide)]
/-- What Assign gives is right, and has so many steps. -/
theorem asg_right {l : List Bk} {o : List (ByteArray × Nat)} {n : Nat} (hcl : Closed cs) (hlo : loopB cs cs.length = false) (hk : ∀ b ∈ l, 0 ≤ ixP (csP b.cls) cs 0) (ht : ∀ b ∈ l, b.fr < b.to_) (h : (o, n) ∈ solsW (l.map wnB) (l.map (chB cs sl)) []) : givE cs sl l (gvO l o) = 0 ∧ upV cs (l.zip (gvO l o)) = (n : Int) := by
  obtain ⟨hl, _, hc, _, _⟩ := okB (sl := sl) hcl hlo hk ht
  obtain ⟨Q, ss, q1, q2, q3, q4, q5⟩ := sols_P (cap := capB sl) (l.map wnB) (l.map (chB cs sl)) [] o n hl hc ⟨(fun p hp => by cases hp), List.Pairwise.nil⟩ h
  rw [List.nil_append] at q3 q5
  rw [q3, q2]
  exact ⟨giv_zero hcl hlo hk q1 q5 q4, up_fit hcl hlo l Q ss hk q1⟩
/-- A division of right vehicles has at least as many steps. -/
theorem asg_min {l : List Bk} {P : List ((ByteArray × Wn) × Nat)} {ss : List Nat} (hcl : Closed cs) (hlo : loopB cs cs.length = false) (hk : ∀ b ∈ l, 0 ≤ ixP (csP b.cls) cs 0) (ht : ∀ b ∈ l, b.fr < b.to_) (hf : FitL (capB sl) P (l.map (chB cs sl)) ss) (hP : PropW (capB sl) P) (hw : P.map wnW = l.map wnB) : ∃ o n, asgO cs sl l = some o ∧ (o, n) ∈ solsW (l.map wnB) (l.map (chB cs sl)) [] ∧ n ≤ ss.sum := by
  have hok := okB (sl := sl) hcl hlo hk ht
  obtain ⟨o1, ho1⟩ := (sols_iff hok.1 hok.2.1 hok.2.2.1 ss.sum).2 ⟨P, ss, hf, rfl, hw, cap_of hP⟩
  have hdoc : ∀ m, docF (l.map wnB) (l.map (chB cs sl)) [] m = ((solsW (l.map wnB) (l.map (chB cs sl)) []).find? fun o => decide (o.2 = m)).map Prod.fst := fun m => by
    rw [docF_fill _ [] m canU_nil hok.2.2.2.2, fill_find]
  have hne : docF (l.map wnB) (l.map (chB cs sl)) [] ss.sum ≠ none := fun e => by
    rw [hdoc, Option.map_eq_none_iff] at e
    exact absurd (List.find?_eq_none.1 e _ ho1) (by simp)
  rcases assign_same hok (List.Perm.refl _) with ⟨_, h2⟩ | ⟨n, o, h1, h2, h3, h4, h5⟩
  · exact absurd (h2 _) hne
  · have hle : n ≤ ss.sum := by
      rcases Nat.lt_or_ge ss.sum n with h | h
      · exact absurd (h2 _ h) hne
      · exact h
    have hle2 := sols_le (M := cs.length) (l.map (chB cs sl)) [] (fun c hc k hkm => by
      obtain ⟨b, hb, rfl⟩ := List.mem_map.1 hc
      have h6 := (ch_ok (many := capB sl) (path_nodup hcl hlo (hk b hb))).2.2.2 k hkm
      have h7 := path_lenA hcl hlo (hk b hb)
      omega) _ h5
    rw [List.length_map] at hle2
    exact ⟨o, n, range_find h2 h3 (by dsimp only at hle2; omega), h5, hle⟩
theorem asgO_sols {l : List Bk} {o : List (ByteArray × Nat)} (hcl : Closed cs) (hlo : loopB cs cs.length = false) (hk : ∀ b ∈ l, 0 ≤ ixP (csP b.cls) cs 0) (ht : ∀ b ∈ l, b.fr < b.to_) (h : asgO cs sl l = some o) : ∃ n, (o, n) ∈ solsW (l.map wnB) (l.map (chB cs sl)) [] := by
  rcases asg_same (sl := sl) hcl hlo hk ht (List.Perm.refl _) with ⟨_, h2⟩ | ⟨n, o', _, h2, _, _, h5⟩
  · rw [h2] at h; cases h
  · rw [h2] at h; cases h
    exact ⟨n, h5⟩
theorem way_of {many : ByteArray → Nat} : ∀ {ks : List ByteArray} {i : Nat} {c : ByteArray}, c ∈ ks → ∃ s, (c, s, many c) ∈ wayC many i ks
  | [], _, _, h => by cases h
  | k :: r, i, c, h => by
    unfold wayC
    rcases List.mem_cons.1 h with rfl | h
    · exact ⟨i, List.mem_cons_self ..⟩
    · obtain ⟨s, hs⟩ := way_of (i := i + 1) h
      exact ⟨s, List.mem_cons_of_mem _ hs⟩
theorem cand_ch {b : Bk} {c : Cand} (h : c ∈ cdB cs sl b) : (∃ s, (c.1, s, capB sl c.1) ∈ chB cs sl b) ∧ 1 ≤ c.2 ∧ c.2 ≤ (capB sl c.1 : Int) := by
  unfold cdB candsF at h
  rw [List.mem_flatMap] at h
  obtain ⟨k, h1, h2⟩ := h
  unfold unitsF at h2
  rw [List.drop_zero] at h2
  obtain ⟨i, h3, rfl⟩ := List.mem_map.1 h2
  have h4 : i < capB sl k := List.mem_range.1 h3
  obtain ⟨s, hs⟩ := way_of (many := capB sl) (i := 0) h1
  exact ⟨⟨s, List.mem_filter.2 ⟨hs, by simpa using (by omega : 0 < capB sl k)⟩⟩, by dsimp only; omega, by dsimp only; omega⟩
end
theorem gAll_take {cd : Bk → List Cand} : ∀ (n : Nat) (ord : List Bk), ord.length = n → ∀ j, (gAll cd ord).take j = gAll cd (ord.take j)
  | 0, ord, h, j => by
    obtain rfl := List.length_eq_zero_iff.1 h
    rw [List.take_nil]
    exact List.take_nil
  | n + 1, ord, h, j => by
    obtain ⟨b, hb⟩ : ∃ b, ord[n]? = some b := ⟨_, List.getElem?_eq_getElem (by omega)⟩
    have e : ord = ord.take n ++ [b] := by
      have := List.take_add_one (l := ord) (i := n)
      rw [hb, Option.toList_some, List.take_of_length_le (by omega)] at this
      exact this
    rcases Nat.lt_or_ge n j with hj | hj
    · rw [List.take_of_length_le (by rw [gAll_len]; omega), List.take_of_length_le (by omega)]
    · have ih := gAll_take (cd := cd) n (ord.take n) (by rw [List.length_take]; omega) j
      have e2 : gAll cd ord = gAll cd (ord.take n) ++ [(b, gPick cd (gAll cd (ord.take n)) b)] := by
        conv => lhs; rw [e]
        rw [gAll_snoc]; rfl
      rw [e2, List.take_append_of_le_length (by rw [gAll_len, List.length_take]; omega), ih, List.take_take, Nat.min_eq_left hj]
theorem gAll_get {cd : Bk → List Cand} {ord : List Bk} {j : Nat} {b : Bk} (h : ord[j]? = some b) : (gAll cd ord)[j]? = some (b, gPick cd ((gAll cd ord).take j) b) := by
  have hj := (List.getElem?_eq_some_iff.1 h).1
  have h1 := gAll_take (cd := cd) _ ord rfl (j + 1)
  rw [gAll_at h] at h1
  have h2 := congrArg (fun z => z[j]?) h1
  rw [List.getElem?_take, if_pos (Nat.lt_succ_self j)] at h2
  rw [h2, gAll_take _ ord rfl j]
  unfold gStep
  rw [List.getElem?_append_right (by rw [gAll_len, List.length_take]; omega), gAll_len, List.length_take, Nat.min_eq_left (by omega), Nat.sub_self]; rfl
section
variable {cs : List Cs} {sl : List Sk} {l : List Bk}
/-- One booking and what it has. -/
def gqP (cs : List Cs) (sl : List Sk) (l : List Bk) (k : Nat) : (ByteArray × Wn) × Nat := (((gvAt (gotE cs sl l) k).cls, wnB (bkAt l k)), (gvAt (gotE cs sl l) k).unit.toNat)
theorem wait_all (h : waitE cs sl l = []) : ∀ k, k < l.length → 0 < (gvAt (gotE cs sl l) k).unit := fun k hk => by
  rcases Decidable.em (0 < (gvAt (gotE cs sl l) k).unit) with h0 | h0
  · exact h0
  · have : (bkAt l k).key ∈ waitE cs sl l := List.mem_filterMap.2 ⟨k, List.mem_range.2 hk, by unfold lfF; rw [if_neg h0]⟩
    rw [h] at this; cases this
theorem got_at (hk : ∀ k, k < l.length → 0 < (gvAt (gotE cs sl l) k).unit) {j k : Nat} (hj : (idsN l)[j]? = some k) : ∃ c, (gAll (cdB cs sl) (isort grLt l))[j]? = some (bkAt l k, some c) ∧ gvAt (gotE cs sl l) k = ⟨(bkAt l k).key, c.1, c.2⟩ ∧ c ∈ cdB cs sl (bkAt l k) ∧ takenB ((gAll (cdB cs sl) (isort grLt l)).take j) (bkAt l k) c = false := by
  obtain ⟨_, h2⟩ := gotE_ok cs sl l
  obtain ⟨o, ho, hg⟩ := h2 j k hj
  have hkl := ids_lt l k (List.mem_of_getElem? hj)
  have hu := hk k hkl
  cases o with
  | none =>
    rw [show gvAt (gotE cs sl l) k = gvZ from hg] at hu
    exact absurd hu (by decide)
  | some c =>
    have hob : (isort grLt l)[j]? = some (bkAt l k) := by
      have := congrArg (fun z => z[j]?) (ids_ord l)
      rw [List.getElem?_map, hj] at this
      exact this.symm
    have hp := gAll_get (cd := cdB cs sl) hob
    rw [ho] at hp
    have hpk : gPick (cdB cs sl) ((gAll (cdB cs sl) (isort grLt l)).take j) (bkAt l k) = some c := (Prod.mk.inj (Option.some.inj hp)).2.symm
    unfold gPick at hpk
    have hm := List.mem_of_find?_eq_some hpk
    have hq := List.find?_some hpk
    exact ⟨c, ho, hg, hm, by simpa using hq⟩
theorem gq_prop (hk : ∀ k, k < l.length → 0 < (gvAt (gotE cs sl l) k).unit) : PropW (capB sl) ((List.range l.length).map (gqP cs sl l)) := by
  have hids := ids_perm l
  refine ⟨fun p hp => ?_, ?_⟩
  · obtain ⟨k, hkm, rfl⟩ := List.mem_map.1 hp
    obtain ⟨j, hj⟩ := List.getElem?_of_mem (hids.mem_iff.2 hkm)
    obtain ⟨c, _, h2, h3, _⟩ := got_at hk hj
    have h4 := (cand_ch h3).2
    unfold gqP
    rw [h2]
    dsimp only
    omega
  · refine ((hids.map (gqP cs sl l)).pairwise_iff (fun h => apartC_symm h)).1 ?_
    rw [List.pairwise_map, List.pairwise_iff_getElem]
    intro i j hi hj hij
    have hi2 : (idsN l)[i]? = some ((idsN l)[i]) := List.getElem?_eq_getElem hi
    have hj2 : (idsN l)[j]? = some ((idsN l)[j]) := List.getElem?_eq_getElem hj
    generalize (idsN l)[i] = a at *
    generalize (idsN l)[j] = b at *
    obtain ⟨c, c1, c2, c3, c4⟩ := got_at hk hi2
    obtain ⟨d, d1, d2, d3, d4⟩ := got_at hk hj2
    have hc := (cand_ch c3).2
    have hd := (cand_ch d3).2
    unfold gqP
    rw [c2, d2]
    intro e1 e2 e3
    dsimp only at e1 e2 e3
    unfold takenB at d4
    rw [List.any_eq_false] at d4
    refine d4 (bkAt l a, some c) (List.mem_of_getElem? (i := i) (by rw [List.getElem?_take, if_pos hij]; exact c1)) ?_
    dsimp only
    simp only [Bool.and_eq_true, beq_iff_eq, decide_eq_true_eq]
    refine ⟨⟨congrArg ByteArray.toList e1, by omega⟩, ?_⟩
    unfold mtW wnB at e2
    unfold meetB meetW
    simp only [Bool.and_eq_true, decide_eq_true_eq] at e2 ⊢
    omega
theorem gq_fit (hk : ∀ k, k < l.length → 0 < (gvAt (gotE cs sl l) k).unit) : ∃ ss, FitL (capB sl) ((List.range l.length).map (gqP cs sl l)) (l.map (chB cs sl)) ss := by
  refine fit_of _ _ (by simp) fun i p c h1 h2 => ?_
  rw [List.getElem?_map] at h1 h2
  rcases Nat.lt_or_ge i l.length with hi | hi
  · rw [List.getElem?_range hi] at h1
    obtain ⟨b, hb⟩ : ∃ b, l[i]? = some b := ⟨_, List.getElem?_eq_getElem hi⟩
    rw [hb] at h2
    cases h1; cases h2
    have hbk : bkAt l i = b := by unfold bkAt; rw [hb]; rfl
    obtain ⟨j, hj⟩ := List.getElem?_of_mem ((ids_perm l).mem_iff.2 (List.mem_range.2 hi))
    obtain ⟨c, _, c2, c3, _⟩ := got_at hk hj
    rw [hbk] at c3
    show ∃ s, ((gvAt (gotE cs sl l) i).cls, s, capB sl (gvAt (gotE cs sl l) i).cls) ∈ chB cs sl b
    rw [c2]
    exact (cand_ch c3).1
  · rw [List.getElem?_eq_none hi] at h2; cases h2
theorem gq_wn : ((List.range l.length).map (gqP cs sl l)).map wnW = l.map wnB := by
  have h := congrArg (List.map wnB) (range_bk l)
  rw [List.map_map] at h ⊢
  exact h
theorem gq_got (hk : ∀ k, k < l.length → 0 < (gvAt (gotE cs sl l) k).unit) : gvO l (((List.range l.length).map (gqP cs sl l)).map cuW) = givenE cs sl l := by
  have hgl := gotE_len cs sl l
  have hall : givenE cs sl l = gotE cs sl l := by
    unfold givenE
    refine List.filter_eq_self.2 fun g hg => ?_
    obtain ⟨i, hi⟩ := List.getElem?_of_mem hg
    have h1 := hk i (by have := (List.getElem?_eq_some_iff.1 hi).1; omega)
    unfold gvAt at h1
    rw [hi] at h1
    exact decide_eq_true h1
  rw [hall]
  refine List.ext_getElem? fun i => ?_
  rcases Nat.lt_or_ge i l.length with hi | hi
  · obtain ⟨b, hb⟩ : ∃ b, l[i]? = some b := ⟨_, List.getElem?_eq_getElem hi⟩
    obtain ⟨g, hg⟩ : ∃ g, (gotE cs sl l)[i]? = some g := ⟨_, List.getElem?_eq_getElem (by omega)⟩
    have hP : ((List.range l.length).map (gqP cs sl l))[i]? = some (gqP cs sl l i) := by rw [List.getElem?_map, List.getElem?_range hi]; rfl
    rw [gvO_at hb hP, hg]
    have hga : gvAt (gotE cs sl l) i = g := by unfold gvAt; rw [hg]; rfl
    have h1 := hk i hi
    have h2 := gotE_key hi h1
    have hbk : bkAt l i = b := by unfold bkAt; rw [hb]; rfl
    rw [hbk] at h2
    unfold gqP
    rw [hga] at h1 h2 ⊢
    obtain ⟨g1, g2, g3⟩ := g
    dsimp only at h1 h2 ⊢
    rw [← h2, show ((g3.toNat : Nat) : Int) = g3 by omega]
  · rw [List.getElem?_eq_none (show (gvO l (((List.range l.length).map (gqP cs sl l)).map cuW)).length ≤ i by
      rw [gvO_len (by simp)]
      simpa using hi), List.getElem?_eq_none (by omega)]
/-- Where all have a vehicle of Greedy, all have one of Assign, with no more steps; both are right. -/
theorem greedy_less (hcl : Closed cs) (hlo : loopB cs cs.length = false) (hk : ∀ b ∈ l, 0 ≤ ixP (csP b.cls) cs 0) (ht : ∀ b ∈ l, b.fr < b.to_) (h : waitE cs sl l = []) : givE cs sl l (givenE cs sl l) = 0 ∧ ∃ o, asgO cs sl l = some o ∧ givE cs sl l (gvO l o) = 0 ∧ upV cs (l.zip (gvO l o)) ≤ upV cs (l.zip (givenE cs sl l)) := by
  have h0 := wait_all h
  obtain ⟨ss, hf⟩ := gq_fit h0
  have hP := gq_prop h0
  obtain ⟨o, n, h1, h2, h3⟩ := asg_min hcl hlo hk ht hf hP gq_wn
  have h4 := asg_right hcl hlo hk ht h2
  have h5 := up_fit hcl hlo l _ ss hk hf
  rw [gq_got h0] at h5
  refine ⟨?_, o, h1, h4.1, ?_⟩
  · have := giv_zero hcl hlo hk hf hP gq_wn
    rw [gq_got h0] at this; exact this
  · rw [h4.2, h5]; omega
theorem giv_wait : (givenE cs sl l).length + (waitE cs sl l).length = l.length := by
  have hgl := gotE_len cs sl l
  have h1 : (givenE cs sl l).length = ((List.range l.length).filter fun k => decide (0 < (gvAt (gotE cs sl l) k).unit)).length := by
    have e : gotE cs sl l = (List.range l.length).map (gvAt (gotE cs sl l)) := by
      refine List.ext_getElem? fun i => ?_
      rw [List.getElem?_map]
      rcases Nat.lt_or_ge i l.length with hi | hi
      · obtain ⟨g, hg⟩ : ∃ g, (gotE cs sl l)[i]? = some g := ⟨_, List.getElem?_eq_getElem (by omega)⟩
        rw [List.getElem?_range hi, hg]
        unfold gvAt
        rw [Option.map_some, hg]; rfl
      · rw [List.getElem?_eq_none (by omega), List.getElem?_eq_none (by simpa using hi)]; rfl
    unfold givenE
    conv => lhs; rw [e]
    rw [List.filter_map, List.length_map]; rfl
  have h2 : ∀ r : List Nat, (r.filter fun k => decide (0 < (gvAt (gotE cs sl l) k).unit)).length + (r.filterMap (lfF l (gotE cs sl l))).length = r.length := by
    intro r
    induction r with
    | nil => rfl
    | cons k r ih =>
      by_cases hu : 0 < (gvAt (gotE cs sl l) k).unit
      · rw [List.filter_cons_of_pos (by simpa using hu), List.filterMap_cons_none (by unfold lfF; rw [if_pos hu]), List.length_cons, List.length_cons]
        omega
      · rw [List.filter_cons_of_neg (by simpa using hu), List.filterMap_cons_some (by unfold lfF; rw [if_neg hu]), List.length_cons, List.length_cons]
        omega
  rw [h1]
  have h3 := h2 (List.range l.length)
  rw [List.length_range] at h3
  exact h3
end
end Go.Proofs.YtempjmpfdniecaaGreatDoor
