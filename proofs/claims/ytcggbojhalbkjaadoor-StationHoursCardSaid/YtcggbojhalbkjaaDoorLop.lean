/- The walks of lot.hours, common, checkStation, IsOpen, NextOpen and OpenMinutes. -/
import Derived.Test.YtcggbojhalbkjaaDoorLst
import Derived.StillTailTactics
namespace Go.Proofs.YtcggbojhalbkjaaDoor
open Go.RowKit

theorem list14 (hs : List Int) (h : hs.length = 14) : ∃ a0 a1 a2 a3 a4 a5 a6 a7 a8 a9 a10 a11 a12 a13, hs = [a0, a1, a2, a3, a4, a5, a6, a7, a8, a9, a10, a11, a12, a13] := by
  match hs, h with
  | [a0, a1, a2, a3, a4, a5, a6, a7, a8, a9, a10, a11, a12, a13], _ => exact ⟨a0, a1, a2, a3, a4, a5, a6, a7, a8, a9, a10, a11, a12, a13, rfl⟩

def hourFr (hs : List Int) (d : Int) : Int := d * 1440 + frAt hs (d % 7).toNat
def hourTo (hs : List Int) (d : Int) : Int := d * 1440 + toAt hs (d % 7).toNat

def GotWin (w : World) (a b : Int) (e : Ending) (w' : World) : Prop := e = .returned (.agg #[.int .i64 a, .int .i64 b]) ∧ w.grownBy w' none

set_option maxRecDepth 100000 in
set_option maxHeartbeats 1000000 in
theorem hours_any (key : ByteArray) (hs : List Int) (d : Int) (w : World) (hl : hs.length = 14) (hd0 : 0 ≤ d) (hd1 : d ≤ 1000000000) (hb : ∀ h ∈ hs, -1000000000000000000 ≤ h ∧ h ≤ 1000000000000000000) :
    Calls Tryd.prog 65 #[.agg (stCells key hs).toArray, .int .i64 d] w (GotWin w (hourFr hs d) (hourTo hs d)) := by
  obtain ⟨j, hj⟩ : ∃ j : Nat, (j : Int) = d % 7 := ⟨(d % 7).toNat, by omega⟩
  have hj7 : j < 7 := by omega
  have hF : hourFr hs d = d * 1440 + frAt hs j := by unfold hourFr; rw [← hj]; simp
  have hT : hourTo hs d = d * 1440 + toAt hs j := by unfold hourTo; rw [← hj]; simp
  have hf : -1000000000000000000 ≤ frAt hs j ∧ frAt hs j ≤ 1000000000000000000 := by
    unfold frAt; rw [List.getD_eq_getElem?_getD, List.getElem?_eq_getElem (by omega)]; exact hb _ (List.getElem_mem _)
  have ht : -1000000000000000000 ≤ toAt hs j ∧ toAt hs j ≤ 1000000000000000000 := by
    unfold toAt; rw [List.getD_eq_getElem?_getD, List.getElem?_eq_getElem (by omega)]; exact hb _ (List.getElem_mem _)
  rw [hF, hT]
  have hvs : ((hs.map (Value.int .i64)).drop (j * 2)).take 2 = [.int .i64 (frAt hs j), .int .i64 (toAt hs j)] := hrs_pair hs j (by omega)
  generalize frAt hs j = f at *
  generalize toAt hs j = t at *
  have hvv : ∀ i v, [Value.int .i64 f, Value.int .i64 t][i]? = some v → (stCells key hs)[1 + j * 2 + i]? = some v := fun i v hv => by
    rw [← hvs, List.getElem?_take] at hv
    split at hv
    · rw [List.getElem?_drop] at hv
      rw [show 1 + j * 2 + i = (j * 2 + i) + 1 by omega]
      exact hv
    · cases hv
  have Hvv := Lib.hid hvv
  have hj' : d % 7 = (j : Int) := hj.symm
  have hbox : Blk ((w.alloc (.cells (stCells key hs).toArray 56)).alloc (.cells #[.int .i64 0, .int .i64 0] 31)) w.heap.size 56 (stCells key hs) := (Blk.at_ w rfl _ _).alloc _
  clear hvv hvs hF hT hj
  go_enter Tryd.func65, Tryd.ntmps65
  go_wp2_with (with_reducible refine wpList_load_blk rfl 31 (.tmp 9) rfl w.heap.size (1 + j * 2) _ (stCells key hs) [.int .i64 f, .int .i64 t] _ hbox rfl Tryd.underlying31 rfl 2 info_win (by simp) Hvv.out ?_)
  refine bodyPost_ret (v := .agg #[.int .i64 (d * 1440 + f), .int .i64 (d * 1440 + t)]) (by simp [results, Tryd.results65, go_sem]) rfl ⟨rfl, ?_⟩
  exact grow_alloc (grow_alloc (grow_alloc (World.grownBy.refl _ _) _) _) _

def commonV (a b c d : Int) : Int := max 0 (min b d - max a c)
set_option maxHeartbeats 400000 in
theorem common_any (a b c d : Int) (w : World) (h1 : -2000000000000000000 ≤ a ∧ a ≤ 2000000000000000000) (h2 : -2000000000000000000 ≤ b ∧ b ≤ 2000000000000000000) (h3 : -2000000000000000000 ≤ c ∧ c ≤ 2000000000000000000) (h4 : -2000000000000000000 ≤ d ∧ d ≤ 2000000000000000000) :
    Calls Tryd.prog 67 #[.agg #[.int .i64 a, .int .i64 b], .agg #[.int .i64 c, .int .i64 d]] w fun e w' => e = .returned (.int .i64 (commonV a b c d)) ∧ w.grownBy w' none := by
  have hv : commonV a b c d = max 0 (min b d - max a c) := rfl
  have Hv := Lib.hid hv
  clear hv
  go_enter Tryd.func67, Tryd.ntmps67
  go_wp2
  all_goals
    go_ret
    exact ⟨ret_int (by rw [Hv.out]; omega), grow_alloc (grow_alloc (World.grownBy.refl _ _) _) _⟩

theorem st_self (key : ByteArray) (hs : List Int) : (stCells key hs) = [(⟨key, hs⟩ : St)].flatMap stEnc := by simp [stEnc]
theorem stEnc_len {s : St} (h : StOk s) : (stEnc s).length = 15 := st_len _ _ h.1
theorem sl_one {key : ByteArray} {hs : List Int} {w : World} {g : Nat} (h : Blk w g 56 (stCells key hs)) : SlT stEnc 15 56 w (some ⟨g, 0, none⟩) 1 [⟨key, hs⟩] :=
  ⟨rfl, fun _ => ⟨g, 0, _, _, rfl, h, fun i x hx j v hv => by
    match i, hx with
    | 0, hx =>
      simp at hx; subst hx
      simpa [stEnc] using hv⟩⟩

set_option maxRecDepth 100000 in
set_option maxHeartbeats 1000000 in
theorem checkStation_any (key : ByteArray) (hs : List Int) (f : Int) (w : World) (hok : StOk ⟨key, hs⟩) :
    Calls Tryd.prog 63 #[.agg (stCells key hs).toArray, .int .i64 f] w fun e w' => e = .returned (.int .i64 (firstE [stationsE [⟨key, hs⟩], f])) ∧ w.grownBy w' none := by
  have hsl := fun (wz : World) (hz : wz.heap.size = w.heap.size + 1) => sl_one (Blk.at_ wz hz 56 (stCells key hs))
  have Hsl := Lib.hid hsl
  have Hok := Lib.hid hok
  clear hsl
  obtain ⟨a0, a1, a2, a3, a4, a5, a6, a7, a8, a9, a10, a11, a12, a13, rfl⟩ := list14 hs hok.1
  clear hok
  show Calls Tryd.prog 63 #[.agg #[.string key, .int .i64 a0, .int .i64 a1, .int .i64 a2, .int .i64 a3, .int .i64 a4, .int .i64 a5, .int .i64 a6, .int .i64 a7, .int .i64 a8, .int .i64 a9, .int .i64 a10, .int .i64 a11, .int .i64 a12, .int .i64 a13], .int .i64 f] w _
  go_enter Tryd.func63, Tryd.ntmps63
  go_wp2_with fail
  refine (checkStations_any [⟨key, [a0, a1, a2, a3, a4, a5, a6, a7, a8, a9, a10, a11, a12, a13]⟩] _ _ _ _ (Hsl.out (w.alloc (.cells #[.string key, .int .i64 a0, .int .i64 a1, .int .i64 a2, .int .i64 a3, .int .i64 a4, .int .i64 a5, .int .i64 a6, .int .i64 a7, .int .i64 a8, .int .i64 a9, .int .i64 a10, .int .i64 a11, .int .i64 a12, .int .i64 a13] 56)) (by simp)) (by intro s hs; simp at hs; subst hs; exact Hok.out) (by omega)).mono ?_
  rintro e w1 ⟨rfl, hg1⟩
  have hg1' : w.grownBy w1 none := grow_trans (grow_alloc (grow_alloc (World.grownBy.refl _ _) _) _) hg1
  obtain ⟨E, hE⟩ : ∃ E, E = stationsE [⟨key, [a0, a1, a2, a3, a4, a5, a6, a7, a8, a9, a10, a11, a12, a13]⟩] := ⟨_, rfl⟩
  rw [← hE]
  have HE := Lib.hid hE; clear hE
  go_wp2_with fail
  refine (first_any [E, f] _ _ _ _ (Blk.at_ _ rfl _ _) (by simp)).mono ?_
  rintro e w2 ⟨rfl, rfl⟩
  go_wp2_with fail
  go_ret
  exact ⟨by rw [← HE.out]; rfl, grow_alloc hg1' _⟩


theorem hs_bound {hs : List Int} (h : ∀ x ∈ hs, -1000000000000000000 ≤ x ∧ x ≤ 1000000000000000000) (i : Nat) : -1000000000000000000 ≤ hs.getD i 0 ∧ hs.getD i 0 ≤ 1000000000000000000 := by
  rw [List.getD_eq_getElem?_getD]
  rcases Nat.lt_or_ge i hs.length with hl | hl
  · rw [List.getElem?_eq_getElem hl]; exact h _ (List.getElem_mem _)
  · rw [List.getElem?_eq_none hl]; decide

def isOpenE (s : St) (at_ : Int) : Int := firstE [stationsE [s], momentE at_]
def isOpenV (s : St) (at_ : Int) : Bool := isOpenE s at_ == 0 && decide (hourFr s.hs (at_ / 1440) ≤ at_) && decide (at_ < hourTo s.hs (at_ / 1440))

end Go.Proofs.YtcggbojhalbkjaaDoor
