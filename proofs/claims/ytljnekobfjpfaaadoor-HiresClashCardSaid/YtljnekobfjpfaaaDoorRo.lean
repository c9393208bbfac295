/- The walks of the reference's IsOpen, and of what CloseOf, ExtendOf hand to changed. -/
import Derived.Test.YtljnekobfjpfaaaDoorRm
import Derived.Test.YtljnekobfjpfaaaDoorHh
import Derived.IntWalk
namespace Go.Proofs.YtljnekobfjpfaaaDoor
open Go.RowKit

set_option maxRecDepth 100000 in
set_option maxHeartbeats 1000000 in
theorem isOpen_any (key driver : ByteArray) (fr to_ : Int) (l : List Lg) (A : Option Addr) (n c : Nat) (w : World) (hl : SlT lgEnc 9 138 w A n l) (hn : n ≤ 1000000) :
    Calls Tryd.prog 66 #[.agg #[.string key, .string driver, .int .i64 fr, .int .i64 to_, .slice A n c]] w (fun e w' => e = .returned (.bool (openB l)) ∧ w.grownBy w' none) := by
  have hlen := hl.len
  by_cases hn0 : n = 0
  · have HO := Lib.hid (show openB l = false by
      have : l = [] := List.length_eq_zero_iff.1 (by omega)
      rw [this]; rfl)
    subst hn0
    clear hlen
    go_enter Tryd.func66, Tryd.ntmps66
    go_wp2_with fail
    go_ret
    exact ⟨ret_bool HO.out.symm, grow_alloc (World.grownBy.refl _ _) _⟩
  · have hp : 0 < n := by omega
    obtain ⟨g, hg⟩ : ∃ g, l[n - 1]? = some g := ⟨_, List.getElem?_eq_getElem (by omega)⟩
    obtain ⟨b, off, rfl, hbl, hrg⟩ := hl.get hp
    have HO := Lib.hid (show openB l = (g.inn.at_ == -1) by unfold openB; rw [hlen, hg])
    obtain ⟨veh, ⟨a1, s1, m1, f1⟩, ⟨a2, s2, m2, f2⟩⟩ := g
    have hr0 := hrg (n - 1) _ hg
    have hc : w.cell? ⟨b, off + (n - 1) * 9 + 5, none⟩ = some (.int .i64 a2) := hr0 5 _ rfl
    have hc2 := fun o => (World.cell?_of_block (a := ⟨b, off + (n - 1) * 9 + 5, none⟩) (Below.heap_alloc w o b hbl)).trans hc
    have hki : (n : Int) - 1 = ((n - 1 : Nat) : Int) := by omega
    have hk1 : (n : Int) - 1 < (n : Int) := by omega
    have hk0 : (0 : Int) ≤ (n : Int) - 1 := by omega
    have hpos : decide (0 < n) = true := by simpa using hp
    clear hr0 hrg hc hg hlen hl hn0
    go_enter Tryd.func66, Tryd.ntmps66
    go_wp2_with fail
    go_ret
    exact ⟨ret_bool HO.out.symm, grow_alloc (World.grownBy.refl _ _) _⟩

set_option maxRecDepth 100000 in
set_option maxHeartbeats 1000000 in
theorem extendFn_any (hb tb : Nat) (key driver : ByteArray) (fr to_ to2 : Int) (A : Option Addr) (n c : Nat) (w : World) (hH : Blk w hb 36 [.string key, .string driver, .int .i64 fr, .int .i64 to_, .slice A n c]) (hT : Blk w tb 3 [.int .i64 to2]) :
    Calls Tryd.prog 124 #[.pointer (some ⟨hb, 0, none⟩), .pointer (some ⟨tb, 0, none⟩)] w (fun e w' => (∃ r, e = .returned r) ∧ Blk w' hb 36 [.string key, .string driver, .int .i64 fr, .int .i64 to2, .slice A n c] ∧ w.grownBy w' (some hb)) := by
  have c3 := hH.cell_of (i := 3) (v := .int .i64 to_) rfl
  have f3 := hH.frozen 3
  have t0 := hT.cell_of (i := 0) (v := .int .i64 to2) rfl
  go_enter Tryd.func124, Tryd.ntmps124
  go_wp2_with fail
  go_end0
  exact ⟨⟨_, rfl⟩, hH.set_ 3 _, grow_setCell (World.grownBy.refl _ _) (.inl rfl) _⟩

set_option maxRecDepth 100000 in
set_option maxHeartbeats 1000000 in
theorem closeFn_any (hb rb g : Nat) (key driver : ByteArray) (fr to_ : Int) (n c : Nat) (r : Rd) (cs : List Value) (w : World) (hH : Blk w hb 36 [.string key, .string driver, .int .i64 fr, .int .i64 to_, .slice (some ⟨g, 0, none⟩) n c]) (hR : Blk w rb 31 (rdCells r))
    (hG : Blk w g 138 cs) (hn0 : 0 < n) (hn : n ≤ 1000000) (hfit : n * 9 ≤ cs.length) :
    Calls Tryd.prog 125 #[.pointer (some ⟨hb, 0, none⟩), .pointer (some ⟨rb, 0, none⟩)] w (fun e w' => (∃ r, e = .returned r) ∧ Blk w' g 138 (splice cs ((n - 1) * 9 + 5) (rdCells r)) ∧ w.grownBy w' (some g)) := by
  have c4 := hH.cell_of (i := 4) (v := .slice (some ⟨g, 0, none⟩) n c) rfl
  obtain ⟨a1, s1, m1, f1⟩ := r
  have r0 := hR.cell_of (i := 0) (v := .int .i64 a1) rfl
  have r1 := hR.cell_of (i := 1) (v := .string s1) rfl
  have r2 := hR.cell_of (i := 2) (v := .int .i64 m1) rfl
  have r3 := hR.cell_of (i := 3) (v := .int .i64 f1) rfl
  have hki : (n : Int) - 1 = ((n - 1 : Nat) : Int) := by omega
  have hk1 : (n : Int) - 1 < (n : Int) := by omega
  have hk0 : (0 : Int) ≤ (n : Int) - 1 := by omega
  have hf : (n - 1) * 9 + 5 + 4 ≤ cs.length := by omega
  have w1 : IntKind.i64.wrap ((n - 1 : Nat) : Int) = ((n - 1 : Nat) : Int) := IntWalk.i64_in _ (by omega)
  have hix : ((n - 1 : Nat) : Int) < (n : Int) := by omega
  have hix2 : n - 1 < n := by omega
  go_enter Tryd.func125, Tryd.ntmps125
  go_wp2_with fail
  refine wp_region_still_tail 13 (by kernel_rfl) (by kernel_rfl) ?_
  change wpStill _ _ (World.drew _) _ _ _
  simp only [List.take_succ_cons, List.take_zero, List.drop_succ_cons, List.drop_zero]
  repeat still_step
  refine wpStill_nil ?_
  change wpList _ _ _ _ _ (World.drew _)
  go_wp2_with (with_reducible refine wpList_store_blk rfl 31 (.tmp 15) (.tmp 13) rfl g ((n - 1) * 9 + 5) _ cs [.int .i64 a1, .string s1, .int .i64 m1, .int .i64 f1] hG.drew rfl rfl 4 info_rd rfl hf (by simp [Value.oneCell']) ?_
               intro w3 hG3 hg3)
  go_end0
  exact ⟨⟨_, rfl⟩, hG3, grow_trans (grow_drew (World.grownBy.refl _ _)) hg3⟩

end Go.Proofs.YtljnekobfjpfaaaDoor
