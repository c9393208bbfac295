/- slices.Clone at pieces. -/
import Derived.Test.YtmpomocahgcebaaDoorTm
import Derived.Test.YtmpomocahgcebaaDoorOwn
import Derived.OneCell
namespace Go.Proofs.YtmpomocahgcebaaDoor
open Go.RowKit

theorem pc_one (x : Pc) : ∀ v ∈ pcEnc x, v.oneCell' = true := by
  intro v hv
  simp only [pcEnc, List.mem_cons, List.not_mem_nil, or_false] at hv
  rcases hv with rfl | rfl | rfl <;> rfl
theorem piece_info : ∃ i z, Tryd.prog.info? 79 = some i ∧ i.zero = some z ∧ i.size = 3 ∧ i.bytes = 24 ∧ z.cells.size = 3 := info_parts (by kernel_rfl)

set_option maxRecDepth 100000 in
set_option maxHeartbeats 1000000 in
theorem clonePieces_pos (l : List Pc) (A : Option Addr) (n c : Nat) (w : World) (hl : SlT pcEnc 3 79 w A n l) (hn0 : 0 < n) (hn : n ≤ 1000000) :
    Calls Tryd.prog 115 #[.slice A n c] w (fun e w' => ∃ A' c', e = .returned (.slice A' n c') ∧ w'.ownsRow w.heap.size 79 3 (.slice A' n c') n (l.flatMap pcEnc) ∧ w.grownBy w' none) := by
  obtain ⟨b, off, rfl, hbl, hfl⟩ := hl.flat pc_len hn0
  have hlen := hl.len
  obtain ⟨i0, z0, hi, hz, hsz, hby, hzs⟩ := piece_info
  have hnews : ∀ (o : Obj) j u, (l.flatMap pcEnc)[j]? = some u → (w.alloc o).cell? ((⟨b, off, none⟩ : Addr).add j) = some u := fun o j u hj =>
    (World.cell?_of_block (Below.heap_alloc w o _ (by unfold Addr.add; split <;> exact hbl))).trans (hfl j u hj)
  have hone := flat_one pcEnc pc_one l
  have hll := flat_len pcEnc 3 pc_len l
  rw [hlen] at hll
  clear hfl hl
  have Hnews := Lib.hid hnews
  clear hnews
  have he : ∀ w : World, (binOp .eql 72 (.slice (some ⟨b, off, none⟩) n c) (.slice none 0 0)).run Tryd.prog w = .ok (.bool false) w := fun _ => rfl
  go_enter Tryd.func115, Tryd.ntmps115
  go_wp2_with (at_builtin; refine wpList_append_own_at _ rfl _ _ 72 rfl w.heap.size 79 i0 z0 3 24 Tryd.underlying72 hi hz hsz hby hzs (by decide) (.slice (some ⟨w.heap.size, 0, none⟩) 0 0) 0 [] rfl ⟨rfl, .inr ⟨w.heap.size, 0, #[], rfl, Nat.le_refl _, heap_alloc_new w _, Nat.le_refl _, by decide, rfl, rfl⟩⟩ ⟨b, off, none⟩ n c (l.flatMap pcEnc) rfl hll (Hnews.out _) hone (by unfold maxLen; omega) (by omega) (by simp) ?_; intro v' w' hown hgrow hnil hat)
  rw [Nat.zero_add, List.nil_append] at hown
  have hown2 := hown
  obtain ⟨_, ho⟩ := hown2
  rcases ho with ⟨_, h0⟩ | ⟨g, cap, cur, rfl, hg, _⟩
  · omega
  · go_ret
    exact ⟨some ⟨g, 0, none⟩, cap, rfl, hown, grow_own (grow_alloc (World.grownBy.refl _ _) _) hgrow (fun k h => by cases h; exact Nat.le_refl _)⟩

set_option maxRecDepth 100000 in
set_option maxHeartbeats 400000 in
theorem clonePieces_nil (w : World) : Calls Tryd.prog 115 #[.slice none 0 0] w (fun e w' => e = .returned (.slice none 0 0) ∧ w = w') := by
  have he : ∀ w : World, (binOp .eql 72 (.slice none 0 0) (.slice none 0 0)).run Tryd.prog w = .ok (.bool true) w := fun _ => rfl
  go_enter Tryd.func115, Tryd.ntmps115
  go_wp2_with fail
  go_ret
  exact ⟨rfl, rfl⟩
theorem clonePieces_any (l : List Pc) (A : Option Addr) (n c : Nat) (w : World) (hl : SlT pcEnc 3 79 w A n l) (hnil : n = 0 → A = none ∧ c = 0) (hn : n ≤ 1000000) :
    Calls Tryd.prog 115 #[.slice A n c] w (fun e w' => ∃ A' c', e = .returned (.slice A' n c') ∧ w'.ownsRow w.heap.size 79 3 (.slice A' n c') n (l.flatMap pcEnc) ∧ w.grownBy w' none) := by
  by_cases h0 : n = 0
  · obtain ⟨rfl, rfl⟩ := hnil h0
    subst h0
    have hl0 : l = [] := List.length_eq_zero_iff.1 hl.len
    subst hl0
    exact (clonePieces_nil w).mono fun e w' ⟨he, hw⟩ => ⟨none, 0, he, ⟨rfl, .inl ⟨rfl, rfl⟩⟩, hw ▸ World.grownBy.refl _ _⟩
  · exact clonePieces_pos l A n c w hl (by omega) hn

end Go.Proofs.YtmpomocahgcebaaDoor
