/- The walks of hire.open, slices.Clone at legs, hire.going. -/
import Derived.Test.YtmpomocahgcebaaDoorHf
import Derived.Test.YtmpomocahgcebaaDoorOwn
namespace Go.Proofs.YtmpomocahgcebaaDoor
open Go.RowKit

theorem lg_one (g : Lg) : ∀ v ∈ lgEnc g, v.oneCell' = true := by
  intro v hv
  simp [lgEnc, rdCells] at hv
  rcases hv with rfl | rfl | rfl | rfl | rfl | rfl | rfl | rfl | rfl <;> rfl

/-- A hire goes on. -/
def openB (l : List Lg) : Bool :=
  match l[l.length - 1]? with
  | some g => g.inn.at_ == -1
  | none => false

theorem leg_info : ∃ i z, Tryd.prog.info? 100 = some i ∧ i.zero = some z ∧ i.size = 9 ∧ i.bytes = 96 ∧ z.cells.size = 9 := info_parts (by kernel_rfl)

set_option maxRecDepth 100000 in
set_option maxHeartbeats 400000 in
theorem cloneLegs_any (l : List Lg) (A : Option Addr) (n c : Nat) (w : World) (hl : SlT lgEnc 9 100 w A n l) (hn0 : 0 < n) (hn : n ≤ 1000000) :
    Calls Tryd.prog 167 #[.slice A n c] w (fun e w' => ∃ g c', e = .returned (.slice (some ⟨g, 0, none⟩) n c') ∧ OwnT lgEnc 9 100 w' w.heap.size g n c' l ∧ w.grownBy w' none) := by
  obtain ⟨b, off, rfl, hbl, hfl⟩ := hl.flat lg_len hn0
  have hlen := hl.len
  obtain ⟨i0, z0, hi, hz, hsz, hby, hzs⟩ := leg_info
  have hnews : ∀ (o : Obj) j u, (l.flatMap lgEnc)[j]? = some u → (w.alloc o).cell? ((⟨b, off, none⟩ : Addr).add j) = some u := fun o j u hj =>
    (World.cell?_of_block (Below.heap_alloc w o _ (by unfold Addr.add; split <;> exact hbl))).trans (hfl j u hj)
  have hone := flat_one lgEnc lg_one l
  have hll := flat_len lgEnc 9 lg_len l
  rw [hlen] at hll
  clear hfl hl
  have Hnews := Lib.hid hnews
  clear hnews
  have he : ∀ w : World, (binOp .eql 93 (.slice (some ⟨b, off, none⟩) n c) (.slice none 0 0)).run Tryd.prog w = .ok (.bool false) w := fun _ => rfl
  go_enter Tryd.func167, Tryd.ntmps167
  go_wp2_with (at_builtin; refine wpList_append_own_at _ rfl _ _ 93 rfl w.heap.size 100 i0 z0 9 96 Tryd.underlying93 hi hz hsz hby hzs (by decide) (.slice (some ⟨w.heap.size, 0, none⟩) 0 0) 0 [] rfl ⟨rfl, .inr ⟨w.heap.size, 0, #[], rfl, Nat.le_refl _, heap_alloc_new w _, Nat.le_refl _, by decide, rfl, rfl⟩⟩ ⟨b, off, none⟩ n c (l.flatMap lgEnc) rfl hll (Hnews.out _) hone (by unfold maxLen; omega) (by omega) (by simp) ?_; intro v' w' hown hgrow hnil hat)
  rw [Nat.zero_add, List.nil_append] at hown
  have hown2 := hown
  obtain ⟨_, ho⟩ := hown2
  rcases ho with ⟨_, h0⟩ | ⟨g, cap, cur, rfl, hg, _⟩
  · omega
  · go_ret
    exact ⟨g, cap, rfl, ⟨hg, hown⟩, grow_own (grow_alloc (World.grownBy.refl _ _) _) hgrow (fun k h => by cases h; exact Nat.le_refl _)⟩

/-- What goes on of a hire: its error. -/
def goingE (h : Hr) : Int := if hireE h = 0 then (if openB h.legs then 0 else 11) else hireE h
def noHire : Value := .agg #[.string ⟨#[]⟩, .string ⟨#[]⟩, .int .i64 0, .int .i64 0, .slice none 0 0]

theorem hireE_legs {h : Hr} (hh : hireE h = 0) : 0 < h.legs.length ∧ h.legs.length ≤ 20 := by
  obtain ⟨key, driver, fr, to_, l⟩ := h
  unfold hireE at hh
  by_cases h1 : l.length = 0
  · exfalso
    simp only [h1, if_true] at hh
    revert hh
    generalize whenE (!keyB key || !keyB driver) 5 = x
    generalize timeE fr to_ = y
    intro hh
    by_cases hx : x = 0 <;> by_cases hy : y = 0 <;> simp [firstE, hx, hy] at hh
  · by_cases h2 : 20 < l.length
    · exfalso
      simp only [h1, h2, if_true, if_false] at hh
      revert hh
      generalize whenE (!keyB key || !keyB driver) 5 = x
      generalize timeE fr to_ = y
      intro hh
      by_cases hx : x = 0 <;> by_cases hy : y = 0 <;> simp [firstE, hx, hy] at hh
    · show 0 < l.length ∧ l.length ≤ 20
      omega

end Go.Proofs.YtmpomocahgcebaaDoor
