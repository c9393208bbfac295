/- The walks of slices.Equal at legs, and of the reference's SameHire, where both are the same. -/
import Derived.Test.YtljnekobfjpfaaaDoorRm
namespace Go.Proofs.YtljnekobfjpfaaaDoor
open Go.RowKit

set_option maxRecDepth 100000 in
theorem lg_same (g : Lg) (w : World) :
    (binOp .neq 138 (.agg (lgEnc g).toArray) (.agg (lgEnc g).toArray)).run Tryd.prog w = .ok (.bool false) w := by
  obtain ⟨veh, ⟨a1, s1, m1, f1⟩, ⟨a2, s2, m2, f2⟩⟩ := g
  show (binOp .neq 138 (.agg #[.string veh, .int .i64 a1, .string s1, .int .i64 m1, .int .i64 f1, .int .i64 a2, .string s2, .int .i64 m2, .int .i64 f2]) (.agg #[.string veh, .int .i64 a1, .string s1, .int .i64 m1, .int .i64 f1, .int .i64 a2, .string s2, .int .i64 m2, .int .i64 f2])).run Tryd.prog w = _
  have hS : Tryd.prog.underlying 138 = some (.struct (Tryd.prog.fieldsOf 138)) := by kernel_rfl
  have hp : Tryd.prog.stoodInHeld 138 = false := by kernel_rfl
  have hS2 : Tryd.prog.underlying 31 = some (.struct (Tryd.prog.fieldsOf 31)) := by kernel_rfl
  have hp2 : Tryd.prog.stoodInHeld 31 = false := by kernel_rfl
  have e1 : ∀ w : World, (Op.equalIn 9999 31 (.agg #[.int .i64 a1, .string s1, .int .i64 m1, .int .i64 f1]) (.agg #[.int .i64 a1, .string s1, .int .i64 m1, .int .i64 f1])).run Tryd.prog w = .ok true w := fun w => by
    rw [show (9999 : Nat) = 9998 + 1 from rfl, run_equalIn_agg w 9998 31 _ _ hS2 hp2]
    simp only [Program.fieldsOf, Tryd.underlying31]
    have u3 := Tryd.underlying3
    have u9 := Tryd.underlying9
    go_simp
  rw [run_neq_struct, show (10000 : Nat) = 9999 + 1 from rfl, run_equalIn_agg w 9999 138 _ _ hS hp]
  simp only [Program.fieldsOf, Tryd.underlying138]
  have u3 := Tryd.underlying3
  have u9 := Tryd.underlying9
  clear hS hp hS2 hp2
  go_simp

set_option maxRecDepth 100000 in
set_option maxHeartbeats 1000000 in
theorem equalLegs_any (l : List Lg) (A1 A2 : Option Addr) (n c1 c2 : Nat) (w : World) (h1 : SlT lgEnc 9 138 w A1 n l) (h2 : SlT lgEnc 9 138 w A2 n l) (hn : n ≤ 1000000) :
    Calls Tryd.prog 95 #[.slice A1 n c1, .slice A2 n c2] w (fun e w' => e = .returned (.bool true) ∧ w.grownBy w' none) := by
  have hlen := h1.len
  go_enter Tryd.func95, Tryd.ntmps95
  go_wp2_with fail
  go_loopw [13] (fun i wr => ∃ k : Nat, k ≤ n ∧ i = .int .i64 k ∧ w.grownBy wr none) (fun i _ => n - (intOf i).toNat)
  case atStart => exact ⟨0, Nat.zero_le _, rfl, World.grownBy.refl _ _⟩
  case round =>
    obtain ⟨k, hk, rfl, hgr⟩ := hrel
    by_cases hlt : k < n
    · obtain ⟨b1, o1, rfl, hb1, hr1⟩ := (h1.grow0 hgr).get (by omega)
      obtain ⟨b2, o2, rfl, hb2, hr2⟩ := (h2.grow0 hgr).get (by omega)
      obtain ⟨g, hg⟩ : ∃ g, l[k]? = some g := ⟨_, List.getElem?_eq_getElem (by omega)⟩
      have hs := fun w => lg_same g w
      have q1 := hr1 k g hg
      have q2 := hr2 k g hg
      obtain ⟨veh, ⟨a1, s1, m1, f1⟩, ⟨a2, s2, m2, f2⟩⟩ := g
      have hs' : ∀ w : World, (binOp .neq 138 (.agg #[.string veh, .int .i64 a1, .string s1, .int .i64 m1, .int .i64 f1, .int .i64 a2, .string s2, .int .i64 m2, .int .i64 f2]) (.agg #[.string veh, .int .i64 a1, .string s1, .int .i64 m1, .int .i64 f1, .int .i64 a2, .string s2, .int .i64 m2, .int .i64 f2])).run Tryd.prog w = .ok (.bool false) w := hs
      have p0 : wr.cell? ⟨b1, o1 + k * 9, none⟩ = some (.string veh) := q1 0 _ rfl
      have p1 := q1 1 _ rfl
      have p2 := q1 2 _ rfl
      have p3 := q1 3 _ rfl
      have p4 := q1 4 _ rfl
      have p5 := q1 5 _ rfl
      have p6 := q1 6 _ rfl
      have p7 := q1 7 _ rfl
      have p8 := q1 8 _ rfl
      have r0 : wr.cell? ⟨b2, o2 + k * 9, none⟩ = some (.string veh) := q2 0 _ rfl
      have r1 := q2 1 _ rfl
      have r2 := q2 2 _ rfl
      have r3 := q2 3 _ rfl
      have r4 := q2 4 _ rfl
      have r5 := q2 5 _ rfl
      have r6 := q2 6 _ rfl
      have r7 := q2 7 _ rfl
      have r8 := q2 8 _ rfl
      have d0 : (0 : Int) ≤ (k : Int) := by omega
      have d1 : (k : Int) < (n : Int) := by omega
      clear hs hr1 hr2 q1 q2 hg
      go_wp2_with fail
      go_quiet (fail)
      go_wp2_with fail
      go_roundw
      case rel => exact ⟨k + 1, by omega, by go_num, grow_drewN hgr _⟩
      case measure => simp [intOf]; omega
    · go_wp2_with fail
      go_ret
      exact ⟨rfl, hgr⟩

set_option maxRecDepth 100000 in
set_option maxHeartbeats 1000000 in
theorem sameHire_any (key driver : ByteArray) (fr to_ : Int) (l : List Lg) (A1 A2 : Option Addr) (n c1 c2 : Nat) (w : World) (h1 : SlT lgEnc 9 138 w A1 n l) (h2 : SlT lgEnc 9 138 w A2 n l) (hn : n ≤ 1000000) :
    Calls Tryd.prog 18 #[.agg #[.string key, .string driver, .int .i64 fr, .int .i64 to_, .slice A1 n c1], .agg #[.string key, .string driver, .int .i64 fr, .int .i64 to_, .slice A2 n c2]] w (fun e w' => e = .returned (.bool true) ∧ w.grownBy w' none) := by
  go_enter Tryd.func18, Tryd.ntmps18
  go_wp2_with fail
  refine (equalLegs_any l A1 A2 n c1 c2 _ ((h1.alloc _).alloc _) ((h2.alloc _).alloc _) hn).mono ?_
  rintro e w1 ⟨rfl, hg1⟩
  go_wp2_with fail
  go_ret
  exact ⟨rfl, grow_trans (grow_alloc (grow_alloc (World.grownBy.refl _ _) _) _) hg1⟩

theorem hired_hire : hireE ⟨⟨#[104]⟩, ⟨#[100]⟩, 5, 9, [startLeg ⟨#[118]⟩ ⟨5, ⟨#[115]⟩, 0, 0⟩]⟩ = 0 := by kernel_rfl

set_option maxRecDepth 100000 in
set_option maxHeartbeats 1000000 in
theorem hired_any (w : World) : Calls Tryd.prog 19 #[] w (fun e w' => e = .returned (.bool true) ∧ w.grownBy w' none) := by
  have cH : ∀ w, Calls Tryd.prog 16 #[.string ⟨#[104]⟩, .string ⟨#[100]⟩, .agg #[.int .i64 5, .int .i64 9], .string ⟨#[118]⟩, .agg #[.int .i64 5, .string ⟨#[115]⟩, .int .i64 0, .int .i64 0]] w (fun e w' => ∃ A, e = .returned (.tuple #[.agg #[.string ⟨#[104]⟩, .string ⟨#[100]⟩, .int .i64 5, .int .i64 9, .slice A 1 1], .int .i64 0]) ∧ w.grownBy w' none) := fun w => by
    have h := start_any ⟨#[104]⟩ ⟨#[100]⟩ 5 9 ⟨#[118]⟩ ⟨5, ⟨#[115]⟩, 0, 0⟩ w (by decide) (by decide) (by decide) (by decide : (⟨#[115]⟩ : ByteArray).size ≤ 1000000)
    rw [hired_hire] at h
    exact h.mono fun e w' ⟨A, h1, _, h3⟩ => ⟨A, h1, h3⟩
  have CH := Lib.hid cH
  clear cH
  go_enter Tryd.func19, Tryd.ntmps19
  go_wp2_with fail
  refine (CH.out _).mono ?_
  rintro e w1 ⟨A, rfl, hg1⟩
  go_wp2_with fail
  go_ret
  exact ⟨rfl, grow_alloc hg1 _⟩

end Go.Proofs.YtljnekobfjpfaaaDoor
