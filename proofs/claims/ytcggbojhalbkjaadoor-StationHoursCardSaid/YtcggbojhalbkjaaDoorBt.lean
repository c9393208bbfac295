/- The steps of a walk over slots and blocks: shifts, masks, numbers of other kinds. -/
import Derived.Test.YtcggbojhalbkjaaDoorSi
import Derived.Laws.BitsLemmas
import Derived.Laws.Shifts
namespace Go.Proofs.YtcggbojhalbkjaaDoor
open Go.RowKit
section
variable {P : Program} {nn : Nat} {S : List (Nat × Value)} {Z : World → Prop} {d : Nat} {ty : TypeId} {pos : String} {aft : Array Edge}
theorem pow62 {n : Nat} (h : n ≤ 62) : 2 ^ n ≤ 4611686018427387904 := by
  have := Nat.pow_le_pow_right (n := 2) (by decide) h
  simpa using this
theorem ov_shl1 {t t' : TypeId} {x y : Operand} {n : Nat} (hx : rd S x = some (.int .i64 1)) (hy : rd S y = some (.int .i64 (n : Int))) (hn : n ≤ 62) : OV P nn S Z ⟨some d, .binOp .shl t x y t', ty, pos, aft, none⟩ (.int .i64 ((2 ^ n : Nat) : Int)) :=
  ov_bin hx hy (fun w => by
    have h1 : IntKind.i64.wrap (2 ^ n) = ((2 ^ n : Nat) : Int) := by
      have := pow62 hn
      rw [show ((2 : Int) ^ n) = ((2 ^ n : Nat) : Int) by simp]
      generalize 2 ^ n = p at *
      exact IntWalk.i64_in _ (by omega)
    simp [go_sem, h1])
theorem ov_shr {t t' : TypeId} {x y : Operand} {a n : Nat} (hx : rd S x = some (.int .i64 (a : Int))) (hy : rd S y = some (.int .i64 (n : Int))) (hn : n ≤ 62) : OV P nn S Z ⟨some d, .binOp .shr t x y t', ty, pos, aft, none⟩ (.int .i64 ((a / 2 ^ n : Nat) : Int)) :=
  ov_bin hx hy (fun w => by
    simp [go_sem])
theorem ov_and1 {t t' : TypeId} {x y : Operand} {a : Nat} (hx : rd S x = some (.int .i64 (a : Int))) (hy : rd S y = some (.int .i64 1)) (ha : a ≤ 1000000000) : OV P nn S Z ⟨some d, .binOp .and t x y t', ty, pos, aft, none⟩ (.int .i64 ((a % 2 : Nat) : Int)) :=
  ov_bin hx hy (fun w => by
    have h1 : bits .and .i64 (a : Int) 1 = ((a % 2 : Nat) : Int) := by
      have := bits_mask .i64 62 (by decide) (fun n h0 h1 => by rw [IntKind.wrap_i64]; omega) 1 (by decide) (a : Int) (by omega) (by omega)
      simpa using this
    simp [go_sem, h1])
def kindTy (P : Program) (t : TypeId) : Option IntKind :=
  match P.underlying t with
  | some (.int k) => some k
  | _ => none
theorem kindTy_u {t : TypeId} {k : IntKind} (h : kindTy P t = some k) : P.underlying t = some (.int k) := by
  unfold kindTy at h
  cases hu : P.underlying t with
  | none => simp [hu] at h
  | some dd => cases dd <;> simp [hu] at h <;> simp [h]
theorem ov_u64 {s t : TypeId} {k : IntKind} {x : Operand} {a : Nat} (hs : kindTy P s = some .i64) (ht : kindTy P t = some .u64) (hx : rd S x = some (.int k (a : Int))) (ha : a ≤ 9223372036854775807) : OV P nn S Z ⟨some d, .convert s t x, ty, pos, aft, none⟩ (.int .u64 (a : Int)) := fun b w hb hm => by
  have h1 : IntKind.u64.wrap (a : Int) = (a : Int) := by rw [IntKind.wrap_u64]; omega
  have hk : P.intKind t = .u64 := by simp [Program.intKind, kindTy_u ht]
  have h2 := run_convert_int (P := P) w s t k (a : Int) (by rw [kindTy_u hs]; rfl) (by rw [hk]; exact kindTy_u ht)
  rw [hk, h1] at h2
  simp [execOp, hb.eval hx, h2]
theorem ov_i64 {s t : TypeId} {k : IntKind} {x : Operand} {a : Nat} (hs : (kindTy P s).isSome = true) (ht : kindTy P t = some .i64) (hx : rd S x = some (.int k (a : Int))) (ha : a ≤ 9223372036854775807) : OV P nn S Z ⟨some d, .convert s t x, ty, pos, aft, none⟩ (.int .i64 (a : Int)) := fun b w hb hm => by
  have h1 : IntKind.i64.wrap (a : Int) = (a : Int) := IntWalk.i64_in _ (by omega)
  have hk : P.intKind t = .i64 := by simp [Program.intKind, kindTy_u ht]
  obtain ⟨k', hk'⟩ := Option.isSome_iff_exists.1 hs
  have h2 := run_convert_int (P := P) w s t k (a : Int) (by rw [kindTy_u hk']; rfl) (by rw [hk]; exact kindTy_u ht)
  rw [hk, h1] at h2
  simp [execOp, hb.eval hx, h2]
theorem ov_shru1 {t t' : TypeId} {x y : Operand} {a : Nat} (hx : rd S x = some (.int .u64 (a : Int))) (hy : rd S y = some (.int .u64 1)) : OV P nn S Z ⟨some d, .binOp .shr t x y t', ty, pos, aft, none⟩ (.int .u64 ((a / 2 : Nat) : Int)) :=
  ov_bin hx hy (fun w => by simp [go_sem, IntKind.bits])
end

end Go.Proofs.YtcggbojhalbkjaaDoor
