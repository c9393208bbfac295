/- The walks of hire.km, missing, begun, late. -/
import Derived.Test.YtmpomocahgcebaaDoorHh
import Derived.Test.YtmpomocahgcebaaDoorDl
namespace Go.Proofs.YtmpomocahgcebaaDoor
open Go.RowKit

def sumBy {α : Type} (f : α → Int) : List α → Int
  | [] => 0
  | x :: r => f x + sumBy f r
theorem sumBy_append {α : Type} (f : α → Int) : ∀ a b : List α, sumBy f (a ++ b) = sumBy f a + sumBy f b
  | [], b => by simp [sumBy]
  | x :: r, b => by rw [List.cons_append]; simp only [sumBy]; rw [sumBy_append f r b]; omega
theorem sumBy_take {α : Type} (f : α → Int) {l : List α} {k : Nat} {x : α} (h : l[k]? = some x) : sumBy f (l.take (k + 1)) = sumBy f (l.take k) + f x := by
  rw [List.take_add_one, h, sumBy_append]
  simp [sumBy]
theorem sumBy_bound {α : Type} {f : α → Int} {a b : Int} : ∀ {l : List α}, (∀ x ∈ l, a ≤ f x ∧ f x ≤ b) → a * l.length ≤ sumBy f l ∧ sumBy f l ≤ b * l.length
  | [], _ => by simp [sumBy]
  | x :: r, h => by
    have h1 := h x (List.mem_cons_self ..)
    have h2 := sumBy_bound (l := r) (fun y hy => h y (List.mem_cons_of_mem _ hy))
    simp only [sumBy, List.length_cons]
    have e1 : a * ((r.length + 1 : Nat) : Int) = a * (r.length : Int) + a := by rw [Int.natCast_add, Int.mul_add]; simp
    have e2 : b * ((r.length + 1 : Nat) : Int) = b * (r.length : Int) + b := by rw [Int.natCast_add, Int.mul_add]; simp
    omega

def LgNum (g : Lg) : Prop := (0 ≤ g.out.meter ∧ g.out.meter ≤ 999999) ∧ (0 ≤ g.inn.meter ∧ g.inn.meter ≤ 999999) ∧ (0 ≤ g.out.fuel ∧ g.out.fuel ≤ 8) ∧ (0 ≤ g.inn.fuel ∧ g.inn.fuel ≤ 8)
def kmOf (g : Lg) : Int := if g.inn.meter - g.out.meter < 0 then g.inn.meter - g.out.meter + 1000000 else g.inn.meter - g.out.meter
def missOf (g : Lg) : Int := max 0 (g.out.fuel - g.inn.fuel)
theorem kmOf_bound {g : Lg} (h : LgNum g) : 0 ≤ kmOf g ∧ kmOf g ≤ 1000000 := by
  unfold LgNum at h; unfold kmOf; split <;> omega
theorem missOf_bound {g : Lg} (h : LgNum g) : 0 ≤ missOf g ∧ missOf g ≤ 8 := by
  unfold LgNum at h; unfold missOf; omega

theorem mul_bound {x y A B : Int} (h0 : 0 ≤ x) (h1 : x ≤ A) (h2 : 0 ≤ y) (h3 : y ≤ B) : 0 ≤ x * y ∧ x * y ≤ A * B :=
  ⟨Int.mul_nonneg h0 h2, Int.mul_le_mul h1 h3 h2 (by omega)⟩
def RetII (w : World) (a b : Int) (e : Ending) (w' : World) : Prop := e = .returned (.tuple #[.int .i64 a, .int .i64 b]) ∧ w.grownBy w' none
def lateN (to_ : Int) (l : List Lg) : Int := max 0 ((match l[l.length - 1]? with | some g => g.inn.at_ | none => 0) - to_)
def lateC (grace hour day n : Int) : Int := if n ≤ grace then 0 else min (hour * ((n + 60 - 1) / 60)) (day * ((n + 1440 - 1) / 1440))

end Go.Proofs.YtmpomocahgcebaaDoor
