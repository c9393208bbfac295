/- The walks of hire.km, missing, begun, late. -/
import Derived.Test.YtljnekobfjpfaaaDoorHh
import Derived.Test.YtljnekobfjpfaaaDoorDl
namespace Go.Proofs.YtljnekobfjpfaaaDoor
open Go.RowKit

def sumBy {α : Type} (f : α → Int) : List α → Int
  | [] => 0
  | x :: r => f x + sumBy f r
theorem sumBy_append {α : Type} (f : α → Int) : ∀ a b : List α, sumBy f (a ++ b) = sumBy f a + sumBy f b
  | [], b => by simp [sumBy]
  | x :: r, b => by rw [List.cons_append]; simp only [sumBy]; rw [sumBy_append f r b]; omega
theorem sumBy_take {α : Type} (f : α → Int) {l : List α} {k : Nat} {x : α} (h : l[k]? = some x) : sumBy f (l.take (k + 1)) = sumBy f (l.take k) + f x := by
  rw [List.take_add_one, h, sumBy_append]
  simp [sumBy]
theorem sumBy_bound {α : Type} {f : α → Int} {a b : Int} : ∀ {l : List α}, (∀ x ∈ l, a ≤ f x ∧ f x ≤ b) → a * l.length ≤ sumBy f l ∧ sumBy f l ≤ b * l.length
  | [], _ => by simp [sumBy]
  | x :: r, h => by
    have h1 := h x (List.mem_cons_self ..)
    have h2 := sumBy_bound (l := r) (fun y hy => h y (List.mem_cons_of_mem _ hy))
    simp only [sumBy, List.length_cons]
    have e1 : a * ((r.length + 1 : Nat) : Int) = a * (r.length : Int) + a := by rw [Int.natCast_add, Int.mul_add]; simp
    have e2 : b * ((r.length + 1 : Nat) : Int) = b * (r.length : Int) + b := by rw [Int.natCast_add, Int.mul_add]; simp
    omega

def LgNum (g : Lg) : Prop := (0 ≤ g.out.meter ∧ g.out.meter ≤ 999999) ∧ (0 ≤ g.inn.meter ∧ g.inn.meter ≤ 999999) ∧ (0 ≤ g.out.fuel ∧ g.out.fuel ≤ 8) ∧ (0 ≤ g.inn.fuel ∧ g.inn.fuel ≤ 8)
def kmOf (g : Lg) : Int := if g.inn.meter - g.out.meter < 0 then g.inn.meter - g.out.meter + 1000000 else g.inn.meter - g.out.meter
def missOf (g : Lg) : Int := max 0 (g.out.fuel - g.inn.fuel)
theorem kmOf_bound {g : Lg} (h : LgNum g) : 0 ≤ kmOf g ∧ kmOf g ≤ 1000000 := by
  unfold LgNum at h; unfold kmOf; split <;> omega
theorem missOf_bound {g : Lg} (h : LgNum g) : 0 ≤ missOf g ∧ missOf g ≤ 8 := by
  unfold LgNum at h; unfold missOf; omega

set_option maxRecDepth 100000 in
set_option maxHeartbeats 1000000 in
theorem km_any (key driver : ByteArray) (fr to_ : Int) (l : List Lg) (A : Option Addr) (n c : Nat) (w : World) (hl : SlT lgEnc 9 138 w A n l) (hnum : ∀ g ∈ l, LgNum g) (hn : n ≤ 1000) :
    Calls Tryd.prog 130 #[.agg #[.string key, .string driver, .int .i64 fr, .int .i64 to_, .slice A n c]] w (GotE w (sumBy kmOf l)) := by
  have hlen := hl.len
  have Hnum := Lib.hid hnum
  clear hnum
  go_enter Tryd.func130, Tryd.ntmps130
  go_wp2_with fail
  go_loopw [3, 10] (fun s i wr => ∃ k : Nat, k ≤ n ∧ i = .int .i64 k ∧ s = .int .i64 (sumBy kmOf (l.take k)) ∧ w.grownBy wr none) (fun _ i _ => n - (intOf i).toNat)
  case atStart => exact ⟨0, Nat.zero_le _, rfl, rfl, grow_alloc (World.grownBy.refl _ _) _⟩
  case round =>
    obtain ⟨k, hk, rfl, rfl, hgr⟩ := hrel
    by_cases hlt : k < n
    · have hlr := hl.grow0 hgr
      obtain ⟨b, off, rfl, hbl, hrg⟩ := hlr.get (by omega)
      obtain ⟨g, hg⟩ : ∃ g, l[k]? = some g := ⟨_, List.getElem?_eq_getElem (by omega)⟩
      have hs1 := sumBy_take kmOf hg
      have hb1 := sumBy_bound (l := l.take k) (f := kmOf) (fun x hx => kmOf_bound (Hnum.out x (List.mem_of_mem_take hx)))
      have hb2 : (l.take k).length = k := by simp; omega
      rw [hb2] at hb1
      obtain ⟨S, hS⟩ : ∃ S, S = sumBy kmOf (l.take k) := ⟨_, rfl⟩
      have hgn := Hnum.out g (List.mem_of_getElem? hg)
      have hkb := kmOf_bound hgn
      obtain ⟨veh, ⟨a1, s1, m1, f1⟩, ⟨a2, s2, m2, f2⟩⟩ := g
      have hr0 := hrg k _ hg
      have hr1 : wr.rangeAt b (off + k * 9) [.string veh, .int .i64 a1, .string s1, .int .i64 m1, .int .i64 f1, .int .i64 a2, .string s2, .int .i64 m2, .int .i64 f2] := hr0
      have hm1 : 0 ≤ m1 ∧ m1 ≤ 999999 := hgn.1
      have hm2 : 0 ≤ m2 ∧ m2 ≤ 999999 := hgn.2.1
      have hm10 := hm1.1
      have hm11 := hm1.2
      have hm20 := hm2.1
      have hm21 := hm2.2
      rw [← hS] at hs1 hb1 ⊢
      have hS0 : 0 ≤ S := by have := hb1.1; omega
      have hS1 : S ≤ 1000000 * k := hb1.2
      have Hs1 := Lib.hid hs1
      clear hr0 hrg hg hs1 hb1 hb2 hS hgn hkb hm1 hm2
      by_cases hneg : m2 - m1 < 0
      · have HK := Lib.hid (show sumBy kmOf (l.take (k + 1)) = S + (m2 - m1 + 1000000) by rw [Hs1.out]; unfold kmOf; rw [if_pos hneg])
        go_wp2_with (with_reducible refine wpList_load_rng rfl 138 (.tmp 12) rfl b (off + k * 9) rfl _ _ hr1 Tryd.underlying138 rfl 9 info_lg rfl ?_)
        go_roundw
        case rel => exact ⟨k + 1, by omega, by go_num, by rw [HK.out], grow_alloc hgr _⟩
        case measure => simp [intOf]; omega
      · have HK := Lib.hid (show sumBy kmOf (l.take (k + 1)) = S + (m2 - m1) by rw [Hs1.out]; unfold kmOf; rw [if_neg hneg])
        go_wp2_with (with_reducible refine wpList_load_rng rfl 138 (.tmp 12) rfl b (off + k * 9) rfl _ _ hr1 Tryd.underlying138 rfl 9 info_lg rfl ?_)
        go_roundw
        case rel => exact ⟨k + 1, by omega, by go_num, by rw [HK.out], grow_alloc hgr _⟩
        case measure => simp [intOf]; omega
    · go_wp2_with fail
      go_ret
      exact ⟨ret_int (by rw [List.take_of_length_le (by omega)]), hgr⟩

set_option maxRecDepth 100000 in
set_option maxHeartbeats 1000000 in
theorem missing_any (key driver : ByteArray) (fr to_ : Int) (l : List Lg) (A : Option Addr) (n c : Nat) (w : World) (hl : SlT lgEnc 9 138 w A n l) (hnum : ∀ g ∈ l, LgNum g) (hn : n ≤ 1000) :
    Calls Tryd.prog 131 #[.agg #[.string key, .string driver, .int .i64 fr, .int .i64 to_, .slice A n c]] w (GotE w (sumBy missOf l)) := by
  have hlen := hl.len
  have Hnum := Lib.hid hnum
  clear hnum
  go_enter Tryd.func131, Tryd.ntmps131
  go_wp2_with fail
  go_loopw [3, 9] (fun s i wr => ∃ k : Nat, k ≤ n ∧ i = .int .i64 k ∧ s = .int .i64 (sumBy missOf (l.take k)) ∧ w.grownBy wr none) (fun _ i _ => n - (intOf i).toNat)
  case atStart => exact ⟨0, Nat.zero_le _, rfl, rfl, grow_alloc (World.grownBy.refl _ _) _⟩
  case round =>
    obtain ⟨k, hk, rfl, rfl, hgr⟩ := hrel
    by_cases hlt : k < n
    · have hlr := hl.grow0 hgr
      obtain ⟨b, off, rfl, hbl, hrg⟩ := hlr.get (by omega)
      obtain ⟨g, hg⟩ : ∃ g, l[k]? = some g := ⟨_, List.getElem?_eq_getElem (by omega)⟩
      have hs1 := sumBy_take missOf hg
      have hb1 := sumBy_bound (l := l.take k) (f := missOf) (fun x hx => missOf_bound (Hnum.out x (List.mem_of_mem_take hx)))
      have hb2 : (l.take k).length = k := by simp; omega
      rw [hb2] at hb1
      obtain ⟨S, hS⟩ : ∃ S, S = sumBy missOf (l.take k) := ⟨_, rfl⟩
      have hgn := Hnum.out g (List.mem_of_getElem? hg)
      obtain ⟨veh, ⟨a1, s1, m1, f1⟩, ⟨a2, s2, m2, f2⟩⟩ := g
      have hr0 := hrg k _ hg
      have hr1 : wr.rangeAt b (off + k * 9) [.string veh, .int .i64 a1, .string s1, .int .i64 m1, .int .i64 f1, .int .i64 a2, .string s2, .int .i64 m2, .int .i64 f2] := hr0
      have hm1 : 0 ≤ f1 ∧ f1 ≤ 8 := hgn.2.2.1
      have hm2 : 0 ≤ f2 ∧ f2 ≤ 8 := hgn.2.2.2
      have hm10 := hm1.1
      have hm11 := hm1.2
      have hm20 := hm2.1
      have hm21 := hm2.2
      rw [← hS] at hs1 hb1 ⊢
      have hS0 : 0 ≤ S := by have := hb1.1; omega
      have hS1 : S ≤ 8 * k := hb1.2
      have HK := Lib.hid (show sumBy missOf (l.take (k + 1)) = S + max 0 (f1 - f2) from hs1)
      clear hr0 hrg hg hs1 hb1 hb2 hS hgn hm1 hm2
      go_wp2_with (with_reducible refine wpList_load_rng rfl 138 (.tmp 11) rfl b (off + k * 9) rfl _ _ hr1 Tryd.underlying138 rfl 9 info_lg rfl ?_)
      go_roundw
      case rel => exact ⟨k + 1, by omega, by go_num, ret_val (by rw [HK.out]; split <;> omega), grow_alloc hgr _⟩
      case measure => simp [intOf]; omega
    · go_wp2_with fail
      go_ret
      exact ⟨ret_int (by rw [List.take_of_length_le (by omega)]), hgr⟩

set_option maxHeartbeats 400000 in
theorem begun_any (n long : Int) (w : World) (h0 : 0 ≤ n) (h1 : n ≤ 1000000000000) (h2 : 0 < long) (h3 : long ≤ 10000) :
    Calls Tryd.prog 147 #[.int .i64 n, .int .i64 long] w (fun e w' => e = .returned (.int .i64 ((n + long - 1) / long)) ∧ w = w') := by
  go_enter Tryd.func147, Tryd.ntmps147
  go_wp2_with fail
  go_ret
  exact ⟨rfl, rfl⟩

theorem mul_bound {x y A B : Int} (h0 : 0 ≤ x) (h1 : x ≤ A) (h2 : 0 ≤ y) (h3 : y ≤ B) : 0 ≤ x * y ∧ x * y ≤ A * B :=
  ⟨Int.mul_nonneg h0 h2, Int.mul_le_mul h1 h3 h2 (by omega)⟩
def RetII (w : World) (a b : Int) (e : Ending) (w' : World) : Prop := e = .returned (.tuple #[.int .i64 a, .int .i64 b]) ∧ w.grownBy w' none
def lateN (to_ : Int) (l : List Lg) : Int := max 0 ((match l[l.length - 1]? with | some g => g.inn.at_ | none => 0) - to_)
def lateC (grace hour day n : Int) : Int := if n ≤ grace then 0 else min (hour * ((n + 60 - 1) / 60)) (day * ((n + 1440 - 1) / 1440))

set_option maxRecDepth 100000 in
set_option maxHeartbeats 1000000 in
theorem late_any (d : Dl) (key driver : ByteArray) (fr to_ : Int) (l : List Lg) (A : Option Addr) (n c : Nat) (w : World) (hl : SlT lgEnc 9 138 w A n l) (hn0 : 0 < n) (hn : n ≤ 1000)
    (hat : ∀ g, l[n - 1]? = some g → 0 ≤ g.inn.at_ ∧ g.inn.at_ ≤ 5761439) (hto : 0 ≤ to_ ∧ to_ ≤ 5761439) (hh : 0 ≤ d.hour ∧ d.hour ≤ 1000000) (hd : 0 ≤ d.day ∧ d.day ≤ 1000000) :
    Calls Tryd.prog 132 #[.agg (dlCells d).toArray, .agg #[.string key, .string driver, .int .i64 fr, .int .i64 to_, .slice A n c]] w (RetII w (lateN to_ l) (lateC d.grace d.hour d.day (lateN to_ l))) := by
  have hlen := hl.len
  obtain ⟨g, hg⟩ : ∃ g, l[n - 1]? = some g := ⟨_, List.getElem?_eq_getElem (by omega)⟩
  obtain ⟨b, off, rfl, hbl, hrg⟩ := hl.get hn0
  have hga := hat g hg
  have HN := Lib.hid (show lateN to_ l = max 0 (g.inn.at_ - to_) by unfold lateN; rw [hlen, hg])
  obtain ⟨veh, ⟨a1, s1, m1, f1⟩, ⟨a2, s2, m2, f2⟩⟩ := g
  obtain ⟨da, db, dc, dd, df, dg, dh⟩ := d
  have hr0 := hrg (n - 1) _ hg
  have hc : w.cell? ⟨b, off + (n - 1) * 9 + 5, none⟩ = some (.int .i64 a2) := hr0 5 _ rfl
  have hc2 := fun o o' => (World.cell?_of_block (a := ⟨b, off + (n - 1) * 9 + 5, none⟩) ((Below.heap_alloc (w.alloc o) o' b (by simp; omega)).trans (Below.heap_alloc w o b hbl))).trans hc
  have hki : (n : Int) - 1 = ((n - 1 : Nat) : Int) := by omega
  have hk1 : (n : Int) - 1 < (n : Int) := by omega
  have ha0 : 0 ≤ a2 := hga.1
  have ha1 : a2 ≤ 5761439 := hga.2
  have ht0 := hto.1
  have ht1 := hto.2
  have hf0 : 0 ≤ df := hh.1
  have hf1 : df ≤ 1000000 := hh.2
  have hg0 : 0 ≤ dg := hd.1
  have hg1 : dg ≤ 1000000 := hd.2
  clear hr0 hrg hc hg hlen hl hat hga hto hh hd
  have w1 : IntKind.i64.wrap ((n - 1 : Nat) : Int) = ((n - 1 : Nat) : Int) := IntWalk.i64_in _ (by omega)
  have w2 : IntKind.i64.wrap (a2 - to_) = a2 - to_ := IntWalk.i64_in _ (by omega)
  have hix : ((n - 1 : Nat) : Int) < (n : Int) := by omega
  have hix2 : n - 1 < n := by omega
  show Calls Tryd.prog 132 #[.agg #[.int .i64 da, .int .i64 db, .int .i64 dc, .int .i64 dd, .int .i64 df, .int .i64 dg, .int .i64 dh], .agg #[.string key, .string driver, .int .i64 fr, .int .i64 to_, .slice (some ⟨b, off, none⟩) n c]] w _
  obtain ⟨N, hN⟩ : ∃ N, N = lateN to_ l := ⟨_, rfl⟩
  obtain ⟨V, hV⟩ : ∃ V, V = lateC dd df dg N := ⟨_, rfl⟩
  show Calls Tryd.prog _ _ w (RetII w (lateN to_ l) (lateC dd df dg (lateN to_ l)))
  rw [← hN, ← hV]
  have HN2 := Lib.hid (hN.trans HN.out)
  have HV := Lib.hid hV
  clear hN hV
  go_enter Tryd.func132, Tryd.ntmps132
  go_wp2_with fail
  go_upto_region 1 with fail
  refine wp_region_still_tail 14 (by kernel_rfl) (by kernel_rfl) ?_
  change wpStill _ _ (World.drew _) _ _ _
  simp only [List.take_succ_cons, List.take_zero, List.drop_succ_cons, List.drop_zero]
  repeat still_step
  refine wpStill_nil ?_
  change wpList _ _ _ _ _ (World.drew _)
  have hif : (if to_ < a2 then a2 - to_ else 0) = N := by rw [HN2.out]; split <;> omega
  have hn0' : 0 ≤ N := by have := HN2.out; omega
  have hn1' : N ≤ 5761439 := by have := HN2.out; omega
  have Hif := Lib.hid hif
  clear hif
  go_upto_region 2 with fail
  rw [Hif.out]
  by_cases hle : N ≤ dd
  · have HV0 := Lib.hid (show V = 0 by rw [HV.out]; unfold lateC; rw [if_pos hle])
    go_wp2_with fail
    go_ret2
    exact ⟨ret_ie rfl HV0.out.symm, grow_drew (grow_alloc (grow_alloc (World.grownBy.refl _ _) _) _)⟩
  · obtain ⟨B1, hB1⟩ : ∃ B1, B1 = (N + 60 - 1) / 60 := ⟨_, rfl⟩
    obtain ⟨B2, hB2⟩ : ∃ B2, B2 = (N + 1440 - 1) / 1440 := ⟨_, rfl⟩
    have HV0 := Lib.hid (show V = min (df * B1) (dg * B2) by rw [HV.out, hB1, hB2]; unfold lateC; rw [if_neg hle])
    have cB1 : ∀ w, Calls Tryd.prog 147 #[.int .i64 N, .int .i64 60] w fun e w' => e = .returned (.int .i64 B1) ∧ w' = w := fun w => by rw [hB1]; exact flipw (begun_any N 60 w hn0' (by omega) (by omega) (by omega))
    have cB2 : ∀ w, Calls Tryd.prog 147 #[.int .i64 N, .int .i64 1440] w fun e w' => e = .returned (.int .i64 B2) ∧ w' = w := fun w => by rw [hB2]; exact flipw (begun_any N 1440 w hn0' (by omega) (by omega) (by omega))
    have CB1 := Lib.hid cB1
    have CB2 := Lib.hid cB2
    have hm1 := mul_bound hf0 hf1 (show 0 ≤ B1 by omega) (show B1 ≤ 100000 by omega)
    have hm2 := mul_bound hg0 hg1 (show 0 ≤ B2 by omega) (show B2 ≤ 100000 by omega)
    have hw1 : IntKind.i64.wrap (df * B1) = df * B1 := IntWalk.i64_in _ (by omega)
    have hw2 : IntKind.i64.wrap (dg * B2) = dg * B2 := IntWalk.i64_in _ (by omega)
    clear cB1 cB2 hB1 hB2 hm1 hm2
    go_wp2_with fail
    refine wp_region_still_lit (by kernel_rfl) (by kernel_rfl) ?_
    change wpStill _ _ (World.drew _) _ _ _
    repeat still_step
    still_call (CB1.out _)
    repeat still_step
    still_call (CB2.out _)
    repeat still_step
    refine wpStill_nil ?_
    go_wp2_with fail
    all_goals
      go_ret2
      refine ⟨ret_ie rfl ?_, grow_drew (grow_drew (grow_alloc (grow_alloc (World.grownBy.refl _ _) _) _))⟩
      have hfin := HV0.out
      omega

end Go.Proofs.YtljnekobfjpfaaaDoor
