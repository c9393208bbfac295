/- The walks of the reference's KmOf, MissingOf, LateOf, and of rentlaw1.when, errs. -/
import Derived.Test.YtljnekobfjpfaaaDoorRo
import Derived.Test.YtljnekobfjpfaaaDoorHk
namespace Go.Proofs.YtljnekobfjpfaaaDoor
open Go.RowKit

set_option maxHeartbeats 400000 in
theorem rwhen_any (b : Bool) (e : Int) (w : World) :
    Calls Tryd.prog 29 #[.bool b, .int .i64 e] w fun r w' => r = .returned (.int .i64 (whenE b e)) ∧ w = w' := by
  cases b
  all_goals
    go_enter Tryd.func29, Tryd.ntmps29
    go_wp2_with fail
    go_ret
    exact ⟨rfl, rfl⟩

set_option maxHeartbeats 400000 in
theorem errs_any (es : List Int) (g c : Nat) (T : TypeId) (w : World) (hg : Blk w g T (es.map (Value.int .i64))) (hn : es.length ≤ 1000000) :
    Calls Tryd.prog 27 #[.slice (some ⟨g, 0, none⟩) es.length c] w fun r w' => r = .returned (.int .i64 (firstE es)) ∧ w = w' := by
  obtain ⟨n, hN⟩ : ∃ n, n = es.length := ⟨_, rfl⟩
  rw [← hN] at hn ⊢
  have HN := Lib.hid hN; clear hN
  go_enter Tryd.func27, Tryd.ntmps27
  go_wp2
  go_loop [7] (fun i => ∃ k : Nat, k ≤ n ∧ i = .int .i64 k ∧ firstE es = firstE (es.drop k)) (fun i => n - (intOf i).toNat)
  case atStart => exact ⟨0, Nat.zero_le _, rfl, rfl⟩
  case round =>
    obtain ⟨k, hk, rfl, hf⟩ := hrel
    have Hf := Lib.hid hf; clear hf
    by_cases hlt : k < n
    · have hk' : k < es.length := by have := HN.out; omega
      obtain ⟨x, hx⟩ : ∃ x, es[k] = x := ⟨_, rfl⟩
      have hc : w.cell? ⟨g, k, none⟩ = some (.int .i64 x) := hg.cell_of (by simp [hk', hx])
      have hd := firstE_drop es k hk'
      rw [hx] at hd
      have Hd := Lib.hid hd; clear hd hx
      by_cases h0 : x = 0
      · subst h0
        go_wp2
        go_round
        case rel => exact ⟨k + 1, by omega, by go_num, by rw [Hf.out, Hd.out]; rfl⟩
        case measure => simp [intOf]; omega
      · have hne : (x != 0) = true := by simpa using h0
        go_wp2
        go_ret
        exact ⟨by rw [Hf.out, Hd.out, if_neg h0]; rfl, rfl⟩
    · have hd : es.drop k = [] := List.drop_eq_nil_of_le (by have := HN.out; omega)
      have Hd := Lib.hid hd; clear hd
      go_wp2
      go_ret
      exact ⟨by rw [Hf.out, Hd.out]; rfl, rfl⟩

theorem kmOf_mod {g : Lg} (h : LgNum g) : (g.inn.meter - g.out.meter + 999999 + 1) % 1000000 = kmOf g := by
  unfold LgNum at h; unfold kmOf
  split <;> omega

set_option maxRecDepth 100000 in
set_option maxHeartbeats 1000000 in
theorem kmOf_any (key driver : ByteArray) (fr to_ : Int) (l : List Lg) (A : Option Addr) (n c : Nat) (w : World) (hl : SlT lgEnc 9 138 w A n l) (hnum : ∀ g ∈ l, LgNum g) (hn : n ≤ 1000) :
    Calls Tryd.prog 78 #[.agg #[.string key, .string driver, .int .i64 fr, .int .i64 to_, .slice A n c]] w (GotE w (sumBy kmOf l)) := by
  have hlen := hl.len
  have Hnum := Lib.hid hnum
  clear hnum
  go_enter Tryd.func78, Tryd.ntmps78
  go_wp2_with fail
  go_loopw [3, 9] (fun s i wr => ∃ k : Nat, k ≤ n ∧ i = .int .i64 k ∧ s = .int .i64 (sumBy kmOf (l.take k)) ∧ w.grownBy wr none) (fun _ i _ => n - (intOf i).toNat)
  case atStart => exact ⟨0, Nat.zero_le _, rfl, rfl, grow_alloc (World.grownBy.refl _ _) _⟩
  case round =>
    obtain ⟨k, hk, rfl, rfl, hgr⟩ := hrel
    by_cases hlt : k < n
    · have hlr := hl.grow0 hgr
      obtain ⟨b, off, rfl, hbl, hrg⟩ := hlr.get (by omega)
      obtain ⟨g, hg⟩ : ∃ g, l[k]? = some g := ⟨_, List.getElem?_eq_getElem (by omega)⟩
      have hs1 := sumBy_take kmOf hg
      have hb1 := sumBy_bound (l := l.take k) (f := kmOf) (fun x hx => kmOf_bound (Hnum.out x (List.mem_of_mem_take hx)))
      have hb2 : (l.take k).length = k := by simp; omega
      rw [hb2] at hb1
      obtain ⟨S, hS⟩ : ∃ S, S = sumBy kmOf (l.take k) := ⟨_, rfl⟩
      have hgn := Hnum.out g (List.mem_of_getElem? hg)
      have hkm := kmOf_mod hgn
      obtain ⟨veh, ⟨a1, s1, m1, f1⟩, ⟨a2, s2, m2, f2⟩⟩ := g
      have hr0 := hrg k _ hg
      have hr1 : wr.rangeAt b (off + k * 9) [.string veh, .int .i64 a1, .string s1, .int .i64 m1, .int .i64 f1, .int .i64 a2, .string s2, .int .i64 m2, .int .i64 f2] := hr0
      have hm1 : 0 ≤ m1 ∧ m1 ≤ 999999 := hgn.1
      have hm2 : 0 ≤ m2 ∧ m2 ≤ 999999 := hgn.2.1
      have hm10 := hm1.1
      have hm11 := hm1.2
      have hm20 := hm2.1
      have hm21 := hm2.2
      rw [← hS] at hs1 hb1 ⊢
      have hS0 : 0 ≤ S := by have := hb1.1; omega
      have hS1 : S ≤ 1000000 * k := hb1.2
      have HK := Lib.hid (show sumBy kmOf (l.take (k + 1)) = S + (m2 - m1 + 999999 + 1) % 1000000 by rw [hs1]; exact congrArg _ hkm.symm)
      clear hr0 hrg hg hs1 hb1 hb2 hS hgn hm1 hm2 hkm
      go_wp2_with (with_reducible refine wpList_load_rng rfl 138 (.tmp 11) rfl b (off + k * 9) rfl _ _ hr1 Tryd.underlying138 rfl 9 info_lg rfl ?_)
      go_roundw
      case rel => exact ⟨k + 1, by omega, by go_num, ret_val (by rw [HK.out]), grow_alloc hgr _⟩
      case measure => simp [intOf]; omega
    · go_wp2_with fail
      go_ret
      exact ⟨ret_int (by rw [List.take_of_length_le (by omega)]), hgr⟩

set_option maxRecDepth 100000 in
set_option maxHeartbeats 1000000 in
theorem missingOf_any (key driver : ByteArray) (fr to_ : Int) (l : List Lg) (A : Option Addr) (n c : Nat) (w : World) (hl : SlT lgEnc 9 138 w A n l) (hnum : ∀ g ∈ l, LgNum g) (hn : n ≤ 1000) :
    Calls Tryd.prog 79 #[.agg #[.string key, .string driver, .int .i64 fr, .int .i64 to_, .slice A n c]] w (GotE w (sumBy missOf l)) := by
  have hlen := hl.len
  have Hnum := Lib.hid hnum
  clear hnum
  go_enter Tryd.func79, Tryd.ntmps79
  go_wp2_with fail
  go_loopw [3, 9] (fun s i wr => ∃ k : Nat, k ≤ n ∧ i = .int .i64 k ∧ s = .int .i64 (sumBy missOf (l.take k)) ∧ w.grownBy wr none) (fun _ i _ => n - (intOf i).toNat)
  case atStart => exact ⟨0, Nat.zero_le _, rfl, rfl, grow_alloc (World.grownBy.refl _ _) _⟩
  case round =>
    obtain ⟨k, hk, rfl, rfl, hgr⟩ := hrel
    by_cases hlt : k < n
    · have hlr := hl.grow0 hgr
      obtain ⟨b, off, rfl, hbl, hrg⟩ := hlr.get (by omega)
      obtain ⟨g, hg⟩ : ∃ g, l[k]? = some g := ⟨_, List.getElem?_eq_getElem (by omega)⟩
      have hs1 := sumBy_take missOf hg
      have hb1 := sumBy_bound (l := l.take k) (f := missOf) (fun x hx => missOf_bound (Hnum.out x (List.mem_of_mem_take hx)))
      have hb2 : (l.take k).length = k := by simp; omega
      rw [hb2] at hb1
      obtain ⟨S, hS⟩ : ∃ S, S = sumBy missOf (l.take k) := ⟨_, rfl⟩
      have hgn := Hnum.out g (List.mem_of_getElem? hg)
      obtain ⟨veh, ⟨a1, s1, m1, f1⟩, ⟨a2, s2, m2, f2⟩⟩ := g
      have hr0 := hrg k _ hg
      have hr1 : wr.rangeAt b (off + k * 9) [.string veh, .int .i64 a1, .string s1, .int .i64 m1, .int .i64 f1, .int .i64 a2, .string s2, .int .i64 m2, .int .i64 f2] := hr0
      have hm1 : 0 ≤ f1 ∧ f1 ≤ 8 := hgn.2.2.1
      have hm2 : 0 ≤ f2 ∧ f2 ≤ 8 := hgn.2.2.2
      have hm10 := hm1.1
      have hm11 := hm1.2
      have hm20 := hm2.1
      have hm21 := hm2.2
      rw [← hS] at hs1 hb1 ⊢
      have hS0 : 0 ≤ S := by have := hb1.1; omega
      have hS1 : S ≤ 8 * k := hb1.2
      have HK := Lib.hid (show sumBy missOf (l.take (k + 1)) = S + max 0 (f1 - f2) from hs1)
      clear hr0 hrg hg hs1 hb1 hb2 hS hgn hm1 hm2
      go_wp2_with (with_reducible refine wpList_load_rng rfl 138 (.tmp 11) rfl b (off + k * 9) rfl _ _ hr1 Tryd.underlying138 rfl 9 info_lg rfl ?_)
      go_roundw
      case rel => exact ⟨k + 1, by omega, by go_num, ret_val (by rw [HK.out]), grow_alloc hgr _⟩
      case measure => simp [intOf]; omega
    · go_wp2_with fail
      go_ret
      exact ⟨ret_int (by rw [List.take_of_length_le (by omega)]), hgr⟩

end Go.Proofs.YtljnekobfjpfaaaDoor
