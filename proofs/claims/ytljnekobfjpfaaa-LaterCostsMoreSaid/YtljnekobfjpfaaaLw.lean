/- The walk of the law LaterCostsMore. -/
import Derived.Test.YtljnekobfjpfaaaRd
import Derived.Test.YtljnekobfjpfaaaGe
import Derived.Test.YtljnekobfjpfaaaLp
import Derived.Test.YtljnekobfjpfaaaBm
import Derived.Test.YtljnekobfjpfaaaRun
import Derived.IntWalk
namespace Go.Proofs.Ytljnekobfjpfaaa
open Go.RowKit

/-- The values of the hires of the law. -/
def hireCells (A : Option Addr) (c : Nat) : List Value := [.string ⟨#[104, 49]⟩, .string ⟨#[97, 110, 110]⟩, .int .i64 100, .int .i64 1000, .slice A 1 c]

theorem car_ok (l : List Lg) (h : ∀ g ∈ l, LgOk g) : HrOk ⟨#[104, 49]⟩ ⟨#[97, 110, 110]⟩ l := ⟨(by decide : (⟨#[104, 49]⟩ : ByteArray).size ≤ 1000000), (by decide : (⟨#[97, 110, 110]⟩ : ByteArray).size ≤ 1000000), h⟩
theorem leg_ok (r : Rd) (hr : RdOk r) : LgOk ⟨⟨#[118, 49]⟩, outRd, r⟩ := ⟨(by decide : (⟨#[118, 49]⟩ : ByteArray).size ≤ 1000000), (by decide : (⟨#[115, 49]⟩ : ByteArray).size ≤ 1000000), hr⟩
theorem in_ok (a k f : Int) : RdOk (inRd a k f) := (by decide : (⟨#[115, 49]⟩ : ByteArray).size ≤ 1000000)

theorem carStart (w : World) : Calls Try.prog 13 #[.string ⟨#[104, 49]⟩, .string ⟨#[97, 110, 110]⟩, .agg #[.int .i64 100, .int .i64 1000], .string ⟨#[118, 49]⟩, .agg #[.int .i64 100, .string ⟨#[115, 49]⟩, .int .i64 0, .int .i64 8]] w
    (fun e w' => ∃ A, e = .returned (.tuple #[.agg #[.string ⟨#[104, 49]⟩, .string ⟨#[97, 110, 110]⟩, .int .i64 100, .int .i64 1000, .slice A 1 1], .int .i64 0]) ∧ SlT lgEnc 9 82 w' A 1 carLegs ∧ w.grownBy w' none) := by
  have h := start_any ⟨#[104, 49]⟩ ⟨#[97, 110, 110]⟩ 100 1000 ⟨#[118, 49]⟩ outRd w (by decide) (by decide) (by decide) (by decide : (⟨#[115, 49]⟩ : ByteArray).size ≤ 1000000)
  have e : hireE ⟨⟨#[104, 49]⟩, ⟨#[97, 110, 110]⟩, 100, 1000, [startLeg ⟨#[118, 49]⟩ outRd]⟩ = 0 := car_start
  rw [e] at h
  exact h

theorem carClose (a k f : Int) (A : Option Addr) (c : Nat) (w : World) (hl : SlT lgEnc 9 82 w A 1 carLegs) (h1 : 101 ≤ a) (h2 : a ≤ 10000) (h3 : 0 ≤ k) (h4 : k ≤ 10000) (h5 : 0 ≤ f) (h6 : f ≤ 8) :
    Calls Try.prog 14 #[.agg #[.string ⟨#[104, 49]⟩, .string ⟨#[97, 110, 110]⟩, .int .i64 100, .int .i64 1000, .slice A 1 c], .agg #[.int .i64 a, .string ⟨#[115, 49]⟩, .int .i64 k, .int .i64 f]] w
    (fun e w' => ∃ A' c', e = .returned (.tuple #[.agg #[.string ⟨#[104, 49]⟩, .string ⟨#[97, 110, 110]⟩, .int .i64 100, .int .i64 1000, .slice A' 1 c'], .int .i64 0]) ∧ SlT lgEnc 9 82 w' A' 1 (backLegs a k f) ∧ w.grownBy w' none) := by
  have hok : HrOk ⟨#[104, 49]⟩ ⟨#[97, 110, 110]⟩ carLegs := car_ok _ (fun g hg => by
    rw [List.mem_singleton.1 hg]
    exact leg_ok ⟨-1, ⟨#[]⟩, 0, 0⟩ (by decide : (⟨#[]⟩ : ByteArray).size ≤ 1000000))
  have h := close_any ⟨#[104, 49]⟩ ⟨#[97, 110, 110]⟩ 100 1000 carLegs A 1 c (inRd a k f) w hl hok (in_ok a k f) (by omega)
  have e : closeE ⟨⟨#[104, 49]⟩, ⟨#[97, 110, 110]⟩, 100, 1000, carLegs⟩ (inRd a k f) = 0 := back_close h1 h2 h3 h4 h5 h6
  rw [e] at h
  exact h.mono fun e w' ⟨hg, A', c', he, hs⟩ => ⟨A', c', he, hs rfl, hg⟩

theorem carBill (d : Dl) (hd : dealE d = 0) (a k f : Int) (A : Option Addr) (c : Nat) (w : World) (hl : SlT lgEnc 9 82 w A 1 (backLegs a k f)) (h1 : 101 ≤ a) (h2 : a ≤ 10000) (h3 : 0 ≤ k) (h4 : k ≤ 10000) (h5 : 0 ≤ f) (h6 : f ≤ 8) :
    Calls Try.prog 15 #[.agg (dlCells d).toArray, .agg #[.string ⟨#[104, 49]⟩, .string ⟨#[97, 110, 110]⟩, .int .i64 100, .int .i64 1000, .slice A 1 c], .slice none 0 0] w
    (fun e w' => ∃ A' n' c', e = .returned (.tuple #[.slice A' n' c', .int .i64 0]) ∧ SlT lnEnc 3 89 w' A' n' (billL d (backHire a k f) []) ∧ n' ≤ 3 ∧ w.grownBy w' none) := by
  have hok : HrOk ⟨#[104, 49]⟩ ⟨#[97, 110, 110]⟩ (backLegs a k f) := car_ok _ (fun g hg => by
    rw [List.mem_singleton.1 hg]
    exact leg_ok _ (in_ok a k f))
  have h := bill_any d ⟨#[104, 49]⟩ ⟨#[97, 110, 110]⟩ 100 1000 (backLegs a k f) A 1 c [] none 0 0 w hl hok (by omega) (SlT.nil_ w none) (fun _ h => by cases h) (by omega) (fun _ => ⟨rfl, rfl⟩)
  have hb := back_bill hd h1 h2 h3 h4 h5 h6
  refine h.mono fun e w' ⟨hB, hc⟩ => ?_
  rcases hc with ⟨h0, _⟩ | ⟨_, v, rfl, hown⟩
  · exact absurd hb.1 h0
  · have hs : ∃ A' c', v = .slice A' (billL d (backHire a k f) []).length c' ∧ SlT lnEnc 3 89 w' A' (billL d (backHire a k f) []).length (billL d (backHire a k f) []) := by
      have hown' := hown
      rcases hown'.2 with ⟨rfl, h0⟩ | ⟨g, cap, cur, rfl, _⟩
      · have hl : billL d (backHire a k f) [] = [] := List.length_eq_zero_iff.1 h0
        rw [hl]
        exact ⟨none, 0, rfl, SlT.nil_ w' none⟩
      · exact ⟨_, cap, rfl, SlT.ofOwn ln_len hown rfl⟩
    obtain ⟨A', c', rfl, hsl⟩ := hs
    exact ⟨A', _, c', rfl, hsl, hb.2.2.2, grow_of_below hB⟩

theorem bill_ok (d : Dl) (h : Hr) : ∀ x ∈ billL d h [], LnOk x := by
  unfold billL
  exact addLn_ok (addLn_ok (addLn_ok (fun _ h => by cases h) (by decide)) (by decide)) (by decide)

/-- What is kept while the law draws its numbers. -/
structure Car (w wx : World) (d : Dl) (m D H : Nat) (A : Option Addr) : Prop where
  s : Strm 25 wx w.heap.size w.heap.size m
  d : Blk wx D 42 (dlCells d)
  h : Blk wx H 46 (hireCells A 1)
  l : SlT lgEnc 9 82 wx A 1 carLegs
  g : w.grownBy wx none
  hd : w.heap.size < D
  hh : w.heap.size < H
theorem Car.drawn {w wx wy : World} {d : Dl} {m m' D H : Nat} {A : Option Addr} (c : Car w wx d m D H A) (hS : Strm 25 wy w.heap.size w.heap.size m') (hg : wx.grownBy wy (some w.heap.size)) : Car w wy d m' D H A := by
  obtain ⟨A1, n1, c1, k1, hh, _⟩ := c.s.pos
  exact ⟨hS, c.d.grown hg (fun h => absurd (Option.some.inj h) (by have := c.hd; omega)), c.h.grown hg (fun h => absurd (Option.some.inj h) (by have := c.hh; omega)),
    c.l.grown hg hh (by decide), grow_own c.g hg (fun k h => by cases h; exact Nat.le_refl _), c.hd, c.hh⟩
theorem Car.grow0 {w wx wy : World} {d : Dl} {m D H : Nat} {A : Option Addr} (c : Car w wx d m D H A) (hg : wx.grownBy wy none) : Car w wy d m D H A :=
  ⟨c.s.grown hg (fun k h => by cases h), c.d.grown hg (by simp), c.h.grown hg (by simp), c.l.grow0 hg, grow_trans c.g hg, c.hd, c.hh⟩
theorem Car.drew {w wx : World} {d : Dl} {m D H : Nat} {A : Option Addr} (c : Car w wx d m D H A) : Car w wx.drew d m D H A := c.grow0 (grow_drew (World.grownBy.refl _ _))

theorem Car.alloc {w wx : World} {d : Dl} {m D H : Nat} {A : Option Addr} (c : Car w wx d m D H A) (o : Obj) : Car w (wx.alloc o) d m D H A := c.grow0 (grow_alloc (World.grownBy.refl _ _) o)
/-- A new hire, nothing in it yet. -/
def zeroHire : List Value := [.string ⟨#[]⟩, .string ⟨#[]⟩, .int .i64 0, .int .i64 0, .slice none 0 0]
structure ZB (w wx : World) (D H Z : Nat) : Prop where
  sb : w.heap.size < Z
  d : D < Z
  h : H < Z
  b : Blk wx Z 46 zeroHire
theorem ZB.new {w wx : World} {d : Dl} {m D H : Nat} {A : Option Addr} (c : Car w wx d m D H A) : ZB w (wx.alloc (.cells #[.string ⟨#[]⟩, .string ⟨#[]⟩, .int .i64 0, .int .i64 0, .slice none 0 0] 46)) D H wx.heap.size := ⟨c.s.lt, c.d.lt, c.h.lt, Blk.at_ wx rfl _ _⟩
theorem ZB.drew {w wx : World} {D H Z : Nat} (h : ZB w wx D H Z) : ZB w wx.drew D H Z := ⟨h.sb, h.d, h.h, h.b.drew⟩
theorem ZB.drawn {w wx wy : World} {D H Z : Nat} (h : ZB w wx D H Z) (hg : wx.grownBy wy (some w.heap.size)) : ZB w wy D H Z := ⟨h.sb, h.d, h.h, h.b.grown hg (fun e => absurd (Option.some.inj e) (by have := h.sb; omega))⟩
theorem ZB.grow0 {w wx wy : World} {D H Z : Nat} (h : ZB w wx D H Z) (hg : wx.grownBy wy none) : ZB w wy D H Z := ⟨h.sb, h.d, h.h, h.b.grown hg (by simp)⟩
/-- Five cells of one block are written: what another block holds. -/
theorem far5 {wx : World} {g Z : Nat} {t : TypeId} {cs : List Value} (h : Blk wx g t cs) (hne : g < Z) (v0 v1 v2 v3 v4 : Value) :
    Blk (((((wx.setCell ⟨Z, 0, none⟩ v0).setCell ⟨Z, 1, none⟩ v1).setCell ⟨Z, 2, none⟩ v2).setCell ⟨Z, 3, none⟩ v3).setCell ⟨Z, 4, none⟩ v4) g t cs :=
  ((((h.far (by simp; omega) _).far (by simp; omega) _).far (by simp; omega) _).far (by simp; omega) _).far (by simp; omega) _
theorem set5 {wx : World} {Z : Nat} {t : TypeId} (h : Blk wx Z t zeroHire) (v0 v1 v2 v3 v4 : Value) :
    Blk (((((wx.setCell ⟨Z, 0, none⟩ v0).setCell ⟨Z, 1, none⟩ v1).setCell ⟨Z, 2, none⟩ v2).setCell ⟨Z, 3, none⟩ v3).setCell ⟨Z, 4, none⟩ v4) Z t [v0, v1, v2, v3, v4] :=
  ((((h.set_ 0 _).set_ 1 _).set_ 2 _).set_ 3 _).set_ 4 _
theorem grow5 {a wx : World} {Z : Nat} {row : Option Nat} (h : a.grownBy wx row) (hz : a.heap.size ≤ Z) (v0 v1 v2 v3 v4 : Value) :
    a.grownBy (((((wx.setCell ⟨Z, 0, none⟩ v0).setCell ⟨Z, 1, none⟩ v1).setCell ⟨Z, 2, none⟩ v2).setCell ⟨Z, 3, none⟩ v3).setCell ⟨Z, 4, none⟩ v4) row :=
  grow_setCell (grow_setCell (grow_setCell (grow_setCell (grow_setCell h (.inr hz) _) (.inr hz) _) (.inr hz) _) (.inr hz) _) (.inr hz) _

theorem own5 (wx : World) (Z : Nat) (v0 v1 v2 v3 v4 : Value) :
    wx.grownBy (((((wx.setCell ⟨Z, 0, none⟩ v0).setCell ⟨Z, 1, none⟩ v1).setCell ⟨Z, 2, none⟩ v2).setCell ⟨Z, 3, none⟩ v3).setCell ⟨Z, 4, none⟩ v4) (some Z) := by
  have h0 : wx.grownBy wx (some Z) := World.grownBy.refl _ _
  have h1 := grow_setCell h0 (p := ⟨Z, 0, none⟩) (.inl rfl) v0
  have h2 := grow_setCell h1 (p := ⟨Z, 1, none⟩) (.inl rfl) v1
  have h3 := grow_setCell h2 (p := ⟨Z, 2, none⟩) (.inl rfl) v2
  have h4 := grow_setCell h3 (p := ⟨Z, 3, none⟩) (.inl rfl) v3
  exact grow_setCell h4 (p := ⟨Z, 4, none⟩) (.inl rfl) v4

/-- Behind the second return. -/
def Back2 (w w0 : World) (d : Dl) (D : Nat) (a k f : Int) (p e : Value) (wx : World) : Prop :=
  ∃ (x y z : Int) (B : Nat) (A : Option Addr) (c : Nat), 0 ≤ x ∧ x ≤ 3000 ∧ 0 ≤ y ∧ y ≤ 500 ∧ 0 ≤ z ∧ z ≤ 1 ∧ p = .pointer (some ⟨B, 0, none⟩) ∧ e = .int .i64 0 ∧ Blk wx B 46 (hireCells A c) ∧ SlT lgEnc 9 82 wx A 1 (backLegs (a + x) (k + y) (f - z)) ∧
    w0.grownBy wx (some w.heap.size) ∧ Blk wx D 42 (dlCells d) ∧ w.grownBy wx none

set_option maxRecDepth 100000 in
set_option maxHeartbeats 4000000 in
theorem later_walk (a0 : Option Addr) (len0 cap0 : Nat) (z0 : List Int) (w : World) (w0 : RowIn w a0 len0 cap0 z0) :
    Calls Try.prog 4 #[.slice a0 len0 cap0] w fun e w' => e = .returned (.bool true) ∧ Below w.heap.size w w' := by
  have hS := Strm.start (TS := 25) w0
  clear w0
  go_enter Try.func4, Try.ntmps4
  go_wp2_with fail
  refine (rightDeal_any _ _ _ _ hS (by omega)).mono ?_
  rintro e w1 ⟨d, hd, rfl, hS1, hg1⟩
  have hgw1 : w.grownBy w1 none := grow_own (grow_alloc (World.grownBy.refl _ _) _) hg1 (fun k h => by cases h; exact Nat.le_refl _)
  have hlt := hS1.lt
  have Hd := Lib.hid hd
  clear hS hg1 hd
  have hnew : Blk (w1.alloc (.cells #[.int .i64 0, .int .i64 0, .int .i64 0, .int .i64 0, .int .i64 0, .int .i64 0, .int .i64 0] 42)) w1.heap.size 42 [.int .i64 0, .int .i64 0, .int .i64 0, .int .i64 0, .int .i64 0, .int .i64 0, .int .i64 0] := Blk.at_ w1 rfl _ _
  go_wp2_with (first
    | (with_reducible refine wpList_store_all rfl 42 (.tmp 4) (.tmp 26) rfl w1.heap.size _ _ (dlCells d) hnew rfl rfl 7 info_dl0 (dl_len d) rfl (dl_one d) ?_
       intro w2 hD2 hg2))
  have hS2 := (hS1.alloc (.cells #[.int .i64 0, .int .i64 0, .int .i64 0, .int .i64 0, .int .i64 0, .int .i64 0, .int .i64 0] 42)).grown hg2 (fun k h => by cases h; omega)
  have hgw2 : w.grownBy w2 none := grow_own (grow_alloc hgw1 _) hg2 (fun k h => by cases h; omega)
  clear hnew hS1 hg2 hgw1
  refine (carStart _).mono ?_
  rintro e w3 ⟨A, rfl, hL3, hg3⟩
  have hD3 := hD2.grown hg3 (by simp)
  have hS3 := hS2.grown hg3 (fun k h => by cases h)
  have hgw3 := grow_trans hgw2 hg3
  have hlt3 := hS3.lt
  clear hD2 hS2 hgw2 hg3
  have hnew : Blk (w3.alloc (.cells #[.string ⟨#[]⟩, .string ⟨#[]⟩, .int .i64 0, .int .i64 0, .slice none 0 0] 46)) w3.heap.size 46 [.string ⟨#[]⟩, .string ⟨#[]⟩, .int .i64 0, .int .i64 0, .slice none 0 0] := Blk.at_ w3 rfl _ _
  go_wp2_with (first
    | (with_reducible refine wpList_store_all rfl 46 (.tmp 5) (.tmp 31) rfl w3.heap.size _ _ (hireCells A 1) hnew rfl rfl 5 info_hr rfl rfl (by simp [hireCells, Value.oneCell']) ?_
       intro w4 hH4 hg4))
  have hC4 : Car w w4 d _ w1.heap.size w3.heap.size A := ⟨(hS3.alloc (.cells #[.string ⟨#[]⟩, .string ⟨#[]⟩, .int .i64 0, .int .i64 0, .slice none 0 0] 46)).grown hg4 (fun k h => by cases h; omega),
    (hD3.alloc (.cells #[.string ⟨#[]⟩, .string ⟨#[]⟩, .int .i64 0, .int .i64 0, .slice none 0 0] 46)).grown hg4 (fun h => absurd (Option.some.inj h) (by have := hD3.lt; omega)), hH4,
    (hL3.alloc (.cells #[.string ⟨#[]⟩, .string ⟨#[]⟩, .int .i64 0, .int .i64 0, .slice none 0 0] 46)).grown hg4 hnew (by decide), grow_own (grow_alloc hgw3 _) hg4 (fun k h => by cases h; omega), hlt, hlt3⟩
  obtain ⟨D, hDn⟩ : ∃ D, D = w1.heap.size := ⟨_, rfl⟩
  obtain ⟨H, hHn⟩ : ∃ H, H = w3.heap.size := ⟨_, rfl⟩
  rw [← hDn, ← hHn] at hC4
  rw [← hDn, ← hHn]
  clear hnew hS3 hD3 hL3 hgw3 hg4 hH4 hDn hHn hlt hlt3
  refine (range_any 101 5000 _ _ _ _ hC4.s (by omega) (by omega) (by omega) (by omega) (by omega)).mono ?_
  rintro e w5 ⟨a, ha, rfl, hS5, hg5⟩
  have hC5 := hC4.drawn hS5 hg5
  have ha0 : 101 ≤ a := ha.1
  have ha1 : a ≤ 5000 := by omega
  clear hC4 hS5 hg5 ha
  go_wp2_with fail
  refine (range_any 0 2000 _ _ _ _ hC5.s (by omega) (by omega) (by omega) (by omega) (by omega)).mono ?_
  rintro e w6 ⟨k, hk, rfl, hS6, hg6⟩
  have hC6 := hC5.drawn hS6 hg6
  have hk0 : 0 ≤ k := hk.1
  have hk1 : k ≤ 2000 := by omega
  clear hC5 hS6 hg6 hk
  go_wp2_with fail
  refine (range_any 1 8 _ _ _ _ hC6.s (by omega) (by omega) (by omega) (by omega) (by omega)).mono ?_
  rintro e w7 ⟨f, hf, rfl, hS7, hg7⟩
  have hC7 := hC6.drawn hS7 hg7
  have hf0 : 1 ≤ f := hf.1
  have hf1 : f ≤ 8 := by omega
  clear hC6 hS7 hg7 hf
  go_wp2_with (with_reducible refine wpList_load_all rfl 46 (.tmp 5) rfl H _ _ _ hC7.h rfl Try.underlying46 rfl 5 info_hr rfl ?_)
  refine (carClose a k f A 1 _ hC7.l ha0 (by omega) hk0 (by omega) (by omega) hf1).mono ?_
  rintro e w8 ⟨A1, c1, rfl, hL8, hg8⟩
  have hC8 := hC7.grow0 hg8
  clear hC7 hg8
  have hnew : Blk (w8.alloc (.cells #[.string ⟨#[]⟩, .string ⟨#[]⟩, .int .i64 0, .int .i64 0, .slice none 0 0] 46)) w8.heap.size 46 [.string ⟨#[]⟩, .string ⟨#[]⟩, .int .i64 0, .int .i64 0, .slice none 0 0] := Blk.at_ w8 rfl _ _
  go_wp2_with (first
    | (with_reducible refine wpList_store_all rfl 46 (.tmp 10) (.tmp 46) rfl w8.heap.size _ _ (hireCells A1 c1) hnew rfl rfl 5 info_hr rfl rfl (by simp [hireCells, Value.oneCell']) ?_
       intro w9 hB9 hg9))
  have hC9 : Car w w9 d (0 + 400 + 1 + 1 + 1) D H A := by
    have hz := hC8.s.lt
    have hdl := hC8.d.lt
    have hhl := hC8.h.lt
    exact ⟨(hC8.s.alloc (.cells #[.string ⟨#[]⟩, .string ⟨#[]⟩, .int .i64 0, .int .i64 0, .slice none 0 0] 46)).grown hg9 (fun k h => by cases h; omega),
      (hC8.d.alloc (.cells #[.string ⟨#[]⟩, .string ⟨#[]⟩, .int .i64 0, .int .i64 0, .slice none 0 0] 46)).grown hg9 (fun h => absurd (Option.some.inj h) (by omega)),
      (hC8.h.alloc (.cells #[.string ⟨#[]⟩, .string ⟨#[]⟩, .int .i64 0, .int .i64 0, .slice none 0 0] 46)).grown hg9 (fun h => absurd (Option.some.inj h) (by omega)),
      (hC8.l.alloc (.cells #[.string ⟨#[]⟩, .string ⟨#[]⟩, .int .i64 0, .int .i64 0, .slice none 0 0] 46)).grown hg9 hnew (by decide), grow_own (grow_alloc hC8.g _) hg9 (fun k h => by cases h; omega), hC8.hd, hC8.hh⟩
  have hL9 := (hL8.alloc (.cells #[.string ⟨#[]⟩, .string ⟨#[]⟩, .int .i64 0, .int .i64 0, .slice none 0 0] 46)).grown hg9 hnew (by decide)
  obtain ⟨B1, hB1⟩ : ∃ B1, B1 = w8.heap.size := ⟨_, rfl⟩
  have hBs : w.heap.size < B1 := by have := hC8.s.lt; omega
  rw [← hB1] at hB9 ⊢
  clear hnew hg9 hC8 hL8 hB1
  have mk := fun (wx : World) (hH : Blk wx H 46 (hireCells A 1)) =>
    And.intro (hH.cell_of (i := 0) (v := .string ⟨#[104, 49]⟩) rfl) (And.intro (hH.cell_of (i := 1) (v := .string ⟨#[97, 110, 110]⟩) rfl) (And.intro (hH.cell_of (i := 2) (v := .int .i64 100) rfl) (And.intro (hH.cell_of (i := 3) (v := .int .i64 1000) rfl) (hH.cell_of (i := 4) (v := .slice A 1 1) rfl))))
  have Mk := Lib.hid mk
  have q0 := mk _ hC9.drew.h
  clear mk
  go_upto_region 6 with fail
  go_cut [12, 13] (fun p e wx => Back2 w w9 d D a k f p e wx)
  case first =>
    go_region_held3 (fun wx => wx.cell? ⟨H, 0, none⟩ = some (.string ⟨#[104, 49]⟩) ∧ wx.cell? ⟨H, 1, none⟩ = some (.string ⟨#[97, 110, 110]⟩) ∧ wx.cell? ⟨H, 2, none⟩ = some (.int .i64 100) ∧ wx.cell? ⟨H, 3, none⟩ = some (.int .i64 1000) ∧ wx.cell? ⟨H, 4, none⟩ = some (.slice A 1 1))
      (first
        | with_reducible exact q13
        | with_reducible exact Mk.out _ (far5 hC13.h hz13.h _ _ _ _ _)
        | with_reducible exact q12
        | with_reducible exact q11
        | with_reducible exact q10
        | with_reducible exact Mk.out _ (hC13.alloc _).h
        | with_reducible exact Mk.out _ (hC12.alloc _).h
        | with_reducible exact Mk.out _ (hC11.alloc _).h
        | with_reducible exact Mk.out _ (hC10.alloc _).h
        | with_reducible exact Mk.out _ ((hC9.alloc _).drew).h
        | exact q0)
      (first
        | (go_at_call 7; (with_reducible refine (range_any 0 3000 _ _ _ _ hC9.drew.s (by omega) (by omega) (by omega) (by omega) (by omega)).mono ?_); rintro e w10 ⟨x, hx, rfl, hS10, hg10⟩; have hC10 := hC9.drew.drawn hS10 hg10; have q10 := Mk.out _ hC10.h; have hx0 : 0 ≤ x := hx.1; have hx1 : x ≤ 3000 := (by omega); clear hx; have hwx : IntKind.i64.wrap (a + x) = a + x := IntWalk.i64_in _ (by omega); have hG10 : w9.grownBy w10 (some w.heap.size) := grow_trans (grow_drew (World.grownBy.refl _ _)) hg10)
        | (go_at_call 7; (with_reducible refine (range_any 0 3000 _ _ _ _ (hC9.alloc _).drew.s (by omega) (by omega) (by omega) (by omega) (by omega)).mono ?_); rintro e w10 ⟨x, hx, rfl, hS10, hg10⟩; have hC10 := (hC9.alloc _).drew.drawn hS10 hg10; have q10 := Mk.out _ hC10.h; have hx0 : 0 ≤ x := hx.1; have hx1 : x ≤ 3000 := (by omega); clear hx; have hwx : IntKind.i64.wrap (a + x) = a + x := IntWalk.i64_in _ (by omega); have hz10 := (ZB.new hC9).drew.drawn hg10; have hG10 : w9.grownBy w10 (some w.heap.size) := grow_trans (grow_drew (grow_alloc (World.grownBy.refl _ _) _)) hg10; have hZle : w9.heap.size ≤ w9.heap.size := Nat.le_refl _)
        | (go_at_call 7; have tk := hz10; clear tk; (with_reducible refine (range_any 0 500 _ _ _ _ hC10.s (by omega) (by omega) (by omega) (by omega) (by omega)).mono ?_); rintro e w11 ⟨y, hy, rfl, hS11, hg11⟩; have hC11 := hC10.drawn hS11 hg11; have q11 := Mk.out _ hC11.h; have hy0 : 0 ≤ y := hy.1; have hy1 : y ≤ 500 := (by omega); clear hy; have hwy : IntKind.i64.wrap (k + y) = k + y := IntWalk.i64_in _ (by omega); have hz11 := hz10.drawn hg11; have hG11 : w9.grownBy w11 (some w.heap.size) := grow_trans hG10 hg11)
        | (go_at_call 7; (with_reducible refine (range_any 0 500 _ _ _ _ hC10.s (by omega) (by omega) (by omega) (by omega) (by omega)).mono ?_); rintro e w11 ⟨y, hy, rfl, hS11, hg11⟩; have hC11 := hC10.drawn hS11 hg11; have q11 := Mk.out _ hC11.h; have hy0 : 0 ≤ y := hy.1; have hy1 : y ≤ 500 := (by omega); clear hy; have hwy : IntKind.i64.wrap (k + y) = k + y := IntWalk.i64_in _ (by omega); have hG11 : w9.grownBy w11 (some w.heap.size) := grow_trans hG10 hg11)
        | (go_at_call 7; (with_reducible refine (range_any 0 500 _ _ _ _ (hC10.alloc _).s (by omega) (by omega) (by omega) (by omega) (by omega)).mono ?_); rintro e w11 ⟨y, hy, rfl, hS11, hg11⟩; have hC11 := (hC10.alloc _).drawn hS11 hg11; have q11 := Mk.out _ hC11.h; have hy0 : 0 ≤ y := hy.1; have hy1 : y ≤ 500 := (by omega); clear hy; have hwy : IntKind.i64.wrap (k + y) = k + y := IntWalk.i64_in _ (by omega); have hz11 := (ZB.new hC10).drawn hg11; have hG11 : w9.grownBy w11 (some w.heap.size) := grow_trans (grow_alloc hG10 _) hg11; have hZle := hG10.size)
        | (go_at_call 7; have tk := hz11; clear tk; (with_reducible refine (range_any 0 1 _ _ _ _ hC11.s (by omega) (by omega) (by omega) (by omega) (by omega)).mono ?_); rintro e w12 ⟨z, hz, rfl, hS12, hg12⟩; have hC12 := hC11.drawn hS12 hg12; have q12 := Mk.out _ hC12.h; have hz0 : 0 ≤ z := hz.1; have hz1 : z ≤ 1 := (by omega); clear hz; have hwz : IntKind.i64.wrap (f - z) = f - z := IntWalk.i64_in _ (by omega); have hz12 := hz11.drawn hg12; have hG12 : w9.grownBy w12 (some w.heap.size) := grow_trans hG11 hg12)
        | (go_at_call 7; (with_reducible refine (range_any 0 1 _ _ _ _ hC11.s (by omega) (by omega) (by omega) (by omega) (by omega)).mono ?_); rintro e w12 ⟨z, hz, rfl, hS12, hg12⟩; have hC12 := hC11.drawn hS12 hg12; have q12 := Mk.out _ hC12.h; have hz0 : 0 ≤ z := hz.1; have hz1 : z ≤ 1 := (by omega); clear hz; have hwz : IntKind.i64.wrap (f - z) = f - z := IntWalk.i64_in _ (by omega); have hG12 : w9.grownBy w12 (some w.heap.size) := grow_trans hG11 hg12)
        | (go_at_call 7; (with_reducible refine (range_any 0 1 _ _ _ _ (hC11.alloc _).s (by omega) (by omega) (by omega) (by omega) (by omega)).mono ?_); rintro e w12 ⟨z, hz, rfl, hS12, hg12⟩; have hC12 := (hC11.alloc _).drawn hS12 hg12; have q12 := Mk.out _ hC12.h; have hz0 : 0 ≤ z := hz.1; have hz1 : z ≤ 1 := (by omega); clear hz; have hwz : IntKind.i64.wrap (f - z) = f - z := IntWalk.i64_in _ (by omega); have hz12 := (ZB.new hC11).drawn hg12; have hG12 : w9.grownBy w12 (some w.heap.size) := grow_trans (grow_alloc hG11 _) hg12; have hZle := hG11.size)
        | (go_at_call 14; have tk := hz12; clear tk; (with_reducible refine (carClose (a + x) (k + y) (f - z) A 1 _ hC12.l (by omega) (by omega) (by omega) (by omega) (by omega) (by omega)).mono ?_); rintro e w13 ⟨A2, c2, rfl, hL13, hg13⟩; have hC13 := hC12.grow0 hg13; have q13 := Mk.out _ hC13.h; have hz13 := hz12.grow0 hg13; have z0 := hz13.b.cell_of (i := 0) rfl; have g0 := hz13.b.frozen 0; have z1 := hz13.b.cell_of (i := 1) rfl; have g1 := hz13.b.frozen 1; have z2 := hz13.b.cell_of (i := 2) rfl; have g2 := hz13.b.frozen 2; have z3 := hz13.b.cell_of (i := 3) rfl; have g3 := hz13.b.frozen 3; have z4 := hz13.b.cell_of (i := 4) rfl; have g4 := hz13.b.frozen 4; have hG13 : w9.grownBy w13 (some w.heap.size) := grow_trans hG12 (grow_weak hg13))
        | (go_at_call 14; (with_reducible refine (carClose (a + x) (k + y) (f - z) A 1 _ hC12.l (by omega) (by omega) (by omega) (by omega) (by omega) (by omega)).mono ?_); rintro e w13 ⟨A2, c2, rfl, hL13, hg13⟩; have hC13 := hC12.grow0 hg13; have q13 := Mk.out _ hC13.h; have hG13 : w9.grownBy w13 (some w.heap.size) := grow_trans hG12 (grow_weak hg13))
        | (go_at_call 14; (with_reducible refine (carClose (a + x) (k + y) (f - z) A 1 _ (hC12.alloc _).l (by omega) (by omega) (by omega) (by omega) (by omega) (by omega)).mono ?_); rintro e w13 ⟨A2, c2, rfl, hL13, hg13⟩; have hC13 := (hC12.alloc _).grow0 hg13; have q13 := Mk.out _ hC13.h; have hz13 := (ZB.new hC12).grow0 hg13; have z0 := hz13.b.cell_of (i := 0) rfl; have g0 := hz13.b.frozen 0; have z1 := hz13.b.cell_of (i := 1) rfl; have g1 := hz13.b.frozen 1; have z2 := hz13.b.cell_of (i := 2) rfl; have g2 := hz13.b.frozen 2; have z3 := hz13.b.cell_of (i := 3) rfl; have g3 := hz13.b.frozen 3; have z4 := hz13.b.cell_of (i := 4) rfl; have g4 := hz13.b.frozen 4; have hG13 : w9.grownBy w13 (some w.heap.size) := grow_trans (grow_alloc hG12 _) (grow_weak hg13); have hZle := hG12.size))
    all_goals
      go_wp2_with fail
      go_meet
      first
        | (have tk := hz13.sb
           exact ⟨x, y, z, _, A2, c2, hx0, hx1, hy0, hy1, hz0, hz1, rfl, rfl, set5 hz13.b _ _ _ _ _, hL13.grown (own5 _ _ _ _ _ _ _) hz13.b (by decide), grow5 hG13 hZle _ _ _ _ _, far5 hC13.d hz13.d _ _ _ _ _, grow5 hC13.g (Nat.le_of_lt tk) _ _ _ _ _⟩)
        | exact ⟨x, y, z, w13.heap.size, A2, c2, hx0, hx1, hy0, hy1, hz0, hz1, rfl, rfl, Blk.at_ w13 rfl _ _, hL13.alloc _, grow_alloc hG13 _, hC13.d.alloc _, grow_alloc hC13.g _⟩
  case rest =>
    obtain ⟨x, y, z, B2, A2, c2, hx0, hx1, hy0, hy1, hz0, hz1, rfl, rfl, hB2, hL2, hGc, hDc, hgc⟩ := hcut
    obtain ⟨w14, hw14⟩ : ∃ w14 : World, w14 = wc := ⟨_, rfl⟩
    rw [← hw14] at hB2 hL2 hGc hDc hgc ⊢
    clear hw14
    obtain ⟨As, ns, cs, ks, hhs, _⟩ := hC9.s.pos
    have hL1 := hL9.grown hGc hhs (by decide)
    have hB1 := hB9.grown hGc (fun h => absurd (Option.some.inj h) (by omega))
    clear hC9 hL9 hB9 hGc hhs q0
    go_wp2_with (first
      | (with_reducible refine wpList_load_all rfl 42 (.tmp 4) rfl D _ _ _ hDc rfl Try.underlying42 rfl 7 info_dl0 (dl_len d) ?_)
      | (with_reducible refine wpList_load_all rfl 46 (.tmp 10) rfl B1 _ _ _ hB1 rfl Try.underlying46 rfl 5 info_hr rfl ?_))
    refine (carBill d Hd.out a k f A1 c1 w14 hL1 ha0 (by omega) hk0 (by omega) (by omega) hf1).mono ?_
    rintro e w15 ⟨A3, n3, c3, rfl, hX3, hn3, hg15⟩
    have hD15 := hDc.grown hg15 (by simp)
    have hB15 := hB2.grown hg15 (by simp)
    have hL15 := hL2.grow0 hg15
    have hgw15 := grow_trans hgc hg15
    clear hDc hB2 hL2 hgc hg15 hB1 hL1
    go_wp2_with (first
      | (with_reducible refine wpList_load_all rfl 42 (.tmp 4) rfl D _ _ _ hD15 rfl Try.underlying42 rfl 7 info_dl0 (dl_len d) ?_)
      | (with_reducible refine wpList_load_all rfl 46 (.tmp 12) rfl B2 _ _ _ hB15 rfl Try.underlying46 rfl 5 info_hr rfl ?_))
    refine (carBill d Hd.out (a + x) (k + y) (f - z) A2 c2 w15 hL15 (by omega) (by omega) (by omega) (by omega) (by omega) (by omega)).mono ?_
    rintro e w16 ⟨A4, n4, c4, rfl, hX4, hn4, hg16⟩
    have hX3' := hX3.grow0 hg16
    have hgw16 := grow_trans hgw15 hg16
    have hb3 := back_bill Hd.out ha0 (show a ≤ 10000 by omega) hk0 (show k ≤ 10000 by omega) (show 0 ≤ f by omega) hf1
    have hb4 := back_bill Hd.out (show 101 ≤ a + x by omega) (show a + x ≤ 10000 by omega) (show 0 ≤ k + y by omega) (show k + y ≤ 10000 by omega) (show 0 ≤ f - z by omega) (show f - z ≤ 8 by omega)
    have hmono := back_mono Hd.out (at_ := a) (km := k) (fuel := f) hx0 hy0 hz0
    rw [← hb3.2.2.1, ← hb4.2.2.1] at hmono
    have CT3 := Lib.hid (fun (w : World) (h : SlT lnEnc 3 89 w A3 n3 (billL d (backHire a k f) [])) => (by have := total_any _ A3 n3 c3 w h (bill_ok d _) (by omega); rw [hb3.2.1] at this; exact this : Calls Try.prog 16 #[.slice A3 n3 c3] w (RetIE w (totalV (billL d (backHire a k f) [])) 0)))
    have CT4 := Lib.hid (fun (w : World) (h : SlT lnEnc 3 89 w A4 n4 (billL d (backHire (a + x) (k + y) (f - z)) [])) => (by have := total_any _ A4 n4 c4 w h (bill_ok d _) (by omega); rw [hb4.2.1] at this; exact this : Calls Try.prog 16 #[.slice A4 n4 c4] w (RetIE w (totalV (billL d (backHire (a + x) (k + y) (f - z)) [])) 0)))
    obtain ⟨T3, hT3⟩ : ∃ T, T = totalV (billL d (backHire a k f) []) := ⟨_, rfl⟩
    obtain ⟨T4, hT4⟩ : ∃ T, T = totalV (billL d (backHire (a + x) (k + y) (f - z)) []) := ⟨_, rfl⟩
    rw [← hT3, ← hT4] at hmono
    rw [← hT3] at CT3
    rw [← hT4] at CT4
    clear hb3 hb4 hT3 hT4 hX3 hD15 hB15 hL15 hgw15 hg16
    go_wp2_with fail
    refine (CT3.out w16 hX3').mono ?_
    rintro e w17 ⟨rfl, hg17⟩
    go_wp2_with fail
    refine (CT4.out w17 (hX4.grow0 hg17)).mono ?_
    rintro e w18 ⟨rfl, hg18⟩
    go_wp2_with fail
    refine (ready_any _).mono ?_
    rintro e w19 ⟨rfl, hg19⟩
    go_wp2_with fail
    go_ret
    exact ⟨ret_bool (by simp), below_of_grow (grow_trans (grow_trans (grow_trans hgw16 hg17) hg18) hg19)⟩

end Go.Proofs.Ytljnekobfjpfaaa
