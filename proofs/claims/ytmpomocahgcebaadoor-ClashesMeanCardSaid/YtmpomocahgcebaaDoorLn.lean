/- The walks of tariff.CheckLines, word.Sum, tariff.Total. -/
import Derived.Test.YtmpomocahgcebaaDoorHk
namespace Go.Proofs.YtmpomocahgcebaaDoor
open Go.RowKit

structure Ln where
  kind : Int
  key : ByteArray
  cents : Int
def lnEnc (x : Ln) : List Value := [.int .i64 x.kind, .string x.key, .int .i64 x.cents]
theorem ln_len (x : Ln) : (lnEnc x).length = 3 := rfl
def LnOk (x : Ln) : Prop := x.key.size ≤ 1000000
def lineE (_ : Option Ln) (x : Ln) : Int := if !inB x.kind 1 6 then 4 else if !keyB x.key then 5 else if !inB x.cents (-1000000000) 1000000000 then 1 else 0
def linesE (l : List Ln) : Int := if 1000 < l.length then 2 else scanE lineE none l
theorem info_ln : (Tryd.prog.info? 133).map (·.size) = some 3 := by kernel_rfl

set_option maxRecDepth 100000 in
set_option maxHeartbeats 1000000 in
theorem checkLines_any (l : List Ln) (A : Option Addr) (n c : Nat) (w : World) (hl : SlT lnEnc 3 133 w A n l) (hok : ∀ x ∈ l, LnOk x) (hn : n ≤ 1000000) :
    Calls Tryd.prog 80 #[.slice A n c] w (GotE w (linesE l)) := by
  have hlen := hl.len
  by_cases h1000 : 1000 < n
  · have Hsp := Lib.hid (show linesE l = 2 by unfold linesE; rw [if_pos (by omega)])
    have hq : decide (1000 < n) = true := by simpa using h1000
    go_enter Tryd.func80, Tryd.ntmps80
    go_wp2_with fail
    go_ret
    exact ⟨ret_int Hsp.out.symm, World.grownBy.refl _ _⟩
  · have Hsp := Lib.hid (show linesE l = scanE lineE (prevOf l 0) (l.drop 0) by unfold linesE; rw [if_neg (by omega)]; rfl)
    have hd : decide ((1000 : Int) < (n : Int)) = false := by simp; omega
    have hq : decide (1000 < n) = false := by simp; omega
    obtain ⟨R, hR⟩ : ∃ R, R = linesE l := ⟨_, rfl⟩
    rw [← hR] at Hsp ⊢
    have Hok := Lib.hid hok
    clear hR hok
    go_enter Tryd.func80, Tryd.ntmps80
    go_wp2_with fail
    go_loopw [10] (fun i wr => ∃ k : Nat, k ≤ n ∧ i = .int .i64 k ∧ R = scanE lineE (prevOf l k) (l.drop k) ∧ w.grownBy wr none) (fun i _ => n - (intOf i).toNat)
    case atStart => exact ⟨0, Nat.zero_le _, rfl, Hsp.out, World.grownBy.refl _ _⟩
    case round =>
      obtain ⟨k, hk, rfl, hE, hgr⟩ := hrel
      have HE := Lib.hid hE; clear hE
      by_cases hlt : k < n
      · have hlr := hl.grow0 hgr
        obtain ⟨b, off, rfl, hbl, hrg⟩ := hlr.get (by omega)
        obtain ⟨x, hx⟩ : ∃ x, l[k]? = some x := ⟨_, List.getElem?_eq_getElem (by omega)⟩
        have hxo := Hok.out x (List.mem_of_getElem? hx)
        have hr0 := hrg k x hx
        have Hat := Lib.hid (scanE_at lineE l k x hx)
        obtain ⟨kind, key, cents⟩ := x
        have hr1 : wr.rangeAt b (off + k * 3) [.int .i64 kind, .string key, .int .i64 cents] := hr0
        have hks : key.size ≤ 1000000 := hxo
        obtain ⟨I, hI⟩ : ∃ I, inB kind 1 6 = I := ⟨_, rfl⟩
        obtain ⟨K, hK⟩ : ∃ K, keyB key = K := ⟨_, rfl⟩
        obtain ⟨J, hJ⟩ : ∃ J, inB cents (-1000000000) 1000000000 = J := ⟨_, rfl⟩
        have HL := Lib.hid (show lineE (prevOf l k) ⟨kind, key, cents⟩ = if !I then 4 else if !K then 5 else if !J then 1 else 0 by unfold lineE; rw [hI, hK, hJ])
        have CI := Lib.hid (fun w => (by rw [← hI]; exact flipw (in_any _ _ _ _) : Calls Tryd.prog 99 #[.int .i64 kind, .int .i64 1, .int .i64 6] w fun e w' => e = .returned (.bool I) ∧ w' = w))
        have CK := Lib.hid (fun w => (by rw [← hK]; exact flipw (isKey_any _ _ (by omega)) : Calls Tryd.prog 106 #[.string key] w fun e w' => e = .returned (.bool K) ∧ w' = w))
        have CJ := Lib.hid (fun w => (by rw [← hJ]; exact flipw (in_any _ _ _ _) : Calls Tryd.prog 99 #[.int .i64 cents, .int .i64 (-1000000000), .int .i64 1000000000] w fun e w' => e = .returned (.bool J) ∧ w' = w))
        clear hr0 hrg hx hxo hI hK hJ hks
        go_wp2_with (with_reducible refine wpList_load_rng rfl 133 (.tmp 12) rfl b (off + k * 3) rfl _ _ hr1 Tryd.underlying133 rfl 3 info_ln rfl ?_)
        refine (CI.out _).mono ?_
        rintro e w1 ⟨rfl, rfl⟩
        cases I
        · have HF := Lib.hid (show lineE (prevOf l k) ⟨kind, key, cents⟩ = 4 from HL.out)
          go_wp2_with fail
          go_ret
          exact ⟨ret_int (by rw [HE.out, Hat.out, if_neg (by rw [HF.out]; decide), HF.out]), grow_alloc hgr _⟩
        · go_wp2_with fail
          refine (CK.out _).mono ?_
          rintro e w1 ⟨rfl, rfl⟩
          cases K
          · have HF := Lib.hid (show lineE (prevOf l k) ⟨kind, key, cents⟩ = 5 from HL.out)
            go_wp2_with fail
            go_ret
            exact ⟨ret_int (by rw [HE.out, Hat.out, if_neg (by rw [HF.out]; decide), HF.out]), grow_alloc hgr _⟩
          · go_wp2_with fail
            refine (CJ.out _).mono ?_
            rintro e w1 ⟨rfl, rfl⟩
            cases J
            · have HF := Lib.hid (show lineE (prevOf l k) ⟨kind, key, cents⟩ = 1 from HL.out)
              go_wp2_with fail
              go_ret
              exact ⟨ret_int (by rw [HE.out, Hat.out, if_neg (by rw [HF.out]; decide), HF.out]), grow_alloc hgr _⟩
            · have HF := Lib.hid (show lineE (prevOf l k) ⟨kind, key, cents⟩ = 0 from HL.out)
              go_wp2_with fail
              go_roundw
              case rel => exact ⟨k + 1, by omega, by go_num, by rw [HE.out, Hat.out, if_pos HF.out], grow_alloc hgr _⟩
              case measure => simp [intOf]; omega
      · go_wp2_with fail
        go_ret
        exact ⟨ret_int (by rw [HE.out, scanE_end _ _ _ _ (by omega)]), hgr⟩

def centsOf (x : Ln) : Int := x.cents

set_option maxRecDepth 100000 in
set_option maxHeartbeats 1000000 in
theorem sum_any (l : List Ln) (A : Option Addr) (n c : Nat) (w : World) (hl : SlT lnEnc 3 133 w A n l) (hb : ∀ x ∈ l, -1000000000000 ≤ x.cents ∧ x.cents ≤ 1000000000000) (hn : n ≤ 1000000) :
    Calls Tryd.prog 103 #[.slice A n c] w (GotE w (sumBy centsOf l)) := by
  have hlen := hl.len
  have Hb := Lib.hid hb
  clear hb
  go_enter Tryd.func103, Tryd.ntmps103
  go_wp2_with fail
  go_loopw [3, 8] (fun s i wr => ∃ k : Nat, k ≤ n ∧ i = .int .i64 k ∧ s = .int .i64 (sumBy centsOf (l.take k)) ∧ w.grownBy wr none) (fun _ i _ => n - (intOf i).toNat)
  case atStart => exact ⟨0, Nat.zero_le _, rfl, rfl, World.grownBy.refl _ _⟩
  case round =>
    obtain ⟨k, hk, rfl, rfl, hgr⟩ := hrel
    by_cases hlt : k < n
    · have hlr := hl.grow0 hgr
      obtain ⟨b, off, rfl, hbl, hrg⟩ := hlr.get (by omega)
      obtain ⟨g, hg⟩ : ∃ g, l[k]? = some g := ⟨_, List.getElem?_eq_getElem (by omega)⟩
      have hs1 := sumBy_take centsOf hg
      have hb1 := sumBy_bound (l := l.take k) (f := centsOf) (fun x hx => Hb.out x (List.mem_of_mem_take hx))
      have hb2 : (l.take k).length = k := by simp; omega
      rw [hb2] at hb1
      obtain ⟨S, hS⟩ : ∃ S, S = sumBy centsOf (l.take k) := ⟨_, rfl⟩
      have hgn := Hb.out g (List.mem_of_getElem? hg)
      obtain ⟨kind, key, cents⟩ := g
      have hr0 := hrg k _ hg
      have hr1 : wr.rangeAt b (off + k * 3) [.int .i64 kind, .string key, .int .i64 cents] := hr0
      have hm0 : -1000000000000 ≤ cents := hgn.1
      have hm1 : cents ≤ 1000000000000 := hgn.2
      rw [← hS] at hs1 hb1 ⊢
      have hS0 : -1000000000000 * k ≤ S := hb1.1
      have hS1 : S ≤ 1000000000000 * k := hb1.2
      have HK := Lib.hid (show sumBy centsOf (l.take (k + 1)) = S + cents from hs1)
      clear hr0 hrg hg hs1 hb1 hb2 hS hgn
      go_wp2_with (with_reducible refine wpList_load_rng rfl 133 (.tmp 10) rfl b (off + k * 3) rfl _ _ hr1 Tryd.underlying133 rfl 3 info_ln rfl ?_)
      go_roundw
      case rel => exact ⟨k + 1, by omega, by go_num, ret_val (by rw [HK.out]), grow_alloc hgr _⟩
      case measure => simp [intOf]; omega
    · go_wp2_with fail
      go_ret
      exact ⟨ret_int (by rw [List.take_of_length_le (by omega)]), hgr⟩

def totalV (l : List Ln) : Int := if linesE l = 0 then sumBy centsOf l else 0
theorem scan_all {α : Type} {f : Option α → α → Int} : ∀ {l : List α} {p : Option α}, scanE f p l = 0 → ∀ x ∈ l, ∃ q, f q x = 0
  | [], _, _, x, hx => by cases hx
  | y :: r, p, h, x, hx => by
    simp only [scanE] at h
    by_cases h0 : f p y = 0
    · rw [if_pos h0] at h
      rcases List.mem_cons.1 hx with rfl | hx
      · exact ⟨p, h0⟩
      · exact scan_all h x hx
    · rw [if_neg h0] at h; exact absurd h h0
theorem linesE_ok {l : List Ln} (h : linesE l = 0) : l.length ≤ 1000 ∧ ∀ x ∈ l, -1000000000 ≤ x.cents ∧ x.cents ≤ 1000000000 := by
  unfold linesE at h
  by_cases h1 : 1000 < l.length
  · rw [if_pos h1] at h; cases h
  · rw [if_neg h1] at h
    refine ⟨by omega, fun x hx => ?_⟩
    obtain ⟨q, hq⟩ := scan_all h x hx
    unfold lineE at hq
    cases h2 : inB x.kind 1 6 <;> rw [h2] at hq
    · cases hq
    · cases h3 : keyB x.key <;> rw [h3] at hq
      · cases hq
      · cases h4 : inB x.cents (-1000000000) 1000000000 <;> rw [h4] at hq
        · cases hq
        · exact inB_iff.1 h4

end Go.Proofs.YtmpomocahgcebaaDoor
