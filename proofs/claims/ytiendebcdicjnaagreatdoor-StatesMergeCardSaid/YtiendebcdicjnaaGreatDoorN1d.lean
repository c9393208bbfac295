/- Several texts as one: Rw Rx Gs Eh Gp Ej Az Em En Yp Smp -/
import Derived.Test.YtiendebcdicjnaaGreatDoorN1c
import Derived.Test.YtiendebcdicjnaaGreatDoorN1b
import Derived.Test.YtiendebcdicjnaaGreatDoorN1a
import Derived.Lib.AppendZeros
set_option maxRecDepth 100000
set_option maxHeartbeats 4000000
namespace Go.Proofs.YtiendebcdicjnaaGreatDoor
open Go.RowKit
theorem stEnc_lenL {s : St} (h : StOk s) : (stEnc s).length = 15 := stEnc_len h
theorem flat_getL {enc : St → List Value} {k : Nat} : ∀ (l : List St), (∀ x ∈ l, (enc x).length = k) → ∀ (i : Nat) (x : St), l[i]? = some x → ∀ (j : Nat) (v : Value), (enc x)[j]? = some v → (l.flatMap enc)[i * k + j]? = some v
  | [], _, i, x, h, _, _, _ => by simp at h
  | y :: r, hk, 0, x, h, j, v, hv => by
    simp only [List.getElem?_cons_zero, Option.some.injEq] at h
    subst h
    rw [List.flatMap_cons, List.getElem?_append_left (by have := (List.getElem?_eq_some_iff.1 hv).1; omega), Nat.zero_mul, Nat.zero_add]; exact hv
  | y :: r, hk, i + 1, x, h, j, v, hv => by
    have h1 := hk y (List.mem_cons_self ..)
    rw [List.flatMap_cons, List.getElem?_append_right (by rw [h1, Nat.add_mul]; omega), h1, show (i + 1) * k + j - k = i * k + j by rw [Nat.add_mul]; omega]
    exact flat_getL r (fun z hz => hk z (List.mem_cons_of_mem _ hz)) i x (by simpa using h) j v hv
theorem SlT.ofOwnL {enc : St → List Value} {base k n c : Nat} {T : TypeId} {w : World} {A : Option Addr} {l : List St} (hk : ∀ {x : St}, StOk x → (enc x).length = k) (hl : ∀ x ∈ l, StOk x) (h : w.ownsRow base T k (.slice A n c) n (l.flatMap enc)) (hn : l.length = n) : SlT enc k T w A n l := by
  refine ⟨hn, fun hn0 => ?_⟩
  obtain ⟨h1, h2⟩ := h
  rcases h2 with ⟨h2, h3⟩ | ⟨g, cap, cur, hv, _, hh, hle, _, hcs, htk⟩
  · omega
  · injection hv with hA _ _
    refine ⟨g, 0, cur, _, hA, hh, fun i x hx j v hv => ?_⟩
    have := flat_getL l (fun x hx => hk (hl x hx)) i x hx j v hv
    rw [← htk] at this
    rw [List.getElem?_take] at this
    split at this
    · simpa using this
    · cases this
def cat3 (a b : ByteArray) : ByteArray := a ++ (⟨#[32]⟩ : ByteArray) ++ b
def rfOrd (x y : Pl) : Int := if x.fr = y.fr then cmpS (cat3 x.veh x.plate) (cat3 y.veh y.plate) else x.fr - y.fr
def rfLt (x y : Pl) : Bool := decide (rfOrd x y < 0)
/-- A plate that the generators draw. -/
def PlB (x : Pl) : Prop := (-2000000000000000 ≤ x.fr ∧ x.fr ≤ 2000000000000000) ∧ x.veh.size ≤ 1000 ∧ x.plate.size ≤ 1000
theorem plB_ok {x : Pl} (h : PlB x) : PlOk x := ⟨by have := h.1; omega, by have := h.2.1; omega, by have := h.2.2; omega⟩
theorem all_snoc {α : Type} {P : α → Prop} {l : List α} {x : α} (h : ∀ y ∈ l, P y) (hx : P x) : ∀ y ∈ l ++ [x], P y := fun y hy => by
  rcases List.mem_append.1 hy with hy | hy
  · exact h y hy
  · rw [List.mem_singleton.1 hy]; exact hx
theorem s1_ok : StB ⟨⟨#[115, 49]⟩, [0, 0, 0, 0, 0, 0, 0, 0, 0, 0, 0, 0, 0, 0]⟩ := ⟨rfl, by decide, by decide⟩
theorem sz32 : (⟨#[32]⟩ : ByteArray).size = 1 := rfl
theorem rfOrd_any (x0 y0 : Int) (x1 x2 y1 y2 : ByteArray) (w : World) (hx : PlB ⟨x0, x1, x2⟩) (hy : PlB ⟨y0, y1, y2⟩) :
  Calls Tryz.prog 60 #[.agg #[.int .i64 x0, .string x1, .string x2], .agg #[.int .i64 y0, .string y1, .string y2]] w (GotE w (rfOrd ⟨x0, x1, x2⟩ ⟨y0, y1, y2⟩)) := by
 refine gw_enter ⟨28, w, none, []⟩ Tryz.func60 rfl Tryz.ntmps60 rfl (mem0 (X := []) allF_nil allL_nil) ?_
 refine sr_ ?_
 obtain ⟨⟨hx1, hx2⟩, hx3, hx4⟩ := hx
 obtain ⟨⟨hy1, hy2⟩, hy3, hy4⟩ := hy
 dsimp only at hx1 hx2 hx3 hx4 hy1 hy2 hy3 hy4
 have h32 := sz32
 refine wl_box rfl rfl rfl fun g1 => ?_
 refine wl_box rfl rfl rfl fun g2 => ?_
 refine sg_ rfl (nn_ (gw_seq (sr_ (fd_ fo151_0 rfl rfl (lk_ sc3 1 rfl rfl rfl (fd_ fo151_0 rfl rfl (lk_ sc3 0 rfl rfl rfl (wl_ov (ov_neq rfl rfl) rfl (nn_ ?_)))))))))
 refine gw_cond rfl (fun hh => ?_) (fun hh => ?_)
 ·have hne : ¬ (x0 = y0) := by simpa using hh
  clear hh
  refine sr_ (fd_ fo151_0 rfl rfl (lk_ sc3 1 rfl rfl rfl (fd_ fo151_0 rfl rfl (lk_ sc3 0 rfl rfl rfl ?_))))
  refine wl_ov (ov_sub rfl rfl (by omega) (by omega)) rfl ?_
  refine sg_ rfl (nn_ ?_)
  refine gw_ret ?_
  refine nx_then_ret ?_
  refine nx_ret1 rfl rfl fun wx hm => ?_
  exact ⟨ret_int (by unfold rfOrd; exact (if_neg hne).symm), hm.g⟩
 have hne : x0 = y0 := by simpa using hh
 clear hh
 refine gw_skip (nx_then (sr_ (fd_ fo151_1 rfl rfl (lk_ sc9 1 rfl rfl rfl ?_))))
 refine wl_ov (ov_sadd rfl rfl (by (try simp only [ByteArray.size_append]); omega)) rfl ?_
 refine fd_ fo151_2 rfl rfl (lk_ sc9 1 rfl rfl rfl ?_)
 refine wl_ov (ov_sadd rfl rfl (by (try simp only [ByteArray.size_append]); omega)) rfl ?_
 refine fd_ fo151_1 rfl rfl (lk_ sc9 0 rfl rfl rfl ?_)
 refine wl_ov (ov_sadd rfl rfl (by (try simp only [ByteArray.size_append]); omega)) rfl ?_
 refine fd_ fo151_2 rfl rfl (lk_ sc9 0 rfl rfl rfl ?_)
 refine wl_ov (ov_sadd rfl rfl (by (try simp only [ByteArray.size_append]); omega)) rfl ?_
 refine wl_callv rfl cb61 rfl rfl (fun wx hm => (strCompare_any _ _ wx)) ?_
 refine sg_ rfl (nn_ ?_)
 refine gw_ret ?_
 refine nx_ret1 rfl rfl fun wx hm => ?_
 exact ⟨ret_int (by unfold rfOrd; exact (if_pos hne).symm), hm.g⟩
theorem ins_rf  (l0 : List Pl) (br n cap base : Nat) (w : World) (h : w.ownsRow base 151 3 (.slice (some ⟨br, 0, none⟩) n cap) n (l0.flatMap plEnc)) (hl0 : l0.length = n) (hn : n ≤ 1000000) (hall : ∀ x ∈ l0, PlB x) :
  Calls Tryz.prog 187 #[.slice (some ⟨br, 0, none⟩) n cap, .int .i64 0, .int .i64 ((n : Nat) : Int), .func (.func 60) #[] #[]] w (fun e w' => e = .returned (.tuple #[]) ∧ w'.ownsRow base 151 3 (.slice (some ⟨br, 0, none⟩) n cap) n ((isort (rfLt) l0).flatMap plEnc) ∧ w.grownBy w' (some br)) := by
 obtain ⟨R, hR⟩ : ∃ z, z = isort (rfLt) l0 := ⟨_, rfl⟩
 rw [← hR]
 refine gw_enter ⟨53, w, (some br), []⟩ Tryz.func187 rfl Tryz.ntmps187 rfl (memR (X := []) h allF_nil allL_nil) ?_
 refine sr_ (mv_ rfl (ad_ rfl rfl ?_))
 refine wl_set 11 (v' := .int .i64 1) rfl rfl ?_
 refine sg_ rfl (nn_ (gw_block ?_))
 refine gw_loop (γ := Nat × List Pl) (fun gg => (1 ≤ gg.1 ∧ gg.1 ≤ n + 1) ∧ gg.2.length = n ∧ isortF (rfLt) (n - gg.1) gg.1 gg.2 = R) (fun gg => [(0, .slice (some ⟨br, 0, none⟩) n cap), (1, .int .i64 0), (2, .int .i64 ((n : Nat) : Int)), (3, .func (.func 60) #[] #[]), (8, .int .i64 ((gg.1 : Nat) : Int))]) (fun gg => RowK base 151 3 n cap br ((gg.2).flatMap plEnc)) (fun gg => []) (fun gg => []) (fun gg => []) (fun gg => n + 1 - gg.1) (1, l0) ⟨⟨Nat.le_refl _, by omega⟩, hl0, by rw [hR]; unfold isort; rw [hl0]⟩ ⟨rfl, rfl, rfl, rfl, (some_int (by omega)), trivial⟩ (fun _ hm => hm.pick [] [] [] rfl rfl) ?_
 rintro ⟨i, l⟩ hinv
 replace hinv : (1 ≤ i ∧ i ≤ n + 1) ∧ l.length = n ∧ isortF (rfLt) (n - i) i l = R := hinv
 dsimp only
 refine gw_seq (sr_ ?_)
 obtain ⟨⟨hi1, hi2⟩, hl1, hR1⟩ := hinv
 refine mv_ rfl (mv_ rfl (wl_ov (ov_lss rfl rfl) rfl (nn_ ?_)))
 refine gw_cond rfl (fun hh => ?_) (fun hh => ?_)
 ·have hi : ((i : Nat) : Int) < ((n : Nat) : Int) := by simpa using hh
  clear hh
  refine gw_skip (nx_then (gw_seq (gw_block (sr_ ?_))))
  have hRi : isortF (rfLt) (n - (i + 1)) (i + 1) (sink (rfLt) i l) = R := by rw [← hR1, show n - i = (n - (i + 1)) + 1 by omega]; rfl
  obtain ⟨S, hS⟩ : ∃ z, z = sink (rfLt) i l := ⟨_, rfl⟩
  rw [← hS] at hRi
  have hSl : S.length = n := by rw [hS, sink_len]; exact hl1
  refine mv_ rfl (sg_ rfl (nn_ (gw_block ?_)))
  refine gw_loop (γ := Nat × List Pl) (fun gg => (gg.1 ≤ i) ∧ gg.2.length = n ∧ sink (rfLt) gg.1 gg.2 = S) (fun gg => [(0, .slice (some ⟨br, 0, none⟩) n cap), (1, .int .i64 0), (2, .int .i64 ((n : Nat) : Int)), (3, .func (.func 60) #[] #[]), (8, .int .i64 ((i : Nat) : Int)), (9, .int .i64 ((gg.1 : Nat) : Int))]) (fun gg => RowK base 151 3 n cap br ((gg.2).flatMap plEnc)) (fun gg => []) (fun gg => []) (fun gg => []) (fun gg => gg.1) (i, l) ⟨Nat.le_refl _, hl1, hS.symm⟩ ⟨rfl, rfl, rfl, rfl, rfl, rfl, trivial⟩ (fun _ hm => hm.pick [] [] [] rfl rfl) ?_
  rintro ⟨jj, m⟩ hinv
  replace hinv : (jj ≤ i) ∧ m.length = n ∧ sink (rfLt) jj m = S := hinv
  dsimp only
  refine gw_seq (gw_seq ?_)
  obtain ⟨hj1, hm1, hS1⟩ := hinv
  rcases jj with _ | j
  ·refine gd (fun wz => True) mixed (fun _ _ => trivial) fun z => ?_
   refine wt 0 17 1 rfl z (ov_move rfl) ?_
   refine wa_set 18 (v' := .int .i64 0) rfl rfl ?_
   refine wt 1 17 3 rfl z (ov_move rfl) ?_
   refine wt 2 17 7 rfl z (ov_gtr rfl rfl) ?_
   refine wa_set 20 (v' := .bool false) rfl (congrArg Value.bool (by decide)) ?_
   refine wt 3 17 15 rfl z (ov_move rfl) ?_
   refine wtf 4 17 31 rfl rfl rfl z ?_
   refine wtf 5 17 63 rfl rfl rfl z ?_
   refine wtf 6 17 127 rfl rfl rfl z ?_
   refine wtf 7 17 255 rfl rfl rfl z ?_
   refine wtf 8 17 511 rfl rfl rfl z ?_
   refine wtf 9 17 1023 rfl rfl rfl z ?_
   refine wtf 10 17 2047 rfl rfl rfl z ?_
   refine wtf 11 17 4095 rfl rfl rfl z ?_
   refine wtf 12 17 8191 rfl rfl rfl z ?_
   refine wtf 13 17 16383 rfl rfl rfl z ?_
   refine wtf 14 17 32767 rfl rfl rfl z ?_
   refine wtf 15 17 65535 rfl rfl rfl z ?_
   refine wt 16 17 131071 rfl z (ov_pick_f rfl rfl) ?_
   refine wa_done (by kernel_rfl) ?_
   refine nx_then (cf_ rfl ?_)
   refine gw_exit ?_
   refine nx_then_exit (nx_then_exit ?_)
   refine nx_blk_here ?_
   refine nx_blk_nrm (nx_then (gw_region (mv_ rfl (ad_ rfl rfl (sg_ rfl (wl_nil ?_))))))
   have hm2 : m = S := hS1
   exact nx_round (i + 1, m) ⟨⟨by dsimp only; omega, by dsimp only; omega⟩, by rw [hm2]; exact hSl, by rw [hm2]; exact hRi⟩ (by dsimp only; omega) ⟨rfl, rfl, rfl, rfl, (some_int (by omega)), trivial⟩ (fun _ hm => hm.pick [] [] [] rfl rfl)
  have hj2 : j + 1 < n := by omega
  have hin : ∀ z ∈ m, z ∈ l0 := fun z hz => mem_in hR hRi hS1 hz
  obtain ⟨xx, hx⟩ : ∃ x, m[j + 1]? = some x := ⟨_, List.getElem?_eq_getElem (by omega)⟩
  obtain ⟨x0, x1, x2⟩ := xx
  obtain ⟨yy, hy⟩ : ∃ x, m[j]? = some x := ⟨_, List.getElem?_eq_getElem (by omega)⟩
  obtain ⟨y0, y1, y2⟩ := yy
  refine gd (fun wz => (RowK base 151 3 n cap br ((m).flatMap plEnc)) wz ∧ True) mixed (fun _ hm => ⟨hm.k, trivial⟩) fun z => ?_
  refine wt 0 17 1 rfl z (ov_move rfl) ?_
  refine wt 1 17 3 rfl z (ov_move rfl) ?_
  refine wt 2 17 7 rfl z (ov_gtr rfl rfl) ?_
  refine wa_set 20 (v' := .bool true) rfl (congrArg Value.bool (decide_eq_true (by omega))) ?_
  refine wt 3 17 15 rfl z (ov_move rfl) ?_
  refine wto 4 17 31 rfl rfl rfl z (ov_move rfl) ?_
  refine wto 5 17 63 rfl rfl rfl z (ov_move rfl) ?_
  refine wto 6 17 127 rfl rfl rfl z (ov_move rfl) ?_
  refine wto 7 17 255 rfl rfl rfl z (ov_index (j := (j + 1)) es29 rfl rfl (by omega)) ?_
  refine wto 8 17 511 rfl rfl rfl z (ov_elem (vs := [.int .i64 x0, .string x1, .string x2]) rz151 rfl (fun _ hm => (RowK.get (hm.1) pl_len hm1)) hx rfl rfl) ?_
  refine wto 9 17 1023 rfl rfl rfl z (ov_move rfl) ?_
  refine wto 10 17 2047 rfl rfl rfl z (ov_move rfl) ?_
  refine wto 11 17 4095 rfl rfl rfl z (ov_sub rfl rfl (by omega) (by omega)) ?_
  refine wa_set 29 (v' := .int .i64 ((j : Nat) : Int)) rfl (congrArg (Value.int .i64) (by omega)) ?_
  refine wto 12 17 8191 rfl rfl rfl z (ov_index (j := j) es29 rfl rfl (by omega)) ?_
  refine wto 13 17 16383 rfl rfl rfl z (ov_elem (vs := [.int .i64 y0, .string y1, .string y2]) rz151 rfl (fun _ hm => (RowK.get (hm.1) pl_len hm1)) hy rfl rfl) ?_
  refine wa1 14 rfl ?_
  refine wl_guard_on rfl rfl rfl ?_
  refine wl_callv rfl cb60 rfl rfl (fun wx hm => (rfOrd_any x0 y0 x1 x2 y1 y2 wx (hall _ (hin _ (List.mem_of_getElem? hx))) (hall _ (hin _ (List.mem_of_getElem? hy))))) ?_
  refine wl_nil ?_
  refine nw 17 32767 (fun _ hm => ⟨hm.k, trivial⟩) fun z => ?_
  refine wto 15 17 65535 rfl rfl rfl z (ov_lss rfl rfl) ?_
  refine wt 16 17 131071 rfl z (ov_pick_t rfl rfl) ?_
  refine wa_done (by kernel_rfl) ?_
  refine nx_then ?_
  refine gw_cond rfl (fun hh => ?_) (fun hh => ?_)
  ·have hlt : rfOrd ⟨x0, x1, x2⟩ ⟨y0, y1, y2⟩ < 0 := by simpa using hh
   clear hh
   refine gw_skip (nx_then (gw_seq (gw_block ?_)))
   have hlt2 : (rfLt) ⟨x0, x1, x2⟩ ⟨y0, y1, y2⟩ = true := decide_eq_true (show rfOrd ⟨x0, x1, x2⟩ ⟨y0, y1, y2⟩ < 0 from hlt)
   have hS2 := (sink_yes hx hy hlt2).symm.trans hS1
   refine gd (fun wz => True) mixed (fun _ _ => trivial) fun z => ?_
   refine wt 0 18 1 rfl z (ov_move rfl) ?_
   refine wt 1 18 3 rfl z (ov_move rfl) ?_
   refine wt 2 18 7 rfl z (ov_move rfl) ?_
   refine wt 3 18 15 rfl z (ov_move rfl) ?_
   refine wt 4 18 31 rfl z (ov_sub rfl rfl (by omega) (by omega)) ?_
   refine wa_set 41 (v' := .int .i64 ((j : Nat) : Int)) rfl (congrArg (Value.int .i64) (by omega)) ?_
   refine wt 5 18 63 rfl z (ov_move rfl) ?_
   refine wt 6 18 127 rfl z (ov_move rfl) ?_
   refine wt 7 18 255 rfl z (ov_sub rfl rfl (by omega) (by omega)) ?_
   refine wa_set 44 (v' := .int .i64 ((j : Nat) : Int)) rfl (congrArg (Value.int .i64) (by omega)) ?_
   refine wt 8 18 511 rfl z (ov_index (j := j) es29 rfl rfl (by omega)) ?_
   refine wt 10 18 1535 rfl z (ov_move rfl) ?_
   refine wt 11 18 3583 rfl z (ov_move rfl) ?_
   refine wt 12 18 7679 rfl z (ov_index (j := (j + 1)) es29 rfl rfl (by omega)) ?_
   refine wa_all [9, 13] (by kernel_rfl) rfl ⟨⟨_, rfl, ?_⟩, ⟨_, rfl, ?_⟩, trivial⟩
   ·refine wl_ov (ov_elem (vs := [.int .i64 y0, .string y1, .string y2]) rz151 rfl (fun _ hm => (RowK.get hm.k pl_len hm1)) hy rfl rfl) rfl ?_
    refine wl_nil ?_
    refine nw 18 8191 (fun _ _ => trivial) fun z => ?_
    refine wa1 13 rfl ?_
    refine wl_ov (ov_elem (vs := [.int .i64 x0, .string x1, .string x2]) rz151 rfl (fun _ hm => (RowK.get hm.k pl_len hm1)) hx rfl rfl) rfl ?_
    refine wl_nil ?_
    refine nw 18 16383 (fun _ _ => trivial) fun z => ?_
    refine wt 14 18 32767 rfl z (ov_index (j := (j + 1)) es29 rfl rfl (by omega)) ?_
    refine wa1 15 rfl ?_
    refine wl_storesRow (l := m) (j := j + 1) (r := 0) (el := ⟨x0, x1, x2⟩) (el' := ⟨y0, y1, y2⟩) rfl rz151 rfl rfl rfl rfl pl_len rfl hx hm1 (by decide) rfl rfl ?_
    refine wl_nil ?_
    refine nw 18 65535 (fun _ _ => trivial) fun z => ?_
    refine wt 16 18 131071 rfl z (ov_index (j := j) es29 rfl rfl (by omega)) ?_
    refine wa1 17 rfl ?_
    refine wl_storesRow (l := m.set (j + 1) ⟨y0, y1, y2⟩) (j := j) (r := 0) (el := ⟨y0, y1, y2⟩) (el' := ⟨x0, x1, x2⟩) rfl rz151 rfl rfl rfl rfl pl_len rfl (by rw [List.getElem?_set_ne (by omega)]; exact hy) (by rw [List.length_set]; exact hm1) (by decide) rfl rfl ?_
    refine wl_nil ?_
    refine nw 18 262143 (fun _ _ => trivial) fun z => ?_
    refine wa_done (by kernel_rfl) ?_
    refine nx_blk_nrm (nx_then (gw_region (mv_ rfl ?_)))
    refine wl_ov (ov_sub rfl rfl (by omega) (by omega)) rfl ?_
    refine wl_set 36 (v' := .int .i64 ((j : Nat) : Int)) rfl (congrArg (Value.int .i64) (by omega)) ?_
    refine sg_ rfl (wl_nil ?_)
    exact nx_round (j, (m.set (j + 1) ⟨y0, y1, y2⟩).set j ⟨x0, x1, x2⟩) ⟨by dsimp only; omega, by simp [hm1], hS2⟩ (by dsimp only; omega) ⟨rfl, rfl, rfl, rfl, rfl, (some_int (by omega)), trivial⟩ (fun _ hm => hm.pick [] [] [] rfl rfl)
   refine wl_ov (ov_elem (vs := [.int .i64 x0, .string x1, .string x2]) rz151 rfl (fun _ hm => (RowK.get hm.k pl_len hm1)) hx rfl rfl) rfl ?_
   refine wl_nil ?_
   refine nw 18 15871 (fun _ _ => trivial) fun z => ?_
   refine wa1 9 rfl ?_
   refine wl_ov (ov_elem (vs := [.int .i64 y0, .string y1, .string y2]) rz151 rfl (fun _ hm => (RowK.get hm.k pl_len hm1)) hy rfl rfl) rfl ?_
   refine wl_nil ?_
   refine nw 18 16383 (fun _ _ => trivial) fun z => ?_
   refine wt 14 18 32767 rfl z (ov_index (j := (j + 1)) es29 rfl rfl (by omega)) ?_
   refine wa1 15 rfl ?_
   refine wl_storesRow (l := m) (j := j + 1) (r := 0) (el := ⟨x0, x1, x2⟩) (el' := ⟨y0, y1, y2⟩) rfl rz151 rfl rfl rfl rfl pl_len rfl hx hm1 (by decide) rfl rfl ?_
   refine wl_nil ?_
   refine nw 18 65535 (fun _ _ => trivial) fun z => ?_
   refine wt 16 18 131071 rfl z (ov_index (j := j) es29 rfl rfl (by omega)) ?_
   refine wa1 17 rfl ?_
   refine wl_storesRow (l := m.set (j + 1) ⟨y0, y1, y2⟩) (j := j) (r := 0) (el := ⟨y0, y1, y2⟩) (el' := ⟨x0, x1, x2⟩) rfl rz151 rfl rfl rfl rfl pl_len rfl (by rw [List.getElem?_set_ne (by omega)]; exact hy) (by rw [List.length_set]; exact hm1) (by decide) rfl rfl ?_
   refine wl_nil ?_
   refine nw 18 262143 (fun _ _ => trivial) fun z => ?_
   refine wa_done (by kernel_rfl) ?_
   refine nx_blk_nrm (nx_then (gw_region (mv_ rfl ?_)))
   refine wl_ov (ov_sub rfl rfl (by omega) (by omega)) rfl ?_
   refine wl_set 36 (v' := .int .i64 ((j : Nat) : Int)) rfl (congrArg (Value.int .i64) (by omega)) ?_
   refine sg_ rfl (wl_nil ?_)
   exact nx_round (j, (m.set (j + 1) ⟨y0, y1, y2⟩).set j ⟨x0, x1, x2⟩) ⟨by dsimp only; omega, by simp [hm1], hS2⟩ (by dsimp only; omega) ⟨rfl, rfl, rfl, rfl, rfl, (some_int (by omega)), trivial⟩ (fun _ hm => hm.pick [] [] [] rfl rfl)
  have hlt : ¬ (rfOrd ⟨x0, x1, x2⟩ ⟨y0, y1, y2⟩ < 0) := by simpa using hh
  clear hh
  refine gw_exit ?_
  refine nx_then_exit (nx_then_exit ?_)
  refine nx_blk_here ?_
  refine nx_blk_nrm (nx_then (gw_region ?_))
  have hlt2 : (rfLt) ⟨x0, x1, x2⟩ ⟨y0, y1, y2⟩ = false := decide_eq_false (show ¬ rfOrd ⟨x0, x1, x2⟩ ⟨y0, y1, y2⟩ < 0 from hlt)
  have hS2 := (sink_no hx hy hlt2).symm.trans hS1
  refine mv_ rfl (ad_ rfl rfl (sg_ rfl (wl_nil ?_)))
  have hm2 : m = S := hS2
  exact nx_round (i + 1, m) ⟨⟨by dsimp only; omega, by dsimp only; omega⟩, by rw [hm2]; exact hSl, by rw [hm2]; exact hRi⟩ (by dsimp only; omega) ⟨rfl, rfl, rfl, rfl, (some_int (by omega)), trivial⟩ (fun _ hm => hm.pick [] [] [] rfl rfl)
 have hi : ¬ (((i : Nat) : Int) < ((n : Nat) : Int)) := by simpa using hh
 clear hh
 refine gw_exit ?_
 refine nx_then_exit (nx_then_exit ?_)
 refine nx_blk_here ?_
 obtain rfl : l = R := by rw [← hR1, show n - i = 0 by omega]; rfl
 refine nx_ret0 rfl fun wx hm => ?_
 exact ⟨rfl, fin_row hm.k hm.g⟩
theorem pdq_rf  (l0 : List Pl) (br n cap base : Nat) (lim : Int) (w : World) (h : w.ownsRow base 151 3 (.slice (some ⟨br, 0, none⟩) n cap) n (l0.flatMap plEnc)) (hl0 : l0.length = n) (hn : n ≤ 12) (hall : ∀ x ∈ l0, PlB x) :
  Calls Tryz.prog 123 #[.slice (some ⟨br, 0, none⟩) n cap, .int .i64 0, .int .i64 ((n : Nat) : Int), .int .i64 lim, .func (.func 60) #[] #[]] w (fun e w' => e = .returned (.tuple #[]) ∧ w'.ownsRow base 151 3 (.slice (some ⟨br, 0, none⟩) n cap) n ((isort (rfLt) l0).flatMap plEnc) ∧ w.grownBy w' (some br)) := by
 refine gw_enter ⟨148, w, (some br), []⟩ Tryz.func123 rfl Tryz.ntmps123 rfl (memR (X := []) h allF_nil allL_nil) ?_
 refine sr_ (sg_ rfl (nn_ (sr_ (sg_ rfl (nn_ (gw_block ?_))))))
 refine gw_rounds 1 ?_
 refine gr_next ?_
 refine gw_block (sr_ (mv_ rfl (mv_ rfl ?_)))
 refine wl_ov (ov_sub rfl rfl (by omega) (by omega)) rfl ?_
 refine sg_ rfl (nn_ (gw_seq (sr_ (mv_ rfl (wl_ov (ov_leq rfl rfl) rfl ?_)))))
 refine wl_set 25 (v' := .bool true) rfl (congrArg Value.bool (decide_eq_true (by omega))) ?_
 refine nn_ (ct_ rfl (sr_ (mv_ rfl (mv_ rfl (mv_ rfl (mv_ rfl ?_))))))
 refine wl_callK rfl rfl rfl cb187 rfl rfl (fun wx hm => (ins_rf  l0 br n cap base wx hm.k hl0 (by omega) hall)) ?_
 refine nn_ ?_
 refine gw_ret ?_
 refine nx_then_ret (nx_blk_ret (nx_then_ret (nx_blk_ret ?_)))
 refine nx_ret0' rfl fun wx hm => ?_
 exact ⟨rfl, fin_row hm.k hm.g⟩
theorem sort_rf  (l0 : List Pl) (br n cap base : Nat) (w : World) (h : w.ownsRow base 151 3 (.slice (some ⟨br, 0, none⟩) n cap) n (l0.flatMap plEnc)) (hl0 : l0.length = n) (hn : n ≤ 12) (hall : ∀ x ∈ l0, PlB x) :
  Calls Tryz.prog 59 #[.slice (some ⟨br, 0, none⟩) n cap, .func (.func 60) #[] #[]] w (fun e w' => e = .returned (.tuple #[]) ∧ w'.ownsRow base 151 3 (.slice (some ⟨br, 0, none⟩) n cap) n ((isort (rfLt) l0).flatMap plEnc) ∧ w.grownBy w' (some br)) := by
 refine gw_enter ⟨14, w, (some br), []⟩ Tryz.func59 rfl Tryz.ntmps59 rfl (memR (X := []) h allF_nil allL_nil) ?_
 refine sr_ (mv_ rfl (wl_ov (ov_len es29 rfl) rfl (sg_ rfl (nn_ (gw_region (mv_ rfl (mv_ rfl (mv_ rfl ?_))))))))
 refine wl_ov (ov_u64 (a := n) (by kernel_rfl) (by kernel_rfl) rfl (by omega)) rfl ?_
 refine wl_callx (γ := Int) (val := (fun g => .int .i64 g)) (φ := (fun g => True)) (Y := (fun g => fun _ => True)) rfl cb124 rfl rfl (fun wx hm => (bitsLen_any n wx (by omega)).mono fun _ _ ⟨v, he, hg⟩ => ⟨v, he, trivial, hg, trivial⟩) (fun _ => Lasts2.true_) ?_
 rintro lim hphi
 clear hphi
 refine mv_ rfl ?_
 refine wl_callK rfl rfl rfl cb123 rfl rfl (fun wx hm => (pdq_rf  l0 br n cap base _ wx hm.k hl0 hn hall)) ?_
 refine wl_nil ?_
 refine nx_ret0 rfl fun wx hm => ?_
 exact ⟨rfl, fin_row hm.k hm.g⟩
/-- A vehicle that the generators draw. -/
def VhB (x : Vh) : Prop := x.key.size ≤ 1000 ∧ x.cls.size ≤ 1000000
theorem vhB_ok {x : Vh} (h : VhB x) : VhOk x := ⟨by have := h.1; omega, h.2⟩
def RfOk (sl : List St) (cl : List Cs) (vl : List Vh) (pl : List Pl) (sn vn pn : Nat) : Prop := (sl.length = sn ∧ (∀ x ∈ sl, StB x) ∧ (1 ≤ sn ∧ sn ≤ 3)) ∧ (cl.length = 4 ∧ ∀ x ∈ cl, CsOk x) ∧ (vl.length = vn ∧ (∀ x ∈ vl, VhB x) ∧ vn ≤ 4) ∧ pl.length = pn ∧ (∀ x ∈ pl, PlB x) ∧ pn ≤ 5
theorem rightFleet_anyF (w : World) (B sb m : Nat) (hS : Strm 25 w B sb m) (hm : m ≤ 100000000) :
  Calls Tryz.prog 18 #[.pointer (some ⟨sb, 0, none⟩)] w (fun e w' => ∃ (sA cA vA pA : Option Addr) (sn sc cc vn vc pn pc : Nat) (sl : List St) (cl : List Cs) (vl : List Vh) (pl : List Pl), e = .returned (.agg #[.slice sA sn sc, .slice cA 4 cc, .slice vA vn vc, .slice pA pn pc]) ∧ (RfOk sl cl vl pl sn vn pn ∧ fleetE sl cl vl pl = 0) ∧ Strm 25 w' B sb (m + 300) ∧ w.grownBy w' (some sb) ∧ w'.ownsRow w.heap.size 105 15 (.slice sA sn sc) sn (sl.flatMap stEnc) ∧ w'.ownsRow w.heap.size 57 2 (.slice vA vn vc) vn (vl.flatMap vhEnc) ∧ w'.ownsRow w.heap.size 151 3 (.slice pA pn pc) pn (pl.flatMap plEnc) ∧ SlT csEnc 2 90 w' cA 4 cl) := by
 refine gw_enter ⟨90, w, (some sb), [90]⟩ Tryz.func18 rfl Tryz.ntmps18 rfl (memS (X := []) hS allF_nil allL_nil) ?_
 refine sr_ ?_
 refine wl_alloc zc31 rfl fun g1 => ?_
 refine nn_ (sr_ (mv_ rfl ?_))
 refine wl_callgs (γ := Option Addr × Nat × Nat × List St) (val := (fun g => .slice g.1 g.2.1 g.2.2.1)) (φ := (fun g => g.2.2.2.length = g.2.1 ∧ (∀ x ∈ g.2.2.2, StB x) ∧ g.2.1 ≤ 3 ∧ stationsE g.2.2.2 = 0)) (m' := m + 100) (fun g => ⟨.slice g.1 g.2.1 g.2.2.1, 105, 15, g.2.1, g.2.2.2.flatMap stEnc⟩) rfl cb55 rfl rfl rfl rfl (fun wx hm => (gstations_anyF wx B sb _ hm.k (by omega)).mono fun _ _ ⟨A, n, c, l, he, ho, ⟨hl, hz⟩, hok, hn, hS, hg⟩ => ⟨(A, n, c, l), he, ⟨hl, hok, hn, hz⟩, hS, hg, ho⟩) ?_
 rintro ⟨sA0, sn0, sc0, sl0⟩ hphi
 dsimp only at hphi ⊢
 obtain ⟨hsl0, hsB0, hs30, hsz0⟩ := hphi
 refine mv_ rfl ?_
 refine wl_calls (γ := Option Addr × Nat × List Cs) (val := (fun g => .slice g.1 4 g.2.1)) (φ := (fun g => g.2.2.length = 4 ∧ (∀ x ∈ g.2.2, CsOk x) ∧ classesE g.2.2 = 0)) (Y := (fun g => fun wy => SlT csEnc 2 90 wy g.1 4 g.2.2)) (m' := m + 100 + 20) rfl cb33 rfl rfl rfl rfl (fun wx hm => (gclasses_anyF wx B sb _ hm.k (by omega)).mono fun _ _ ⟨A, c, l, he, ho, ⟨hl, hz⟩, hok, hS, hg⟩ => ⟨(A, c, l), he, ⟨hl, hok, hz⟩, hS, hg, SlT.ofOwn cs_len ho hl⟩) (fun _ => SlT.lasts2 rfl) ?_
 rintro ⟨cA, cc, cl⟩ hphi
 dsimp only at hphi ⊢
 obtain ⟨hcl4, hcok, hcz⟩ := hphi
 refine wl_ov (ov_build (cs := [.slice sA0 sn0 sc0, .slice cA 4 cc, .slice none 0 0, .slice none 0 0]) rfl (by kernel_rfl)) rfl ?_
 refine wl_alloc zc31 rfl fun g2 => ?_
 refine wl_stores (cs' := [.slice sA0 sn0 sc0, .slice cA 4 cc, .slice none 0 0, .slice none 0 0]) 0 rz31 rfl rfl rfl rfl rfl rfl rfl rfl ?_
 refine nn_ ?_
 refine gw_cut (γ := Option Addr × Nat × Nat × List St) (I := (fun g => g.2.2.2.length = g.2.1 ∧ (∀ x ∈ g.2.2.2, StB x) ∧ (1 ≤ g.2.1 ∧ g.2.1 ≤ 3) ∧ stationsE g.2.2.2 = 0)) (S' := (fun g => [(0, .pointer (some ⟨sb, 0, none⟩)), (2, .pointer (some ⟨g1, 0, none⟩)), (3, .pointer (some ⟨g2, 0, none⟩))])) (K' := (fun g => fun w => Strm 25 w B sb (m + 120))) (L' := (fun g => [(g2, 31, [.slice g.1 g.2.1 g.2.2.1, .slice cA 4 cc, .slice none 0 0, .slice none 0 0]), (g1, 31, [.slice none 0 0, .slice none 0 0, .slice none 0 0, .slice none 0 0])])) (O' := (fun g => [⟨.slice g.1 g.2.1 g.2.2.1, 105, 15, g.2.1, g.2.2.2.flatMap stEnc⟩])) (X' := (fun g => [fun wy => SlT csEnc 2 90 wy cA 4 cl])) ?_ ?_
 ·refine sr_ (fd_ fo31_0 rfl rfl (lk_ sc26 0 rfl rfl rfl (wl_ov (ov_len es26 rfl) rfl (wl_ov (ov_eql rfl rfl) rfl (nn_ ?_)))))
  refine gw_cond rfl (fun hh => ?_) (fun hh => ?_)
  ·have h0 : ((sn0 : Nat) : Int) = 0 := by simpa using hh
   clear hh
   refine gw_region ?_
   refine wl_ov (ov_build (cs := [.string ⟨#[115, 49]⟩, .int .i64 0, .int .i64 0, .int .i64 0, .int .i64 0, .int .i64 0, .int .i64 0, .int .i64 0, .int .i64 0, .int .i64 0, .int .i64 0, .int .i64 0, .int .i64 0, .int .i64 0, .int .i64 0]) rfl (by kernel_rfl)) rfl ?_
   refine wl_buildSlice (e := 105) (cs := [.string ⟨#[115, 49]⟩, .int .i64 0, .int .i64 0, .int .i64 0, .int .i64 0, .int .i64 0, .int .i64 0, .int .i64 0, .int .i64 0, .int .i64 0, .int .i64 0, .int .i64 0, .int .i64 0, .int .i64 0, .int .i64 0]) rfl (by kernel_rfl) rfl fun g3 => ?_
   refine fd_ fo31_0 rfl rfl ?_
   refine wl_store 1 sc26 rfl rfl rfl rfl rfl rfl ?_
   refine wl_nil ?_
   refine nx_toOwn (sz := 15) (n := 1) 0 [1, 2] rfl rfl rfl (by unfold maxLen; omega) ?_
   exact nx_meet ((some ⟨g3, 0, none⟩), 1, 1, [⟨⟨#[115, 49]⟩, [0, 0, 0, 0, 0, 0, 0, 0, 0, 0, 0, 0, 0, 0]⟩]) ⟨rfl, (fun x hx => List.mem_singleton.1 hx ▸ s1_ok), ⟨by dsimp only; decide, by dsimp only; decide⟩, s1_right⟩ ⟨rfl, rfl, rfl, trivial⟩ (fun _ hm => (hm.more rfl (by first | omega | (dsimp only; omega))).pick [0, 1] [0] [0] rfl rfl)
  have h0 : ¬ (((sn0 : Nat) : Int) = 0) := by simpa using hh
  clear hh
  refine gw_skip ?_
  exact nx_meet (sA0, sn0, sc0, sl0) ⟨hsl0, hsB0, ⟨by dsimp only; omega, by dsimp only; omega⟩, hsz0⟩ ⟨rfl, rfl, rfl, trivial⟩ (fun _ hm => (hm.more rfl (by first | omega | (dsimp only; omega))).pick [0, 1] [0] [0] rfl rfl)
 rintro ⟨sA, sn, sc, sl⟩ hinv
 replace hinv : sl.length = sn ∧ (∀ x ∈ sl, StB x) ∧ (1 ≤ sn ∧ sn ≤ 3) ∧ stationsE sl = 0 := hinv
 dsimp only
 refine gw_seq (sr_ ?_)
 obtain ⟨hsl, hsB, ⟨hs1, hs3⟩, hsz⟩ := hinv
 refine wl_nilOwn 57 2 ?_
 refine wl_buildSlice (e := 9) (cs := [.string ⟨#[118, 49]⟩, .string ⟨#[118, 50]⟩, .string ⟨#[118, 51]⟩, .string ⟨#[118, 52]⟩]) rfl (by kernel_rfl) rfl fun g4 => ?_
 refine wl_ov (ov_len es107 rfl) rfl ?_
 refine wl_set 22 (v' := .int .i64 4) rfl rfl ?_
 refine mv_ rfl (nn_ (gw_block ?_))
 refine gw_loop (γ := Nat × Nat × Option Addr × Nat × List Vh) (fun g => g.1 ≤ 4 ∧ g.2.1 ≤ g.1 ∧ g.2.2.2.2.length = g.2.1 ∧ (∀ x ∈ g.2.2.2.2, VhB x) ∧ VhG cl g.1 g.2.2.2.2) (fun g => [(0, .pointer (some ⟨sb, 0, none⟩)), (2, .pointer (some ⟨g1, 0, none⟩)), (3, .pointer (some ⟨g2, 0, none⟩)), (21, .slice (some ⟨g4, 0, none⟩) 4 4), (22, .int .i64 4), (23, .int .i64 ((g.1 : Nat) : Int))]) (fun g => fun w => Strm 25 w B sb (m + 120 + 2 * g.1)) (fun g => [(g2, 31, [.slice sA sn sc, .slice cA 4 cc, .slice g.2.2.1 g.2.1 g.2.2.2.1, .slice none 0 0]), (g4, 9, [.string ⟨#[118, 49]⟩, .string ⟨#[118, 50]⟩, .string ⟨#[118, 51]⟩, .string ⟨#[118, 52]⟩]), (g1, 31, [.slice none 0 0, .slice none 0 0, .slice none 0 0, .slice none 0 0])]) (fun g => [⟨.slice g.2.2.1 g.2.1 g.2.2.2.1, 57, 2, g.2.1, g.2.2.2.2.flatMap vhEnc⟩, ⟨.slice sA sn sc, 105, 15, sn, sl.flatMap stEnc⟩]) (fun g => [fun wy => SlT csEnc 2 90 wy cA 4 cl]) (fun g => 4 - g.1) (0, 0, none, 0, []) ⟨Nat.zero_le _, Nat.le_refl _, rfl, (fun _ h => by cases h), vhG_nil⟩ ⟨rfl, rfl, rfl, rfl, rfl, rfl, trivial⟩ (fun _ hm => (hm.more rfl (by first | omega | (dsimp only; omega))).pick [1, 0, 2] [0, 1] [0] rfl rfl) ?_
 rintro ⟨i, k, vA, vc, vl⟩ hinv
 replace hinv : i ≤ 4 ∧ k ≤ i ∧ vl.length = k ∧ (∀ x ∈ vl, VhB x) ∧ VhG cl i vl := hinv
 dsimp only
 refine sr_ ?_
 obtain ⟨hi0, hki, hvl, hvB, hvg⟩ := hinv
 refine wl_ov (ov_lss rfl rfl) rfl (nn_ (gw_seq ?_))
 refine gw_cond rfl (fun hh => ?_) (fun hh => ?_)
 ·have hi : ((i : Nat) : Int) < 4 := by simpa using hh
  clear hh
  refine gw_skip (nx_then (gw_seq (gw_block (sr_ ?_))))
  obtain ⟨nm, hx⟩ : ∃ x, ([⟨#[118, 49]⟩, ⟨#[118, 50]⟩, ⟨#[118, 51]⟩, ⟨#[118, 52]⟩] : List ByteArray)[i]? = some x := ⟨_, List.getElem?_eq_getElem (by simp; omega)⟩
  have hnm : nm.size ≤ 100 := mem_sz (List.mem_of_getElem? hx) (by decide)
  refine wl_ov (ov_index (j := i) es107 rfl rfl (by omega)) rfl ?_
  refine wl_ov (ov_elem1 (k := 0) (v := .string nm) sc9 rfl (fun _ hm => (SlT.ofBlk (l := [⟨#[118, 49]⟩, ⟨#[118, 50]⟩, ⟨#[118, 51]⟩, ⟨#[118, 52]⟩]) sg_len (hm.blkI 1 rfl))) hx rfl rfl) rfl ?_
  refine sg_ rfl (nn_ (sr_ (mv_ rfl ?_)))
  refine wl_got (γ := Bool) (val := fun v => .bool v) (φ := fun v => True) rfl cb56 rfl rfl rfl rfl (fun wx hm => ((flip_any _ wx B sb _ hm.k (by omega) (by omega) (by omega)).mono fun _ _ ⟨v, he, hS, hg⟩ => ⟨v, trivial, he, hS, hg⟩)) fun f5 _ => ?_
  refine wl_ov (ov_un_not rfl) rfl (nn_ ?_)
  refine gw_cond rfl (fun hh => ?_) (fun hh => ?_)
  ·have hf : f5 = false := by simpa using hh
   clear hh
   have hcl0 : 0 < cl.length := by omega
   refine gw_look (R := ∃ bc oc, cA = some ⟨bc, oc, none⟩) (fun wx hm => by obtain ⟨b, off, hA, _, _⟩ := SlT.get (hm.fact 0 rfl) (by omega); exact ⟨b, off, hA⟩) ?_
   rintro ⟨bc, oc, rfl⟩
   refine gd (fun wz => Blk wz g4 9 [.string ⟨#[118, 49]⟩, .string ⟨#[118, 50]⟩, .string ⟨#[118, 51]⟩, .string ⟨#[118, 52]⟩] ∧ Blk wz g1 31 [.slice none 0 0, .slice none 0 0, .slice none 0 0, .slice none 0 0] ∧ (fun wy => SlT csEnc 2 90 wy (some ⟨bc, oc, none⟩) 4 cl) wz ∧ True) mixed (fun _ hm => ⟨hm.bl 1, hm.bl 2, hm.fa 0, trivial⟩) fun z => ?_
   refine wt 0 18 1 rfl z (ov_field fo31_2 rfl rfl) ?_
   refine wt 2 18 5 rfl z (ov_move rfl) ?_
   refine wt 3 18 13 rfl z (ov_field fo31_1 rfl rfl) ?_
   refine wt 5 18 45 rfl z (ov_move rfl) ?_
   refine wt 6 18 109 rfl z (ov_field fo31_1 rfl rfl) ?_
   refine wa_open fun W hW => ?_
   have T127 : W 11 (lb 18 127) [(0, .pointer (some ⟨sb, 0, none⟩)), (2, .pointer (some ⟨g1, 0, none⟩)), (3, .pointer (some ⟨g2, 0, none⟩)), (21, .slice (some ⟨g4, 0, none⟩) 4 4), (22, .int .i64 4), (23, .int .i64 ((i : Nat) : Int)), (31, .slice vA k vc), (32, .string nm), (34, .slice (some ⟨bc, oc, none⟩) 4 cc), (35, .pointer (some ⟨sb, 0, none⟩)), (36, .pointer (some ⟨g2, 1, none⟩))] (fun w => Strm 25 w B sb (m + 120 + 2 * i + 1)) [(g1, 31, [.slice none 0 0, .slice none 0 0, .slice none 0 0, .slice none 0 0]), (g2, 31, [.slice sA sn sc, .slice (some ⟨bc, oc, none⟩) 4 cc, .slice vA k vc, .slice none 0 0]), (g4, 9, [.string ⟨#[118, 49]⟩, .string ⟨#[118, 50]⟩, .string ⟨#[118, 51]⟩, .string ⟨#[118, 52]⟩])] [⟨.slice vA k vc, 57, 2, k, vl.flatMap vhEnc⟩, ⟨.slice sA sn sc, 105, 15, sn, sl.flatMap stEnc⟩] [fun wy => SlT csEnc 2 90 wy (some ⟨bc, oc, none⟩) 4 cl] := by
    skip
    rw [hW]
    refine wa1 7 rfl ?_
    refine lk_ sc27 1 rfl rfl rfl (wl_nil ?_)
    refine nw 18 255 (fun _ hm => ⟨hm.bl 2, hm.bl 0, hm.fa 0, trivial⟩) fun z => ?_
    refine wt 8 18 511 rfl z (ov_len es27 rfl) ?_
    refine wa_set 38 (v' := .int .i64 4) rfl rfl ?_
    refine wa1 9 rfl ?_
    refine wl_got (γ := Int) (val := fun v => .int .i64 v) (φ := fun v => IsBelow 4 v) rfl cb23 rfl rfl rfl rfl (fun wx hm => (next_any _ wx B sb _ hm.k (by omega) (by omega) (by omega))) fun vj hvj => ?_
    have hj := isBelow_lt hvj (by omega)
    obtain ⟨j, rfl⟩ := Int.eq_ofNat_of_zero_le hj.1
    have hji : j < 4 := by omega
    obtain ⟨q, hq⟩ : ∃ q, cl[j]? = some q := ⟨_, List.getElem?_eq_getElem (by omega)⟩
    obtain ⟨u0, u1⟩ := q
    obtain ⟨hq0, hq1⟩ := hcok _ (List.mem_of_getElem? hq)
    have hq0 : u0.size ≤ 1000000 := hq0
    refine wl_nil ?_
    refine nw 18 1023 (fun _ hm => ⟨hm.bl 2, hm.bl 0, hm.fa 0, trivial⟩) fun z => ?_
    refine wt 10 18 2047 rfl z (ov_index (j := j) es27 rfl rfl (by omega)) ?_
    refine wt 11 18 4095 rfl z (ov_field fo90_0 rfl rfl) ?_
    refine wt 12 18 8191 rfl z (ov_elem1 (k := 0) (v := .string u0) sc9 rfl (fun _ hm => (hm.2.2.1)) hq rfl rfl) ?_
    refine wt 13 18 16383 rfl z (ov_build (cs := [.string nm, .string u0]) rfl (by kernel_rfl)) ?_
    refine wa1 14 rfl ?_
    refine wl_buildSlice (e := 57) (cs := [.string nm, .string u0]) rfl (by kernel_rfl) rfl fun g6 => ?_
    refine wl_nil ?_
    refine nw 18 32767 (fun _ hm => ⟨hm.bl 3, hm.bl 1, hm.fa 0, trivial⟩) fun z => ?_
    refine wa1 15 rfl ?_
    refine wl_append (news := [.string nm, .string u0]) 0 0 ap28 rfl rfl rfl rfl rfl rfl rfl (by omega) (by unfold maxLen; omega) rfl rfl fun v2 hv2 => ?_
    refine wl_look (R := ∃ A cc, v2 = .slice A (k + 1) cc) (fun wx hm => own_slice (hm.ownI 0 rfl)) ?_
    rintro ⟨vA2, vc2, rfl⟩
    refine wl_nil ?_
    refine nw 18 65535 (fun _ hm => ⟨hm.bl 3, hm.bl 1, hm.fa 0, trivial⟩) fun z => ?_
    refine wt 16 18 131071 rfl z (ov_field fo31_2 rfl rfl) ?_
    refine wa1 17 rfl ?_
    refine wl_store 2 sc28 rfl rfl rfl rfl rfl rfl ?_
    refine wl_nil ?_
    refine nw 18 262143 (fun _ hm => ⟨hm.bl 3, hm.bl 1, hm.fa 0, trivial⟩) fun z => ?_
    refine wa_done (by kernel_rfl) ?_
    refine nx_blk_nrm (nx_then (gw_region (ad_ rfl rfl (mv_ rfl (wl_nil ?_)))))
    have hxs : vl.flatMap vhEnc ++ ([.string nm, .string u0] : List Value) = (vl ++ [(⟨nm, u0⟩ : Vh)]).flatMap vhEnc := by simp [vhEnc]
    rw [hxs]
    exact nx_round (i + 1, k + 1, vA2, vc2, vl ++ [(⟨nm, u0⟩ : Vh)]) ⟨by dsimp only; omega, by dsimp only; omega, by simp [hvl], all_snoc hvB ⟨(show nm.size ≤ 1000 by omega), hq0⟩, vhG_snoc hvg hx hq⟩ (by dsimp only; omega) ⟨rfl, rfl, rfl, rfl, rfl, (some_int (by omega)), trivial⟩ (fun _ hm => (hm.more rfl (by first | omega | (dsimp only; omega))).pick [2, 3, 1] [0, 1] [0] rfl rfl)
   have T511 : W 9 (lb 18 511) [(0, .pointer (some ⟨sb, 0, none⟩)), (2, .pointer (some ⟨g1, 0, none⟩)), (3, .pointer (some ⟨g2, 0, none⟩)), (21, .slice (some ⟨g4, 0, none⟩) 4 4), (22, .int .i64 4), (23, .int .i64 ((i : Nat) : Int)), (31, .slice vA k vc), (32, .string nm), (34, .slice (some ⟨bc, oc, none⟩) 4 cc), (35, .pointer (some ⟨sb, 0, none⟩)), (38, .int .i64 4)] (fun w => Strm 25 w B sb (m + 120 + 2 * i + 1)) [(g1, 31, [.slice none 0 0, .slice none 0 0, .slice none 0 0, .slice none 0 0]), (g2, 31, [.slice sA sn sc, .slice (some ⟨bc, oc, none⟩) 4 cc, .slice vA k vc, .slice none 0 0]), (g4, 9, [.string ⟨#[118, 49]⟩, .string ⟨#[118, 50]⟩, .string ⟨#[118, 51]⟩, .string ⟨#[118, 52]⟩])] [⟨.slice vA k vc, 57, 2, k, vl.flatMap vhEnc⟩, ⟨.slice sA sn sc, 105, 15, sn, sl.flatMap stEnc⟩] [fun wy => SlT csEnc 2 90 wy (some ⟨bc, oc, none⟩) 4 cl] := by
    skip
    rw [hW]
    refine wa1 9 rfl ?_
    refine wl_got (γ := Int) (val := fun v => .int .i64 v) (φ := fun v => IsBelow 4 v) rfl cb23 rfl rfl rfl rfl (fun wx hm => (next_any _ wx B sb _ hm.k (by omega) (by omega) (by omega))) fun vj hvj => ?_
    have hj := isBelow_lt hvj (by omega)
    obtain ⟨j, rfl⟩ := Int.eq_ofNat_of_zero_le hj.1
    have hji : j < 4 := by omega
    obtain ⟨q, hq⟩ : ∃ q, cl[j]? = some q := ⟨_, List.getElem?_eq_getElem (by omega)⟩
    obtain ⟨u0, u1⟩ := q
    obtain ⟨hq0, hq1⟩ := hcok _ (List.mem_of_getElem? hq)
    have hq0 : u0.size ≤ 1000000 := hq0
    refine wl_nil ?_
    refine nw 18 1023 (fun _ hm => ⟨hm.bl 2, hm.bl 0, hm.fa 0, trivial⟩) fun z => ?_
    refine wt 10 18 2047 rfl z (ov_index (j := j) es27 rfl rfl (by omega)) ?_
    refine wt 11 18 4095 rfl z (ov_field fo90_0 rfl rfl) ?_
    refine wt 12 18 8191 rfl z (ov_elem1 (k := 0) (v := .string u0) sc9 rfl (fun _ hm => (hm.2.2.1)) hq rfl rfl) ?_
    refine wt 13 18 16383 rfl z (ov_build (cs := [.string nm, .string u0]) rfl (by kernel_rfl)) ?_
    refine wa1 14 rfl ?_
    refine wl_buildSlice (e := 57) (cs := [.string nm, .string u0]) rfl (by kernel_rfl) rfl fun g7 => ?_
    refine wl_nil ?_
    refine nw 18 32767 (fun _ hm => ⟨hm.bl 3, hm.bl 1, hm.fa 0, trivial⟩) fun z => ?_
    refine wa1 15 rfl ?_
    refine wl_append (news := [.string nm, .string u0]) 0 0 ap28 rfl rfl rfl rfl rfl rfl rfl (by omega) (by unfold maxLen; omega) rfl rfl fun v2 hv2 => ?_
    refine wl_look (R := ∃ A cc, v2 = .slice A (k + 1) cc) (fun wx hm => own_slice (hm.ownI 0 rfl)) ?_
    rintro ⟨vA2, vc2, rfl⟩
    refine wl_nil ?_
    refine nw 18 65535 (fun _ hm => ⟨hm.bl 3, hm.bl 1, hm.fa 0, trivial⟩) fun z => ?_
    refine wt 16 18 131071 rfl z (ov_field fo31_2 rfl rfl) ?_
    refine wa1 17 rfl ?_
    refine wl_store 2 sc28 rfl rfl rfl rfl rfl rfl ?_
    refine wl_nil ?_
    refine nw 18 262143 (fun _ hm => ⟨hm.bl 3, hm.bl 1, hm.fa 0, trivial⟩) fun z => ?_
    refine wa_done (by kernel_rfl) ?_
    refine nx_blk_nrm (nx_then (gw_region (ad_ rfl rfl (mv_ rfl (wl_nil ?_)))))
    have hxs : vl.flatMap vhEnc ++ ([.string nm, .string u0] : List Value) = (vl ++ [(⟨nm, u0⟩ : Vh)]).flatMap vhEnc := by simp [vhEnc]
    rw [hxs]
    exact nx_round (i + 1, k + 1, vA2, vc2, vl ++ [(⟨nm, u0⟩ : Vh)]) ⟨by dsimp only; omega, by dsimp only; omega, by simp [hvl], all_snoc hvB ⟨(show nm.size ≤ 1000 by omega), hq0⟩, vhG_snoc hvg hx hq⟩ (by dsimp only; omega) ⟨rfl, rfl, rfl, rfl, rfl, (some_int (by omega)), trivial⟩ (fun _ hm => (hm.more rfl (by first | omega | (dsimp only; omega))).pick [2, 3, 1] [0, 1] [0] rfl rfl)
   have T1007 : ∀ (j : Nat) (hji : j < 4) (u0 : ByteArray) (u1 : ByteArray) (hq : cl[j]? = some ⟨u0, u1⟩) (hq0 : u0.size ≤ 1000000), W 9 (lb 18 1007) [(0, .pointer (some ⟨sb, 0, none⟩)), (2, .pointer (some ⟨g1, 0, none⟩)), (3, .pointer (some ⟨g2, 0, none⟩)), (21, .slice (some ⟨g4, 0, none⟩) 4 4), (22, .int .i64 4), (23, .int .i64 ((i : Nat) : Int)), (31, .slice vA k vc), (32, .string nm), (33, .pointer (some ⟨g2, 1, none⟩)), (39, .int .i64 ((j : Nat) : Int))] (fun w => Strm 25 w B sb (m + 120 + 2 * i + 1 + 1)) [(g1, 31, [.slice none 0 0, .slice none 0 0, .slice none 0 0, .slice none 0 0]), (g2, 31, [.slice sA sn sc, .slice (some ⟨bc, oc, none⟩) 4 cc, .slice vA k vc, .slice none 0 0]), (g4, 9, [.string ⟨#[118, 49]⟩, .string ⟨#[118, 50]⟩, .string ⟨#[118, 51]⟩, .string ⟨#[118, 52]⟩])] [⟨.slice vA k vc, 57, 2, k, vl.flatMap vhEnc⟩, ⟨.slice sA sn sc, 105, 15, sn, sl.flatMap stEnc⟩] [fun wy => SlT csEnc 2 90 wy (some ⟨bc, oc, none⟩) 4 cl] := by
    intro j hji u0 u1 hq hq0
    rw [hW]
    refine wa1 4 rfl ?_
    refine lk_ sc27 1 rfl rfl rfl (wl_nil ?_)
    refine nw 18 1023 (fun _ hm => ⟨hm.bl 2, hm.bl 0, hm.fa 0, trivial⟩) fun z => ?_
    refine wt 10 18 2047 rfl z (ov_index (j := j) es27 rfl rfl (by omega)) ?_
    refine wt 11 18 4095 rfl z (ov_field fo90_0 rfl rfl) ?_
    refine wt 12 18 8191 rfl z (ov_elem1 (k := 0) (v := .string u0) sc9 rfl (fun _ hm => (hm.2.2.1)) hq rfl rfl) ?_
    refine wt 13 18 16383 rfl z (ov_build (cs := [.string nm, .string u0]) rfl (by kernel_rfl)) ?_
    refine wa1 14 rfl ?_
    refine wl_buildSlice (e := 57) (cs := [.string nm, .string u0]) rfl (by kernel_rfl) rfl fun g8 => ?_
    refine wl_nil ?_
    refine nw 18 32767 (fun _ hm => ⟨hm.bl 3, hm.bl 1, hm.fa 0, trivial⟩) fun z => ?_
    refine wa1 15 rfl ?_
    refine wl_append (news := [.string nm, .string u0]) 0 0 ap28 rfl rfl rfl rfl rfl rfl rfl (by omega) (by unfold maxLen; omega) rfl rfl fun v2 hv2 => ?_
    refine wl_look (R := ∃ A cc, v2 = .slice A (k + 1) cc) (fun wx hm => own_slice (hm.ownI 0 rfl)) ?_
    rintro ⟨vA2, vc2, rfl⟩
    refine wl_nil ?_
    refine nw 18 65535 (fun _ hm => ⟨hm.bl 3, hm.bl 1, hm.fa 0, trivial⟩) fun z => ?_
    refine wt 16 18 131071 rfl z (ov_field fo31_2 rfl rfl) ?_
    refine wa1 17 rfl ?_
    refine wl_store 2 sc28 rfl rfl rfl rfl rfl rfl ?_
    refine wl_nil ?_
    refine nw 18 262143 (fun _ hm => ⟨hm.bl 3, hm.bl 1, hm.fa 0, trivial⟩) fun z => ?_
    refine wa_done (by kernel_rfl) ?_
    refine nx_blk_nrm (nx_then (gw_region (ad_ rfl rfl (mv_ rfl (wl_nil ?_)))))
    have hxs : vl.flatMap vhEnc ++ ([.string nm, .string u0] : List Value) = (vl ++ [(⟨nm, u0⟩ : Vh)]).flatMap vhEnc := by simp [vhEnc]
    rw [hxs]
    exact nx_round (i + 1, k + 1, vA2, vc2, vl ++ [(⟨nm, u0⟩ : Vh)]) ⟨by dsimp only; omega, by dsimp only; omega, by simp [hvl], all_snoc hvB ⟨(show nm.size ≤ 1000 by omega), hq0⟩, vhG_snoc hvg hx hq⟩ (by dsimp only; omega) ⟨rfl, rfl, rfl, rfl, rfl, (some_int (by omega)), trivial⟩ (fun _ hm => (hm.more rfl (by first | omega | (dsimp only; omega))).pick [2, 3, 1] [0, 1] [0] rfl rfl)
   have J495 : W 10 (lb 18 495) [(0, .pointer (some ⟨sb, 0, none⟩)), (2, .pointer (some ⟨g1, 0, none⟩)), (3, .pointer (some ⟨g2, 0, none⟩)), (21, .slice (some ⟨g4, 0, none⟩) 4 4), (22, .int .i64 4), (23, .int .i64 ((i : Nat) : Int)), (31, .slice vA k vc), (32, .string nm), (33, .pointer (some ⟨g2, 1, none⟩)), (35, .pointer (some ⟨sb, 0, none⟩)), (38, .int .i64 4)] (fun w => Strm 25 w B sb (m + 120 + 2 * i + 1)) [(g1, 31, [.slice none 0 0, .slice none 0 0, .slice none 0 0, .slice none 0 0]), (g2, 31, [.slice sA sn sc, .slice (some ⟨bc, oc, none⟩) 4 cc, .slice vA k vc, .slice none 0 0]), (g4, 9, [.string ⟨#[118, 49]⟩, .string ⟨#[118, 50]⟩, .string ⟨#[118, 51]⟩, .string ⟨#[118, 52]⟩])] [⟨.slice vA k vc, 57, 2, k, vl.flatMap vhEnc⟩, ⟨.slice sA sn sc, 105, 15, sn, sl.flatMap stEnc⟩] [fun wy => SlT csEnc 2 90 wy (some ⟨bc, oc, none⟩) 4 cl] := by
    skip
    rw [hW]
    refine wa_all [4, 9] (by kernel_rfl) rfl ⟨⟨_, rfl, ?_⟩, ⟨_, rfl, ?_⟩, trivial⟩
    ·refine lk_ sc27 1 rfl rfl rfl (wl_nil ?_)
     refine nw 18 511 (fun _ hm => ⟨hm.bl 2, hm.bl 0, hm.fa 0, trivial⟩) fun z => ?_
     have h := T511 
     rw [hW] at h
     refine wa_weak ?_ ?_ h
     ·exact ⟨rfl, rfl, rfl, rfl, rfl, rfl, rfl, rfl, rfl, rfl, rfl, trivial⟩
     exact fun _ hm => hm.pick [0, 1, 2] [0, 1] [0] rfl rfl
    refine wl_got (γ := Int) (val := fun v => .int .i64 v) (φ := fun v => IsBelow 4 v) rfl cb23 rfl rfl rfl rfl (fun wx hm => (next_any _ wx B sb _ hm.k (by omega) (by omega) (by omega))) fun vj hvj => ?_
    have hj := isBelow_lt hvj (by omega)
    obtain ⟨j, rfl⟩ := Int.eq_ofNat_of_zero_le hj.1
    have hji : j < 4 := by omega
    obtain ⟨q, hq⟩ : ∃ q, cl[j]? = some q := ⟨_, List.getElem?_eq_getElem (by omega)⟩
    obtain ⟨u0, u1⟩ := q
    obtain ⟨hq0, hq1⟩ := hcok _ (List.mem_of_getElem? hq)
    have hq0 : u0.size ≤ 1000000 := hq0
    refine wl_nil ?_
    refine nw 18 1007 (fun _ hm => ⟨hm.bl 2, hm.bl 0, hm.fa 0, trivial⟩) fun z => ?_
    have h := T1007 j hji u0 u1 hq hq0
    rw [hW] at h
    refine wa_weak ?_ ?_ h
    ·exact ⟨rfl, rfl, rfl, rfl, rfl, rfl, rfl, rfl, rfl, rfl, trivial⟩
    exact fun _ hm => hm.pick [0, 1, 2] [0, 1] [0] rfl rfl
   have J111 : W 12 (lb 18 111) [(0, .pointer (some ⟨sb, 0, none⟩)), (2, .pointer (some ⟨g1, 0, none⟩)), (3, .pointer (some ⟨g2, 0, none⟩)), (21, .slice (some ⟨g4, 0, none⟩) 4 4), (22, .int .i64 4), (23, .int .i64 ((i : Nat) : Int)), (31, .slice vA k vc), (32, .string nm), (33, .pointer (some ⟨g2, 1, none⟩)), (35, .pointer (some ⟨sb, 0, none⟩)), (36, .pointer (some ⟨g2, 1, none⟩))] (fun w => Strm 25 w B sb (m + 120 + 2 * i + 1)) [(g1, 31, [.slice none 0 0, .slice none 0 0, .slice none 0 0, .slice none 0 0]), (g2, 31, [.slice sA sn sc, .slice (some ⟨bc, oc, none⟩) 4 cc, .slice vA k vc, .slice none 0 0]), (g4, 9, [.string ⟨#[118, 49]⟩, .string ⟨#[118, 50]⟩, .string ⟨#[118, 51]⟩, .string ⟨#[118, 52]⟩])] [⟨.slice vA k vc, 57, 2, k, vl.flatMap vhEnc⟩, ⟨.slice sA sn sc, 105, 15, sn, sl.flatMap stEnc⟩] [fun wy => SlT csEnc 2 90 wy (some ⟨bc, oc, none⟩) 4 cl] := by
    skip
    rw [hW]
    refine wa_all [4, 7] (by kernel_rfl) rfl ⟨⟨_, rfl, ?_⟩, ⟨_, rfl, ?_⟩, trivial⟩
    ·refine lk_ sc27 1 rfl rfl rfl (wl_nil ?_)
     refine nw 18 127 (fun _ hm => ⟨hm.bl 2, hm.bl 0, hm.fa 0, trivial⟩) fun z => ?_
     have h := T127 
     rw [hW] at h
     refine wa_weak ?_ ?_ h
     ·exact ⟨rfl, rfl, rfl, rfl, rfl, rfl, rfl, rfl, rfl, rfl, rfl, trivial⟩
     exact fun _ hm => hm.pick [0, 1, 2] [0, 1] [0] rfl rfl
    refine lk_ sc27 1 rfl rfl rfl (wl_nil ?_)
    refine nw 18 239 (fun _ hm => ⟨hm.bl 2, hm.bl 0, hm.fa 0, trivial⟩) fun z => ?_
    refine wt 8 18 495 rfl z (ov_len es27 rfl) ?_
    refine wa_set 38 (v' := .int .i64 4) rfl rfl ?_
    have h := J495 
    rw [hW] at h
    refine wa_weak ?_ ?_ h
    ·exact ⟨rfl, rfl, rfl, rfl, rfl, rfl, rfl, rfl, rfl, rfl, rfl, trivial⟩
    exact fun _ hm => hm.pick [0, 1, 2] [0, 1] [0] rfl rfl
   have T16383 : ∀ (j : Nat) (hji : j < 4) (u0 : ByteArray) (u1 : ByteArray) (hq : cl[j]? = some ⟨u0, u1⟩) (hq0 : u0.size ≤ 1000000), W 4 (lb 18 16383) [(0, .pointer (some ⟨sb, 0, none⟩)), (2, .pointer (some ⟨g1, 0, none⟩)), (3, .pointer (some ⟨g2, 0, none⟩)), (21, .slice (some ⟨g4, 0, none⟩) 4 4), (22, .int .i64 4), (23, .int .i64 ((i : Nat) : Int)), (31, .slice vA k vc), (43, .agg #[.string nm, .string u0])] (fun w => Strm 25 w B sb (m + 120 + 2 * i + 1 + 1)) [(g1, 31, [.slice none 0 0, .slice none 0 0, .slice none 0 0, .slice none 0 0]), (g2, 31, [.slice sA sn sc, .slice (some ⟨bc, oc, none⟩) 4 cc, .slice vA k vc, .slice none 0 0]), (g4, 9, [.string ⟨#[118, 49]⟩, .string ⟨#[118, 50]⟩, .string ⟨#[118, 51]⟩, .string ⟨#[118, 52]⟩])] [⟨.slice vA k vc, 57, 2, k, vl.flatMap vhEnc⟩, ⟨.slice sA sn sc, 105, 15, sn, sl.flatMap stEnc⟩] [fun wy => SlT csEnc 2 90 wy (some ⟨bc, oc, none⟩) 4 cl] := by
    intro j hji u0 u1 hq hq0
    rw [hW]
    refine wa1 14 rfl ?_
    refine wl_buildSlice (e := 57) (cs := [.string nm, .string u0]) rfl (by kernel_rfl) rfl fun g9 => ?_
    refine wl_nil ?_
    refine nw 18 32767 (fun _ hm => ⟨hm.bl 3, hm.bl 1, hm.fa 0, trivial⟩) fun z => ?_
    refine wa1 15 rfl ?_
    refine wl_append (news := [.string nm, .string u0]) 0 0 ap28 rfl rfl rfl rfl rfl rfl rfl (by omega) (by unfold maxLen; omega) rfl rfl fun v2 hv2 => ?_
    refine wl_look (R := ∃ A cc, v2 = .slice A (k + 1) cc) (fun wx hm => own_slice (hm.ownI 0 rfl)) ?_
    rintro ⟨vA2, vc2, rfl⟩
    refine wl_nil ?_
    refine nw 18 65535 (fun _ hm => ⟨hm.bl 3, hm.bl 1, hm.fa 0, trivial⟩) fun z => ?_
    refine wt 16 18 131071 rfl z (ov_field fo31_2 rfl rfl) ?_
    refine wa1 17 rfl ?_
    refine wl_store 2 sc28 rfl rfl rfl rfl rfl rfl ?_
    refine wl_nil ?_
    refine nw 18 262143 (fun _ hm => ⟨hm.bl 3, hm.bl 1, hm.fa 0, trivial⟩) fun z => ?_
    refine wa_done (by kernel_rfl) ?_
    refine nx_blk_nrm (nx_then (gw_region (ad_ rfl rfl (mv_ rfl (wl_nil ?_)))))
    have hxs : vl.flatMap vhEnc ++ ([.string nm, .string u0] : List Value) = (vl ++ [(⟨nm, u0⟩ : Vh)]).flatMap vhEnc := by simp [vhEnc]
    rw [hxs]
    exact nx_round (i + 1, k + 1, vA2, vc2, vl ++ [(⟨nm, u0⟩ : Vh)]) ⟨by dsimp only; omega, by dsimp only; omega, by simp [hvl], all_snoc hvB ⟨(show nm.size ≤ 1000 by omega), hq0⟩, vhG_snoc hvg hx hq⟩ (by dsimp only; omega) ⟨rfl, rfl, rfl, rfl, rfl, (some_int (by omega)), trivial⟩ (fun _ hm => (hm.more rfl (by first | omega | (dsimp only; omega))).pick [2, 3, 1] [0, 1] [0] rfl rfl)
   have T32765 : ∀ (j : Nat) (hji : j < 4) (u0 : ByteArray) (u1 : ByteArray) (hq : cl[j]? = some ⟨u0, u1⟩) (hq0 : u0.size ≤ 1000000) (q14 : Nat), W 4 (lb 18 32765) [(0, .pointer (some ⟨sb, 0, none⟩)), (2, .pointer (some ⟨g1, 0, none⟩)), (3, .pointer (some ⟨g2, 0, none⟩)), (21, .slice (some ⟨g4, 0, none⟩) 4 4), (22, .int .i64 4), (23, .int .i64 ((i : Nat) : Int)), (30, .pointer (some ⟨g2, 2, none⟩)), (44, .slice (some ⟨q14, 0, none⟩) 1 1)] (fun w => Strm 25 w B sb (m + 120 + 2 * i + 1 + 1)) [(g1, 31, [.slice none 0 0, .slice none 0 0, .slice none 0 0, .slice none 0 0]), (g2, 31, [.slice sA sn sc, .slice (some ⟨bc, oc, none⟩) 4 cc, .slice vA k vc, .slice none 0 0]), (g4, 9, [.string ⟨#[118, 49]⟩, .string ⟨#[118, 50]⟩, .string ⟨#[118, 51]⟩, .string ⟨#[118, 52]⟩]), (q14, 57, [.string nm, .string u0])] [⟨.slice vA k vc, 57, 2, k, vl.flatMap vhEnc⟩, ⟨.slice sA sn sc, 105, 15, sn, sl.flatMap stEnc⟩] [fun wy => SlT csEnc 2 90 wy (some ⟨bc, oc, none⟩) 4 cl] := by
    intro j hji u0 u1 hq hq0 q14
    rw [hW]
    refine wa1 1 rfl ?_
    refine lk_ sc28 1 rfl rfl rfl (wl_nil ?_)
    refine nw 18 32767 (fun _ hm => ⟨hm.bl 2, hm.bl 0, hm.fa 0, trivial⟩) fun z => ?_
    refine wa1 15 rfl ?_
    refine wl_append (news := [.string nm, .string u0]) 0 3 ap28 rfl rfl rfl rfl rfl rfl rfl (by omega) (by unfold maxLen; omega) rfl rfl fun v2 hv2 => ?_
    refine wl_look (R := ∃ A cc, v2 = .slice A (k + 1) cc) (fun wx hm => own_slice (hm.ownI 0 rfl)) ?_
    rintro ⟨vA2, vc2, rfl⟩
    refine wl_nil ?_
    refine nw 18 65535 (fun _ hm => ⟨hm.bl 2, hm.bl 0, hm.fa 0, trivial⟩) fun z => ?_
    refine wt 16 18 131071 rfl z (ov_field fo31_2 rfl rfl) ?_
    refine wa1 17 rfl ?_
    refine wl_store 1 sc28 rfl rfl rfl rfl rfl rfl ?_
    refine wl_nil ?_
    refine nw 18 262143 (fun _ hm => ⟨hm.bl 2, hm.bl 0, hm.fa 0, trivial⟩) fun z => ?_
    refine wa_done (by kernel_rfl) ?_
    refine nx_blk_nrm (nx_then (gw_region (ad_ rfl rfl (mv_ rfl (wl_nil ?_)))))
    have hxs : vl.flatMap vhEnc ++ ([.string nm, .string u0] : List Value) = (vl ++ [(⟨nm, u0⟩ : Vh)]).flatMap vhEnc := by simp [vhEnc]
    rw [hxs]
    exact nx_round (i + 1, k + 1, vA2, vc2, vl ++ [(⟨nm, u0⟩ : Vh)]) ⟨by dsimp only; omega, by dsimp only; omega, by simp [hvl], all_snoc hvB ⟨(show nm.size ≤ 1000 by omega), hq0⟩, vhG_snoc hvg hx hq⟩ (by dsimp only; omega) ⟨rfl, rfl, rfl, rfl, rfl, (some_int (by omega)), trivial⟩ (fun _ hm => (hm.more rfl (by first | omega | (dsimp only; omega))).pick [1, 2, 0] [0, 1] [0] rfl rfl)
   have J16381 : ∀ (j : Nat) (hji : j < 4) (u0 : ByteArray) (u1 : ByteArray) (hq : cl[j]? = some ⟨u0, u1⟩) (hq0 : u0.size ≤ 1000000), W 5 (lb 18 16381) [(0, .pointer (some ⟨sb, 0, none⟩)), (2, .pointer (some ⟨g1, 0, none⟩)), (3, .pointer (some ⟨g2, 0, none⟩)), (21, .slice (some ⟨g4, 0, none⟩) 4 4), (22, .int .i64 4), (23, .int .i64 ((i : Nat) : Int)), (30, .pointer (some ⟨g2, 2, none⟩)), (43, .agg #[.string nm, .string u0])] (fun w => Strm 25 w B sb (m + 120 + 2 * i + 1 + 1)) [(g1, 31, [.slice none 0 0, .slice none 0 0, .slice none 0 0, .slice none 0 0]), (g2, 31, [.slice sA sn sc, .slice (some ⟨bc, oc, none⟩) 4 cc, .slice vA k vc, .slice none 0 0]), (g4, 9, [.string ⟨#[118, 49]⟩, .string ⟨#[118, 50]⟩, .string ⟨#[118, 51]⟩, .string ⟨#[118, 52]⟩])] [⟨.slice vA k vc, 57, 2, k, vl.flatMap vhEnc⟩, ⟨.slice sA sn sc, 105, 15, sn, sl.flatMap stEnc⟩] [fun wy => SlT csEnc 2 90 wy (some ⟨bc, oc, none⟩) 4 cl] := by
    intro j hji u0 u1 hq hq0
    rw [hW]
    refine wa_all [1, 14] (by kernel_rfl) rfl ⟨⟨_, rfl, ?_⟩, ⟨_, rfl, ?_⟩, trivial⟩
    ·refine lk_ sc28 1 rfl rfl rfl (wl_nil ?_)
     refine nw 18 16383 (fun _ hm => ⟨hm.bl 2, hm.bl 0, hm.fa 0, trivial⟩) fun z => ?_
     have h := T16383 j hji u0 u1 hq hq0
     rw [hW] at h
     refine wa_weak ?_ ?_ h
     ·exact ⟨rfl, rfl, rfl, rfl, rfl, rfl, rfl, rfl, trivial⟩
     exact fun _ hm => hm.pick [0, 1, 2] [0, 1] [0] rfl rfl
    refine wl_buildSlice (e := 57) (cs := [.string nm, .string u0]) rfl (by kernel_rfl) rfl fun q14 => ?_
    refine wl_nil ?_
    refine nw 18 32765 (fun _ hm => ⟨hm.bl 3, hm.bl 1, hm.fa 0, trivial⟩) fun z => ?_
    have h := T32765 j hji u0 u1 hq hq0 q14
    rw [hW] at h
    refine wa_weak ?_ ?_ h
    ·exact ⟨rfl, rfl, rfl, rfl, rfl, rfl, rfl, rfl, trivial⟩
    exact fun _ hm => hm.pick [1, 2, 3, 0] [0, 1] [0] rfl rfl
   have J509 : W 10 (lb 18 509) [(0, .pointer (some ⟨sb, 0, none⟩)), (2, .pointer (some ⟨g1, 0, none⟩)), (3, .pointer (some ⟨g2, 0, none⟩)), (21, .slice (some ⟨g4, 0, none⟩) 4 4), (22, .int .i64 4), (23, .int .i64 ((i : Nat) : Int)), (30, .pointer (some ⟨g2, 2, none⟩)), (32, .string nm), (34, .slice (some ⟨bc, oc, none⟩) 4 cc), (35, .pointer (some ⟨sb, 0, none⟩)), (38, .int .i64 4)] (fun w => Strm 25 w B sb (m + 120 + 2 * i + 1)) [(g1, 31, [.slice none 0 0, .slice none 0 0, .slice none 0 0, .slice none 0 0]), (g2, 31, [.slice sA sn sc, .slice (some ⟨bc, oc, none⟩) 4 cc, .slice vA k vc, .slice none 0 0]), (g4, 9, [.string ⟨#[118, 49]⟩, .string ⟨#[118, 50]⟩, .string ⟨#[118, 51]⟩, .string ⟨#[118, 52]⟩])] [⟨.slice vA k vc, 57, 2, k, vl.flatMap vhEnc⟩, ⟨.slice sA sn sc, 105, 15, sn, sl.flatMap stEnc⟩] [fun wy => SlT csEnc 2 90 wy (some ⟨bc, oc, none⟩) 4 cl] := by
    skip
    rw [hW]
    refine wa_all [1, 9] (by kernel_rfl) rfl ⟨⟨_, rfl, ?_⟩, ⟨_, rfl, ?_⟩, trivial⟩
    ·refine lk_ sc28 1 rfl rfl rfl (wl_nil ?_)
     refine nw 18 511 (fun _ hm => ⟨hm.bl 2, hm.bl 0, hm.fa 0, trivial⟩) fun z => ?_
     have h := T511 
     rw [hW] at h
     refine wa_weak ?_ ?_ h
     ·exact ⟨rfl, rfl, rfl, rfl, rfl, rfl, rfl, rfl, rfl, rfl, rfl, trivial⟩
     exact fun _ hm => hm.pick [0, 1, 2] [0, 1] [0] rfl rfl
    refine wl_got (γ := Int) (val := fun v => .int .i64 v) (φ := fun v => IsBelow 4 v) rfl cb23 rfl rfl rfl rfl (fun wx hm => (next_any _ wx B sb _ hm.k (by omega) (by omega) (by omega))) fun vj hvj => ?_
    have hj := isBelow_lt hvj (by omega)
    obtain ⟨j, rfl⟩ := Int.eq_ofNat_of_zero_le hj.1
    have hji : j < 4 := by omega
    obtain ⟨q, hq⟩ : ∃ q, cl[j]? = some q := ⟨_, List.getElem?_eq_getElem (by omega)⟩
    obtain ⟨u0, u1⟩ := q
    obtain ⟨hq0, hq1⟩ := hcok _ (List.mem_of_getElem? hq)
    have hq0 : u0.size ≤ 1000000 := hq0
    refine wl_nil ?_
    refine nw 18 1021 (fun _ hm => ⟨hm.bl 2, hm.bl 0, hm.fa 0, trivial⟩) fun z => ?_
    refine wt 10 18 2045 rfl z (ov_index (j := j) es27 rfl rfl (by omega)) ?_
    refine wt 11 18 4093 rfl z (ov_field fo90_0 rfl rfl) ?_
    refine wt 12 18 8189 rfl z (ov_elem1 (k := 0) (v := .string u0) sc9 rfl (fun _ hm => (hm.2.2.1)) hq rfl rfl) ?_
    refine wt 13 18 16381 rfl z (ov_build (cs := [.string nm, .string u0]) rfl (by kernel_rfl)) ?_
    have h := J16381 j hji u0 u1 hq hq0
    rw [hW] at h
    refine wa_weak ?_ ?_ h
    ·exact ⟨rfl, rfl, rfl, rfl, rfl, rfl, rfl, rfl, trivial⟩
    exact fun _ hm => hm.pick [0, 1, 2] [0, 1] [0] rfl rfl
   have J125 : W 12 (lb 18 125) [(0, .pointer (some ⟨sb, 0, none⟩)), (2, .pointer (some ⟨g1, 0, none⟩)), (3, .pointer (some ⟨g2, 0, none⟩)), (21, .slice (some ⟨g4, 0, none⟩) 4 4), (22, .int .i64 4), (23, .int .i64 ((i : Nat) : Int)), (30, .pointer (some ⟨g2, 2, none⟩)), (32, .string nm), (34, .slice (some ⟨bc, oc, none⟩) 4 cc), (35, .pointer (some ⟨sb, 0, none⟩)), (36, .pointer (some ⟨g2, 1, none⟩))] (fun w => Strm 25 w B sb (m + 120 + 2 * i + 1)) [(g1, 31, [.slice none 0 0, .slice none 0 0, .slice none 0 0, .slice none 0 0]), (g2, 31, [.slice sA sn sc, .slice (some ⟨bc, oc, none⟩) 4 cc, .slice vA k vc, .slice none 0 0]), (g4, 9, [.string ⟨#[118, 49]⟩, .string ⟨#[118, 50]⟩, .string ⟨#[118, 51]⟩, .string ⟨#[118, 52]⟩])] [⟨.slice vA k vc, 57, 2, k, vl.flatMap vhEnc⟩, ⟨.slice sA sn sc, 105, 15, sn, sl.flatMap stEnc⟩] [fun wy => SlT csEnc 2 90 wy (some ⟨bc, oc, none⟩) 4 cl] := by
    skip
    rw [hW]
    refine wa_all [1, 7] (by kernel_rfl) rfl ⟨⟨_, rfl, ?_⟩, ⟨_, rfl, ?_⟩, trivial⟩
    ·refine lk_ sc28 1 rfl rfl rfl (wl_nil ?_)
     refine nw 18 127 (fun _ hm => ⟨hm.bl 2, hm.bl 0, hm.fa 0, trivial⟩) fun z => ?_
     have h := T127 
     rw [hW] at h
     refine wa_weak ?_ ?_ h
     ·exact ⟨rfl, rfl, rfl, rfl, rfl, rfl, rfl, rfl, rfl, rfl, rfl, trivial⟩
     exact fun _ hm => hm.pick [0, 1, 2] [0, 1] [0] rfl rfl
    refine lk_ sc27 1 rfl rfl rfl (wl_nil ?_)
    refine nw 18 253 (fun _ hm => ⟨hm.bl 2, hm.bl 0, hm.fa 0, trivial⟩) fun z => ?_
    refine wt 8 18 509 rfl z (ov_len es27 rfl) ?_
    refine wa_set 38 (v' := .int .i64 4) rfl rfl ?_
    have h := J509 
    rw [hW] at h
    refine wa_weak ?_ ?_ h
    ·exact ⟨rfl, rfl, rfl, rfl, rfl, rfl, rfl, rfl, rfl, rfl, rfl, trivial⟩
    exact fun _ hm => hm.pick [0, 1, 2] [0, 1] [0] rfl rfl
   have J1005 : ∀ (j : Nat) (hji : j < 4) (u0 : ByteArray) (u1 : ByteArray) (hq : cl[j]? = some ⟨u0, u1⟩) (hq0 : u0.size ≤ 1000000), W 10 (lb 18 1005) [(0, .pointer (some ⟨sb, 0, none⟩)), (2, .pointer (some ⟨g1, 0, none⟩)), (3, .pointer (some ⟨g2, 0, none⟩)), (21, .slice (some ⟨g4, 0, none⟩) 4 4), (22, .int .i64 4), (23, .int .i64 ((i : Nat) : Int)), (30, .pointer (some ⟨g2, 2, none⟩)), (32, .string nm), (33, .pointer (some ⟨g2, 1, none⟩)), (39, .int .i64 ((j : Nat) : Int))] (fun w => Strm 25 w B sb (m + 120 + 2 * i + 1 + 1)) [(g1, 31, [.slice none 0 0, .slice none 0 0, .slice none 0 0, .slice none 0 0]), (g2, 31, [.slice sA sn sc, .slice (some ⟨bc, oc, none⟩) 4 cc, .slice vA k vc, .slice none 0 0]), (g4, 9, [.string ⟨#[118, 49]⟩, .string ⟨#[118, 50]⟩, .string ⟨#[118, 51]⟩, .string ⟨#[118, 52]⟩])] [⟨.slice vA k vc, 57, 2, k, vl.flatMap vhEnc⟩, ⟨.slice sA sn sc, 105, 15, sn, sl.flatMap stEnc⟩] [fun wy => SlT csEnc 2 90 wy (some ⟨bc, oc, none⟩) 4 cl] := by
    intro j hji u0 u1 hq hq0
    rw [hW]
    refine wa_all [1, 4] (by kernel_rfl) rfl ⟨⟨_, rfl, ?_⟩, ⟨_, rfl, ?_⟩, trivial⟩
    ·refine lk_ sc28 1 rfl rfl rfl (wl_nil ?_)
     refine nw 18 1007 (fun _ hm => ⟨hm.bl 2, hm.bl 0, hm.fa 0, trivial⟩) fun z => ?_
     have h := T1007 j hji u0 u1 hq hq0
     rw [hW] at h
     refine wa_weak ?_ ?_ h
     ·exact ⟨rfl, rfl, rfl, rfl, rfl, rfl, rfl, rfl, rfl, rfl, trivial⟩
     exact fun _ hm => hm.pick [0, 1, 2] [0, 1] [0] rfl rfl
    refine lk_ sc27 1 rfl rfl rfl (wl_nil ?_)
    refine nw 18 1021 (fun _ hm => ⟨hm.bl 2, hm.bl 0, hm.fa 0, trivial⟩) fun z => ?_
    refine wt 10 18 2045 rfl z (ov_index (j := j) es27 rfl rfl (by omega)) ?_
    refine wt 11 18 4093 rfl z (ov_field fo90_0 rfl rfl) ?_
    refine wt 12 18 8189 rfl z (ov_elem1 (k := 0) (v := .string u0) sc9 rfl (fun _ hm => (hm.2.2.1)) hq rfl rfl) ?_
    refine wt 13 18 16381 rfl z (ov_build (cs := [.string nm, .string u0]) rfl (by kernel_rfl)) ?_
    have h := J16381 j hji u0 u1 hq hq0
    rw [hW] at h
    refine wa_weak ?_ ?_ h
    ·exact ⟨rfl, rfl, rfl, rfl, rfl, rfl, rfl, rfl, trivial⟩
    exact fun _ hm => hm.pick [0, 1, 2] [0, 1] [0] rfl rfl
   have J493 : W 11 (lb 18 493) [(0, .pointer (some ⟨sb, 0, none⟩)), (2, .pointer (some ⟨g1, 0, none⟩)), (3, .pointer (some ⟨g2, 0, none⟩)), (21, .slice (some ⟨g4, 0, none⟩) 4 4), (22, .int .i64 4), (23, .int .i64 ((i : Nat) : Int)), (30, .pointer (some ⟨g2, 2, none⟩)), (32, .string nm), (33, .pointer (some ⟨g2, 1, none⟩)), (35, .pointer (some ⟨sb, 0, none⟩)), (38, .int .i64 4)] (fun w => Strm 25 w B sb (m + 120 + 2 * i + 1)) [(g1, 31, [.slice none 0 0, .slice none 0 0, .slice none 0 0, .slice none 0 0]), (g2, 31, [.slice sA sn sc, .slice (some ⟨bc, oc, none⟩) 4 cc, .slice vA k vc, .slice none 0 0]), (g4, 9, [.string ⟨#[118, 49]⟩, .string ⟨#[118, 50]⟩, .string ⟨#[118, 51]⟩, .string ⟨#[118, 52]⟩])] [⟨.slice vA k vc, 57, 2, k, vl.flatMap vhEnc⟩, ⟨.slice sA sn sc, 105, 15, sn, sl.flatMap stEnc⟩] [fun wy => SlT csEnc 2 90 wy (some ⟨bc, oc, none⟩) 4 cl] := by
    skip
    rw [hW]
    refine wa_all [1, 4, 9] (by kernel_rfl) rfl ⟨⟨_, rfl, ?_⟩, ⟨_, rfl, ?_⟩, ⟨_, rfl, ?_⟩, trivial⟩
    ·refine lk_ sc28 1 rfl rfl rfl (wl_nil ?_)
     refine nw 18 495 (fun _ hm => ⟨hm.bl 2, hm.bl 0, hm.fa 0, trivial⟩) fun z => ?_
     have h := J495 
     rw [hW] at h
     refine wa_weak ?_ ?_ h
     ·exact ⟨rfl, rfl, rfl, rfl, rfl, rfl, rfl, rfl, rfl, rfl, rfl, trivial⟩
     exact fun _ hm => hm.pick [0, 1, 2] [0, 1] [0] rfl rfl
    ·refine lk_ sc27 1 rfl rfl rfl (wl_nil ?_)
     refine nw 18 509 (fun _ hm => ⟨hm.bl 2, hm.bl 0, hm.fa 0, trivial⟩) fun z => ?_
     have h := J509 
     rw [hW] at h
     refine wa_weak ?_ ?_ h
     ·exact ⟨rfl, rfl, rfl, rfl, rfl, rfl, rfl, rfl, rfl, rfl, rfl, trivial⟩
     exact fun _ hm => hm.pick [0, 1, 2] [0, 1] [0] rfl rfl
    refine wl_got (γ := Int) (val := fun v => .int .i64 v) (φ := fun v => IsBelow 4 v) rfl cb23 rfl rfl rfl rfl (fun wx hm => (next_any _ wx B sb _ hm.k (by omega) (by omega) (by omega))) fun vj hvj => ?_
    have hj := isBelow_lt hvj (by omega)
    obtain ⟨j, rfl⟩ := Int.eq_ofNat_of_zero_le hj.1
    have hji : j < 4 := by omega
    obtain ⟨q, hq⟩ : ∃ q, cl[j]? = some q := ⟨_, List.getElem?_eq_getElem (by omega)⟩
    obtain ⟨u0, u1⟩ := q
    obtain ⟨hq0, hq1⟩ := hcok _ (List.mem_of_getElem? hq)
    have hq0 : u0.size ≤ 1000000 := hq0
    refine wl_nil ?_
    refine nw 18 1005 (fun _ hm => ⟨hm.bl 2, hm.bl 0, hm.fa 0, trivial⟩) fun z => ?_
    have h := J1005 j hji u0 u1 hq hq0
    rw [hW] at h
    refine wa_weak ?_ ?_ h
    ·exact ⟨rfl, rfl, rfl, rfl, rfl, rfl, rfl, rfl, rfl, rfl, trivial⟩
    exact fun _ hm => hm.pick [0, 1, 2] [0, 1] [0] rfl rfl
   have J109 : W 13 (lb 18 109) [(0, .pointer (some ⟨sb, 0, none⟩)), (2, .pointer (some ⟨g1, 0, none⟩)), (3, .pointer (some ⟨g2, 0, none⟩)), (21, .slice (some ⟨g4, 0, none⟩) 4 4), (22, .int .i64 4), (23, .int .i64 ((i : Nat) : Int)), (30, .pointer (some ⟨g2, 2, none⟩)), (32, .string nm), (33, .pointer (some ⟨g2, 1, none⟩)), (35, .pointer (some ⟨sb, 0, none⟩)), (36, .pointer (some ⟨g2, 1, none⟩))] (fun w => Strm 25 w B sb (m + 120 + 2 * i + 1)) [(g1, 31, [.slice none 0 0, .slice none 0 0, .slice none 0 0, .slice none 0 0]), (g2, 31, [.slice sA sn sc, .slice (some ⟨bc, oc, none⟩) 4 cc, .slice vA k vc, .slice none 0 0]), (g4, 9, [.string ⟨#[118, 49]⟩, .string ⟨#[118, 50]⟩, .string ⟨#[118, 51]⟩, .string ⟨#[118, 52]⟩])] [⟨.slice vA k vc, 57, 2, k, vl.flatMap vhEnc⟩, ⟨.slice sA sn sc, 105, 15, sn, sl.flatMap stEnc⟩] [fun wy => SlT csEnc 2 90 wy (some ⟨bc, oc, none⟩) 4 cl] := by
    skip
    rw [hW]
    refine wa_all [1, 4, 7] (by kernel_rfl) rfl ⟨⟨_, rfl, ?_⟩, ⟨_, rfl, ?_⟩, ⟨_, rfl, ?_⟩, trivial⟩
    ·refine lk_ sc28 1 rfl rfl rfl (wl_nil ?_)
     refine nw 18 111 (fun _ hm => ⟨hm.bl 2, hm.bl 0, hm.fa 0, trivial⟩) fun z => ?_
     have h := J111 
     rw [hW] at h
     refine wa_weak ?_ ?_ h
     ·exact ⟨rfl, rfl, rfl, rfl, rfl, rfl, rfl, rfl, rfl, rfl, rfl, trivial⟩
     exact fun _ hm => hm.pick [0, 1, 2] [0, 1] [0] rfl rfl
    ·refine lk_ sc27 1 rfl rfl rfl (wl_nil ?_)
     refine nw 18 125 (fun _ hm => ⟨hm.bl 2, hm.bl 0, hm.fa 0, trivial⟩) fun z => ?_
     have h := J125 
     rw [hW] at h
     refine wa_weak ?_ ?_ h
     ·exact ⟨rfl, rfl, rfl, rfl, rfl, rfl, rfl, rfl, rfl, rfl, rfl, trivial⟩
     exact fun _ hm => hm.pick [0, 1, 2] [0, 1] [0] rfl rfl
    refine lk_ sc27 1 rfl rfl rfl (wl_nil ?_)
    refine nw 18 237 (fun _ hm => ⟨hm.bl 2, hm.bl 0, hm.fa 0, trivial⟩) fun z => ?_
    refine wt 8 18 493 rfl z (ov_len es27 rfl) ?_
    refine wa_set 38 (v' := .int .i64 4) rfl rfl ?_
    have h := J493 
    rw [hW] at h
    refine wa_weak ?_ ?_ h
    ·exact ⟨rfl, rfl, rfl, rfl, rfl, rfl, rfl, rfl, rfl, rfl, rfl, trivial⟩
    exact fun _ hm => hm.pick [0, 1, 2] [0, 1] [0] rfl rfl
   rw [hW]
   have h := J109 
   rw [hW] at h
   refine wa_weak ?_ ?_ h
   ·exact ⟨rfl, rfl, rfl, rfl, rfl, rfl, rfl, rfl, rfl, rfl, rfl, trivial⟩
   exact fun _ hm => hm.pick [2, 0, 1] [0, 1] [0] rfl rfl
  have hf : f5 = true := by simpa using hh
  clear hh
  refine gw_skip (nx_blk_nrm (nx_then (gw_region (ad_ rfl rfl (mv_ rfl (wl_nil ?_))))))
  exact nx_round (i + 1, k, vA, vc, vl) ⟨by dsimp only; omega, by dsimp only; omega, hvl, hvB, vhG_more hvg⟩ (by dsimp only; omega) ⟨rfl, rfl, rfl, rfl, rfl, (some_int (by omega)), trivial⟩ (fun _ hm => (hm.more rfl (by first | omega | (dsimp only; omega))).pick [0, 1, 2] [0, 1] [0] rfl rfl)
 have hi : ¬ (((i : Nat) : Int) < 4) := by simpa using hh
 clear hh
 refine gw_exit ?_
 refine nx_then_exit (nx_then_exit ?_)
 refine nx_blk_here ?_
 refine nx_then (gw_seq (sr_ (mv_ rfl ?_)))
 refine wl_got (γ := Int) (val := fun v => .int .i64 v) (φ := fun v => 0 ≤ v ∧ (v ≤ 5 ∨ v = 0)) rfl cb9 rfl rfl rfl rfl (fun wx hm => (range_any _ _ wx B sb _ hm.k (by omega) (by omega) (by omega) (by omega) (by omega))) fun v10 hv10 => ?_
 refine mv_ rfl (nn_ (gw_block ?_))
 have hk4 : k ≤ 4 := by omega
 obtain ⟨R, hRR⟩ := Int.eq_ofNat_of_zero_le (show 0 ≤ v10 by omega)
 have hR5 : R ≤ 5 := by omega
 subst hRR
 refine gw_nilOwn 151 3 ?_
 refine gw_loop (γ := Nat × Option Addr × Nat × Nat × List Pl) (fun g => g.1 ≤ R ∧ g.2.2.1 ≤ g.1 ∧ g.2.2.2.2.length = g.2.2.1 ∧ (∀ x ∈ g.2.2.2.2, PlB x) ∧ fleetE sl cl vl g.2.2.2.2 = 0) (fun g => [(0, .pointer (some ⟨sb, 0, none⟩)), (2, .pointer (some ⟨g1, 0, none⟩)), (3, .pointer (some ⟨g2, 0, none⟩)), (49, .int .i64 ((R : Nat) : Int)), (50, .int .i64 ((g.1 : Nat) : Int))]) (fun g => fun w => Strm 25 w B sb (m + 140 + 10 * g.1)) (fun g => [(g2, 31, [.slice sA sn sc, .slice cA 4 cc, .slice vA k vc, .slice g.2.1 g.2.2.1 g.2.2.2.1]), (g1, 31, [.slice none 0 0, .slice none 0 0, .slice none 0 0, .slice none 0 0])]) (fun g => [⟨.slice g.2.1 g.2.2.1 g.2.2.2.1, 151, 3, g.2.2.1, g.2.2.2.2.flatMap plEnc⟩, ⟨.slice vA k vc, 57, 2, k, vl.flatMap vhEnc⟩, ⟨.slice sA sn sc, 105, 15, sn, sl.flatMap stEnc⟩]) (fun g => [fun wy => SlT csEnc 2 90 wy cA 4 cl]) (fun g => R - g.1) (0, none, 0, 0, []) ⟨Nat.zero_le _, Nat.le_refl _, rfl, (fun _ h => by cases h), fleet_start hsz hcz hvg (by omega)⟩ ⟨rfl, rfl, rfl, rfl, rfl, trivial⟩ (fun _ hm => (hm.more rfl (by first | omega | (dsimp only; omega))).pick [0, 2] [0, 1, 2] [0] rfl rfl) ?_
 rintro ⟨j, pA, pn, pc, pl⟩ hinv
 replace hinv : j ≤ R ∧ pn ≤ j ∧ pl.length = pn ∧ (∀ x ∈ pl, PlB x) ∧ fleetE sl cl vl pl = 0 := hinv
 dsimp only
 refine sr_ ?_
 obtain ⟨hj0, hpj, hpl, hpB, hfz⟩ := hinv
 refine wl_ov (ov_lss rfl rfl) rfl (nn_ (gw_seq ?_))
 refine gw_cond rfl (fun hh => ?_) (fun hh => ?_)
 ·have hj : ((j : Nat) : Int) < ((R : Nat) : Int) := by simpa using hh
  clear hh
  refine gw_skip (nx_then (gw_seq (gw_block (gw_seq (sr_ (fd_ fo31_2 rfl rfl (lk_ sc28 0 rfl rfl rfl (wl_ov (ov_len es28 rfl) rfl (wl_ov (ov_eql rfl rfl) rfl (nn_ ?_))))))))))
  refine gw_cond rfl (fun hh => ?_) (fun hh => ?_)
  ·have hk0 : ((k : Nat) : Int) = 0 := by simpa using hh
   clear hh
   refine gw_exit ?_
   refine nx_then_exit ?_
   refine nx_blk_on rfl ?_
   refine nx_then_exit (nx_then_exit ?_)
   refine nx_blk_here ?_
   refine nx_then (sr_ ?_)
   refine wl_ov (ov_loads rz31 rfl (fun _ hm => hm.blkI 0 rfl) rfl rfl) rfl ?_
   refine wl_stores (cs' := [.slice sA sn sc, .slice cA 4 cc, .slice vA k vc, .slice pA pn pc]) 1 rz31 rfl rfl rfl rfl rfl rfl rfl rfl ?_
   refine nn_ ?_
   refine gw_ret ?_
   refine nx_retc 1 rfl rz31 rfl rfl rfl fun wx hm => ?_
   exact ⟨sA, cA, vA, pA, sn, sc, cc, k, vc, pn, pc, sl, cl, vl, pl, rfl, ⟨⟨⟨hsl, hsB, hs1, hs3⟩, ⟨hcl4, hcok⟩, ⟨hvl, hvB, by omega⟩, ⟨hpl, hpB, by omega⟩⟩, hfz⟩, hm.k.more (by omega), hm.g, (hm.ownI 2 rfl), (hm.ownI 1 rfl), (hm.ownI 0 rfl), (hm.fact 0 rfl)⟩
  have hk0 : ¬ (((k : Nat) : Int) = 0) := by simpa using hh
  clear hh
  refine gw_skip (nx_then ?_)
  refine gw_look (R := ∃ g, vA = some ⟨g, 0, none⟩) (fun wx hm => own_addr (hm.ownI 1 rfl) (by omega)) ?_
  rintro ⟨bv, rfl⟩
  refine gw_cut (γ := Nat × Int × ByteArray × ByteArray) (I := (fun g => PlB ⟨g.2.1, g.2.2.1, g.2.2.2⟩)) (S' := (fun g => [(0, .pointer (some ⟨sb, 0, none⟩)), (2, .pointer (some ⟨g1, 0, none⟩)), (3, .pointer (some ⟨g2, 0, none⟩)), (6, .pointer (some ⟨g.1, 0, none⟩)), (49, .int .i64 ((R : Nat) : Int)), (50, .int .i64 ((j : Nat) : Int))])) (K' := (fun g => fun w => Strm 25 w B sb (m + 140 + 10 * j + 9))) (L' := (fun g => [(g.1, 151, [.int .i64 g.2.1, .string g.2.2.1, .string g.2.2.2]), (g2, 31, [.slice sA sn sc, .slice cA 4 cc, .slice (some ⟨bv, 0, none⟩) k vc, .slice pA pn pc]), (g1, 31, [.slice none 0 0, .slice none 0 0, .slice none 0 0, .slice none 0 0])])) (O' := (fun g => [⟨.slice pA pn pc, 151, 3, pn, pl.flatMap plEnc⟩, ⟨.slice (some ⟨bv, 0, none⟩) k vc, 57, 2, k, vl.flatMap vhEnc⟩, ⟨.slice sA sn sc, 105, 15, sn, sl.flatMap stEnc⟩])) (X' := (fun g => [fun wy => SlT csEnc 2 90 wy cA 4 cl])) ?_ ?_
  ·refine gd (fun wz => Blk wz g2 31 [.slice sA sn sc, .slice cA 4 cc, .slice (some ⟨bv, 0, none⟩) k vc, .slice pA pn pc] ∧ Blk wz g1 31 [.slice none 0 0, .slice none 0 0, .slice none 0 0, .slice none 0 0] ∧ (fun wy => SlT csEnc 2 90 wy cA 4 cl) wz ∧ wz.ownsRow w.heap.size 151 3 (.slice pA pn pc) pn (pl.flatMap plEnc) ∧ wz.ownsRow w.heap.size 57 2 (.slice (some ⟨bv, 0, none⟩) k vc) k (vl.flatMap vhEnc) ∧ wz.ownsRow w.heap.size 105 15 (.slice sA sn sc) sn (sl.flatMap stEnc) ∧ True) mixed (fun _ hm => ⟨hm.bl 0, hm.bl 1, hm.fa 0, hm.ownI 0 rfl, hm.ownI 1 rfl, hm.ownI 2 rfl, trivial⟩) fun z => ?_
   refine wt 0 19 1 rfl z (ov_move rfl) ?_
   refine wt 3 19 9 rfl z (ov_field fo31_2 rfl rfl) ?_
   refine wt 4 19 25 rfl z (ov_load sc28 rfl (fun _ hm => hm.1) rfl) ?_
   refine wt 5 19 57 rfl z (ov_move rfl) ?_
   refine wt 6 19 121 rfl z (ov_field fo31_2 rfl rfl) ?_
   refine wt 7 19 249 rfl z (ov_load sc28 rfl (fun _ hm => hm.1) rfl) ?_
   refine wt 8 19 505 rfl z (ov_len es28 rfl) ?_
   refine wt 13 19 8697 rfl z (ov_move rfl) ?_
   refine wa_open fun W hW => ?_
   have T131071 : ∀ (q1 : Nat) (k2 : Int) (bk20 : 0 ≤ k2) (bk21 : k2 ≤ 1000) (u0 : ByteArray) (hq0 : u0.size ≤ 1000) (q14 : Nat) (k15 : ByteArray) (zk15 : k15.size ≤ 100), W 2 (lb 19 131071) [(0, .pointer (some ⟨sb, 0, none⟩)), (2, .pointer (some ⟨g1, 0, none⟩)), (3, .pointer (some ⟨g2, 0, none⟩)), (49, .int .i64 ((R : Nat) : Int)), (50, .int .i64 ((j : Nat) : Int)), (72, .agg #[.int .i64 k2, .string u0, .string k15])] (fun w => Strm 25 w B sb (m + 140 + 10 * j + 1 + 1 + 1)) [(g1, 31, [.slice none 0 0, .slice none 0 0, .slice none 0 0, .slice none 0 0]), (g2, 31, [.slice sA sn sc, .slice cA 4 cc, .slice (some ⟨bv, 0, none⟩) k vc, .slice pA pn pc]), (q1, 3, [.int .i64 0, .int .i64 0, .int .i64 50, .int .i64 100, .int .i64 200, .int .i64 1000]), (q14, 9, [.string ⟨#[65, 66, 49]⟩, .string ⟨#[65, 66, 50]⟩, .string ⟨#[90, 90, 57]⟩])] [⟨.slice pA pn pc, 151, 3, pn, pl.flatMap plEnc⟩, ⟨.slice (some ⟨bv, 0, none⟩) k vc, 57, 2, k, vl.flatMap vhEnc⟩, ⟨.slice sA sn sc, 105, 15, sn, sl.flatMap stEnc⟩] [fun wy => SlT csEnc 2 90 wy cA 4 cl] := by
    intro q1 k2 bk20 bk21 u0 hq0 q14 k15 zk15
    rw [hW]
    refine wa1 17 rfl ?_
    refine wl_alloc zc151 rfl fun g11 => ?_
    refine wl_nil ?_
    refine nw 19 262143 (fun _ hm => ⟨hm.bl 2, hm.bl 1, hm.fa 0, hm.ownI 0 rfl, hm.ownI 1 rfl, hm.ownI 2 rfl, trivial⟩) fun z => ?_
    refine wa1 18 rfl ?_
    refine wl_stores (cs' := [.int .i64 k2, .string u0, .string k15]) 0 rz151 rfl rfl rfl rfl rfl rfl rfl rfl ?_
    refine wl_nil ?_
    refine nw 19 524287 (fun _ hm => ⟨hm.bl 2, hm.bl 1, hm.fa 0, hm.ownI 0 rfl, hm.ownI 1 rfl, hm.ownI 2 rfl, trivial⟩) fun z => ?_
    refine wa_done (by kernel_rfl) ?_
    exact nx_meet (g11, k2, u0, k15) ⟨⟨by dsimp only; omega, by dsimp only; omega⟩, by dsimp only; omega, by dsimp only; omega⟩ ⟨rfl, rfl, rfl, rfl, rfl, rfl, trivial⟩ (fun _ hm => (hm.more rfl (by first | omega | (dsimp only; omega))).pick [0, 2, 1] [0, 1, 2] [0] rfl rfl)
   have T163839 : ∀ (q1 : Nat) (k2 : Int) (bk20 : 0 ≤ k2) (bk21 : k2 ≤ 1000) (u0 : ByteArray) (hq0 : u0.size ≤ 1000) (q14 : Nat) (q17 : Nat), W 3 (lb 19 163839) [(0, .pointer (some ⟨sb, 0, none⟩)), (2, .pointer (some ⟨g1, 0, none⟩)), (3, .pointer (some ⟨g2, 0, none⟩)), (6, .pointer (some ⟨q17, 0, none⟩)), (49, .int .i64 ((R : Nat) : Int)), (50, .int .i64 ((j : Nat) : Int)), (58, .int .i64 k2), (68, .string u0), (69, .pointer (some ⟨sb, 0, none⟩)), (70, .slice (some ⟨q14, 0, none⟩) 3 3)] (fun w => Strm 25 w B sb (m + 140 + 10 * j + 1 + 1)) [(g1, 31, [.slice none 0 0, .slice none 0 0, .slice none 0 0, .slice none 0 0]), (g2, 31, [.slice sA sn sc, .slice cA 4 cc, .slice (some ⟨bv, 0, none⟩) k vc, .slice pA pn pc]), (q1, 3, [.int .i64 0, .int .i64 0, .int .i64 50, .int .i64 100, .int .i64 200, .int .i64 1000]), (q14, 9, [.string ⟨#[65, 66, 49]⟩, .string ⟨#[65, 66, 50]⟩, .string ⟨#[90, 90, 57]⟩]), (q17, 151, [.int .i64 0, .string ⟨#[]⟩, .string ⟨#[]⟩])] [⟨.slice pA pn pc, 151, 3, pn, pl.flatMap plEnc⟩, ⟨.slice (some ⟨bv, 0, none⟩) k vc, 57, 2, k, vl.flatMap vhEnc⟩, ⟨.slice sA sn sc, 105, 15, sn, sl.flatMap stEnc⟩] [fun wy => SlT csEnc 2 90 wy cA 4 cl] := by
    intro q1 k2 bk20 bk21 u0 hq0 q14 q17
    rw [hW]
    refine wa1 15 rfl ?_
    refine wl_got (γ := ByteArray) (val := fun v => .string v) (φ := fun v => v ∈ ([⟨#[65, 66, 49]⟩, ⟨#[65, 66, 50]⟩, ⟨#[90, 90, 57]⟩] : List ByteArray)) rfl cb34 rfl rfl rfl rfl (fun wx hm => (some_any [⟨#[65, 66, 49]⟩, ⟨#[65, 66, 50]⟩, ⟨#[90, 90, 57]⟩] _ _ _ wx B sb _ hm.k (by omega) (by simp) (by simp) (hm.blkI 3 rfl) (hm.neRow 3 rfl rfl))) fun k15 hk15 => ?_
    have zk15 : k15.size ≤ 100 := mem_sz hk15 (by decide)
    refine wl_nil ?_
    refine nw 19 196607 (fun _ hm => ⟨hm.bl 1, hm.bl 0, hm.fa 0, hm.ownI 0 rfl, hm.ownI 1 rfl, hm.ownI 2 rfl, trivial⟩) fun z => ?_
    refine wt 16 19 262143 rfl z (ov_build (cs := [.int .i64 k2, .string u0, .string k15]) rfl (by kernel_rfl)) ?_
    refine wa1 18 rfl ?_
    refine wl_stores (cs' := [.int .i64 k2, .string u0, .string k15]) 4 rz151 rfl rfl rfl rfl rfl rfl rfl rfl ?_
    refine wl_nil ?_
    refine nw 19 524287 (fun _ hm => ⟨hm.bl 1, hm.bl 0, hm.fa 0, hm.ownI 0 rfl, hm.ownI 1 rfl, hm.ownI 2 rfl, trivial⟩) fun z => ?_
    refine wa_done (by kernel_rfl) ?_
    exact nx_meet (q17, k2, u0, k15) ⟨⟨by dsimp only; omega, by dsimp only; omega⟩, by dsimp only; omega, by dsimp only; omega⟩ ⟨rfl, rfl, rfl, rfl, rfl, rfl, trivial⟩ (fun _ hm => (hm.more rfl (by first | omega | (dsimp only; omega))).pick [4, 1, 0] [0, 1, 2] [0] rfl rfl)
   have J32767 : ∀ (q1 : Nat) (k2 : Int) (bk20 : 0 ≤ k2) (bk21 : k2 ≤ 1000) (u0 : ByteArray) (hq0 : u0.size ≤ 1000) (q14 : Nat), W 4 (lb 19 32767) [(0, .pointer (some ⟨sb, 0, none⟩)), (2, .pointer (some ⟨g1, 0, none⟩)), (3, .pointer (some ⟨g2, 0, none⟩)), (49, .int .i64 ((R : Nat) : Int)), (50, .int .i64 ((j : Nat) : Int)), (58, .int .i64 k2), (68, .string u0), (69, .pointer (some ⟨sb, 0, none⟩)), (70, .slice (some ⟨q14, 0, none⟩) 3 3)] (fun w => Strm 25 w B sb (m + 140 + 10 * j + 1 + 1)) [(g1, 31, [.slice none 0 0, .slice none 0 0, .slice none 0 0, .slice none 0 0]), (g2, 31, [.slice sA sn sc, .slice cA 4 cc, .slice (some ⟨bv, 0, none⟩) k vc, .slice pA pn pc]), (q1, 3, [.int .i64 0, .int .i64 0, .int .i64 50, .int .i64 100, .int .i64 200, .int .i64 1000]), (q14, 9, [.string ⟨#[65, 66, 49]⟩, .string ⟨#[65, 66, 50]⟩, .string ⟨#[90, 90, 57]⟩])] [⟨.slice pA pn pc, 151, 3, pn, pl.flatMap plEnc⟩, ⟨.slice (some ⟨bv, 0, none⟩) k vc, 57, 2, k, vl.flatMap vhEnc⟩, ⟨.slice sA sn sc, 105, 15, sn, sl.flatMap stEnc⟩] [fun wy => SlT csEnc 2 90 wy cA 4 cl] := by
    intro q1 k2 bk20 bk21 u0 hq0 q14
    rw [hW]
    refine wa_all [15, 17] (by kernel_rfl) rfl ⟨⟨_, rfl, ?_⟩, ⟨_, rfl, ?_⟩, trivial⟩
    ·refine wl_got (γ := ByteArray) (val := fun v => .string v) (φ := fun v => v ∈ ([⟨#[65, 66, 49]⟩, ⟨#[65, 66, 50]⟩, ⟨#[90, 90, 57]⟩] : List ByteArray)) rfl cb34 rfl rfl rfl rfl (fun wx hm => (some_any [⟨#[65, 66, 49]⟩, ⟨#[65, 66, 50]⟩, ⟨#[90, 90, 57]⟩] _ _ _ wx B sb _ hm.k (by omega) (by simp) (by simp) (hm.blkI 3 rfl) (hm.neRow 3 rfl rfl))) fun k15 hk15 => ?_
     have zk15 : k15.size ≤ 100 := mem_sz hk15 (by decide)
     refine wl_nil ?_
     refine nw 19 65535 (fun _ hm => ⟨hm.bl 1, hm.bl 0, hm.fa 0, hm.ownI 0 rfl, hm.ownI 1 rfl, hm.ownI 2 rfl, trivial⟩) fun z => ?_
     refine wt 16 19 131071 rfl z (ov_build (cs := [.int .i64 k2, .string u0, .string k15]) rfl (by kernel_rfl)) ?_
     have h := T131071 q1 k2 bk20 bk21 u0 hq0 q14 k15 zk15
     rw [hW] at h
     refine wa_weak ?_ ?_ h
     ·exact ⟨rfl, rfl, rfl, rfl, rfl, rfl, trivial⟩
     exact fun _ hm => hm.pick [0, 1, 2, 3] [0, 1, 2] [0] rfl rfl
    refine wl_alloc zc151 rfl fun q17 => ?_
    refine wl_nil ?_
    refine nw 19 163839 (fun _ hm => ⟨hm.bl 2, hm.bl 1, hm.fa 0, hm.ownI 0 rfl, hm.ownI 1 rfl, hm.ownI 2 rfl, trivial⟩) fun z => ?_
    have h := T163839 q1 k2 bk20 bk21 u0 hq0 q14 q17
    rw [hW] at h
    refine wa_weak ?_ ?_ h
    ·exact ⟨rfl, rfl, rfl, rfl, rfl, rfl, rfl, rfl, rfl, rfl, trivial⟩
    exact fun _ hm => hm.pick [1, 2, 3, 4, 0] [0, 1, 2] [0] rfl rfl
   have T147455 : ∀ (q1 : Nat) (k2 : Int) (bk20 : 0 ≤ k2) (bk21 : k2 ≤ 1000) (u0 : ByteArray) (hq0 : u0.size ≤ 1000) (q17 : Nat), W 4 (lb 19 147455) [(0, .pointer (some ⟨sb, 0, none⟩)), (2, .pointer (some ⟨g1, 0, none⟩)), (3, .pointer (some ⟨g2, 0, none⟩)), (6, .pointer (some ⟨q17, 0, none⟩)), (49, .int .i64 ((R : Nat) : Int)), (50, .int .i64 ((j : Nat) : Int)), (58, .int .i64 k2), (68, .string u0), (69, .pointer (some ⟨sb, 0, none⟩))] (fun w => Strm 25 w B sb (m + 140 + 10 * j + 1 + 1)) [(g1, 31, [.slice none 0 0, .slice none 0 0, .slice none 0 0, .slice none 0 0]), (g2, 31, [.slice sA sn sc, .slice cA 4 cc, .slice (some ⟨bv, 0, none⟩) k vc, .slice pA pn pc]), (q1, 3, [.int .i64 0, .int .i64 0, .int .i64 50, .int .i64 100, .int .i64 200, .int .i64 1000]), (q17, 151, [.int .i64 0, .string ⟨#[]⟩, .string ⟨#[]⟩])] [⟨.slice pA pn pc, 151, 3, pn, pl.flatMap plEnc⟩, ⟨.slice (some ⟨bv, 0, none⟩) k vc, 57, 2, k, vl.flatMap vhEnc⟩, ⟨.slice sA sn sc, 105, 15, sn, sl.flatMap stEnc⟩] [fun wy => SlT csEnc 2 90 wy cA 4 cl] := by
    intro q1 k2 bk20 bk21 u0 hq0 q17
    rw [hW]
    refine wa1 14 rfl ?_
    refine wl_buildSlice (e := 9) (cs := [.string ⟨#[65, 66, 49]⟩, .string ⟨#[65, 66, 50]⟩, .string ⟨#[90, 90, 57]⟩]) rfl (by kernel_rfl) rfl fun g12 => ?_
    refine wl_nil ?_
    refine nw 19 163839 (fun _ hm => ⟨hm.bl 2, hm.bl 1, hm.fa 0, hm.ownI 0 rfl, hm.ownI 1 rfl, hm.ownI 2 rfl, trivial⟩) fun z => ?_
    refine wa1 15 rfl ?_
    refine wl_got (γ := ByteArray) (val := fun v => .string v) (φ := fun v => v ∈ ([⟨#[65, 66, 49]⟩, ⟨#[65, 66, 50]⟩, ⟨#[90, 90, 57]⟩] : List ByteArray)) rfl cb34 rfl rfl rfl rfl (fun wx hm => (some_any [⟨#[65, 66, 49]⟩, ⟨#[65, 66, 50]⟩, ⟨#[90, 90, 57]⟩] _ _ _ wx B sb _ hm.k (by omega) (by simp) (by simp) (hm.blkI 0 rfl) (hm.neRow 0 rfl rfl))) fun k15 hk15 => ?_
    have zk15 : k15.size ≤ 100 := mem_sz hk15 (by decide)
    refine wl_nil ?_
    refine nw 19 196607 (fun _ hm => ⟨hm.bl 2, hm.bl 1, hm.fa 0, hm.ownI 0 rfl, hm.ownI 1 rfl, hm.ownI 2 rfl, trivial⟩) fun z => ?_
    refine wt 16 19 262143 rfl z (ov_build (cs := [.int .i64 k2, .string u0, .string k15]) rfl (by kernel_rfl)) ?_
    refine wa1 18 rfl ?_
    refine wl_stores (cs' := [.int .i64 k2, .string u0, .string k15]) 4 rz151 rfl rfl rfl rfl rfl rfl rfl rfl ?_
    refine wl_nil ?_
    refine nw 19 524287 (fun _ hm => ⟨hm.bl 2, hm.bl 1, hm.fa 0, hm.ownI 0 rfl, hm.ownI 1 rfl, hm.ownI 2 rfl, trivial⟩) fun z => ?_
    refine wa_done (by kernel_rfl) ?_
    exact nx_meet (q17, k2, u0, k15) ⟨⟨by dsimp only; omega, by dsimp only; omega⟩, by dsimp only; omega, by dsimp only; omega⟩ ⟨rfl, rfl, rfl, rfl, rfl, rfl, trivial⟩ (fun _ hm => (hm.more rfl (by first | omega | (dsimp only; omega))).pick [4, 2, 1] [0, 1, 2] [0] rfl rfl)
   have J16383 : ∀ (q1 : Nat) (k2 : Int) (bk20 : 0 ≤ k2) (bk21 : k2 ≤ 1000) (u0 : ByteArray) (hq0 : u0.size ≤ 1000), W 5 (lb 19 16383) [(0, .pointer (some ⟨sb, 0, none⟩)), (2, .pointer (some ⟨g1, 0, none⟩)), (3, .pointer (some ⟨g2, 0, none⟩)), (49, .int .i64 ((R : Nat) : Int)), (50, .int .i64 ((j : Nat) : Int)), (58, .int .i64 k2), (68, .string u0), (69, .pointer (some ⟨sb, 0, none⟩))] (fun w => Strm 25 w B sb (m + 140 + 10 * j + 1 + 1)) [(g1, 31, [.slice none 0 0, .slice none 0 0, .slice none 0 0, .slice none 0 0]), (g2, 31, [.slice sA sn sc, .slice cA 4 cc, .slice (some ⟨bv, 0, none⟩) k vc, .slice pA pn pc]), (q1, 3, [.int .i64 0, .int .i64 0, .int .i64 50, .int .i64 100, .int .i64 200, .int .i64 1000])] [⟨.slice pA pn pc, 151, 3, pn, pl.flatMap plEnc⟩, ⟨.slice (some ⟨bv, 0, none⟩) k vc, 57, 2, k, vl.flatMap vhEnc⟩, ⟨.slice sA sn sc, 105, 15, sn, sl.flatMap stEnc⟩] [fun wy => SlT csEnc 2 90 wy cA 4 cl] := by
    intro q1 k2 bk20 bk21 u0 hq0
    rw [hW]
    refine wa_all [14, 17] (by kernel_rfl) rfl ⟨⟨_, rfl, ?_⟩, ⟨_, rfl, ?_⟩, trivial⟩
    ·refine wl_buildSlice (e := 9) (cs := [.string ⟨#[65, 66, 49]⟩, .string ⟨#[65, 66, 50]⟩, .string ⟨#[90, 90, 57]⟩]) rfl (by kernel_rfl) rfl fun q14 => ?_
     refine wl_nil ?_
     refine nw 19 32767 (fun _ hm => ⟨hm.bl 2, hm.bl 1, hm.fa 0, hm.ownI 0 rfl, hm.ownI 1 rfl, hm.ownI 2 rfl, trivial⟩) fun z => ?_
     have h := J32767 q1 k2 bk20 bk21 u0 hq0 q14
     rw [hW] at h
     refine wa_weak ?_ ?_ h
     ·exact ⟨rfl, rfl, rfl, rfl, rfl, rfl, rfl, rfl, rfl, trivial⟩
     exact fun _ hm => hm.pick [1, 2, 3, 0] [0, 1, 2] [0] rfl rfl
    refine wl_alloc zc151 rfl fun q17 => ?_
    refine wl_nil ?_
    refine nw 19 147455 (fun _ hm => ⟨hm.bl 2, hm.bl 1, hm.fa 0, hm.ownI 0 rfl, hm.ownI 1 rfl, hm.ownI 2 rfl, trivial⟩) fun z => ?_
    have h := T147455 q1 k2 bk20 bk21 u0 hq0 q17
    rw [hW] at h
    refine wa_weak ?_ ?_ h
    ·exact ⟨rfl, rfl, rfl, rfl, rfl, rfl, rfl, rfl, rfl, trivial⟩
    exact fun _ hm => hm.pick [1, 2, 3, 0] [0, 1, 2] [0] rfl rfl
   have T156159 : ∀ (q1 : Nat) (k2 : Int) (bk20 : 0 ≤ k2) (bk21 : k2 ≤ 1000) (q14 : Nat) (q17 : Nat), W 7 (lb 19 156159) [(0, .pointer (some ⟨sb, 0, none⟩)), (2, .pointer (some ⟨g1, 0, none⟩)), (3, .pointer (some ⟨g2, 0, none⟩)), (6, .pointer (some ⟨q17, 0, none⟩)), (49, .int .i64 ((R : Nat) : Int)), (50, .int .i64 ((j : Nat) : Int)), (58, .int .i64 k2), (60, .slice (some ⟨bv, 0, none⟩) k vc), (61, .pointer (some ⟨sb, 0, none⟩)), (64, .int .i64 ((k : Nat) : Int)), (69, .pointer (some ⟨sb, 0, none⟩)), (70, .slice (some ⟨q14, 0, none⟩) 3 3)] (fun w => Strm 25 w B sb (m + 140 + 10 * j + 1)) [(g1, 31, [.slice none 0 0, .slice none 0 0, .slice none 0 0, .slice none 0 0]), (g2, 31, [.slice sA sn sc, .slice cA 4 cc, .slice (some ⟨bv, 0, none⟩) k vc, .slice pA pn pc]), (q1, 3, [.int .i64 0, .int .i64 0, .int .i64 50, .int .i64 100, .int .i64 200, .int .i64 1000]), (q14, 9, [.string ⟨#[65, 66, 49]⟩, .string ⟨#[65, 66, 50]⟩, .string ⟨#[90, 90, 57]⟩]), (q17, 151, [.int .i64 0, .string ⟨#[]⟩, .string ⟨#[]⟩])] [⟨.slice pA pn pc, 151, 3, pn, pl.flatMap plEnc⟩, ⟨.slice (some ⟨bv, 0, none⟩) k vc, 57, 2, k, vl.flatMap vhEnc⟩, ⟨.slice sA sn sc, 105, 15, sn, sl.flatMap stEnc⟩] [fun wy => SlT csEnc 2 90 wy cA 4 cl] := by
    intro q1 k2 bk20 bk21 q14 q17
    rw [hW]
    refine wa1 9 rfl ?_
    refine wl_got (γ := Int) (val := fun v => .int .i64 v) (φ := fun v => IsBelow ((k : Nat) : Int) v) rfl cb23 rfl rfl rfl rfl (fun wx hm => (next_any _ wx B sb _ hm.k (by omega) (by omega) (by omega))) fun vj hvj => ?_
    have hj3 := isBelow_lt hvj (by omega)
    obtain ⟨j2, rfl⟩ := Int.eq_ofNat_of_zero_le hj3.1
    have hj2 : j2 < k := by omega
    obtain ⟨q, hq⟩ : ∃ q, vl[j2]? = some q := ⟨_, List.getElem?_eq_getElem (by omega)⟩
    obtain ⟨u0, u1⟩ := q
    have hqB := hvB _ (List.mem_of_getElem? hq)
    have hq0 : u0.size ≤ 1000 := hqB.1
    refine wl_nil ?_
    refine nw 19 156671 (fun _ hm => ⟨hm.bl 1, hm.bl 0, hm.fa 0, hm.ownI 0 rfl, hm.ownI 1 rfl, hm.ownI 2 rfl, trivial⟩) fun z => ?_
    refine wt 10 19 157695 rfl z (ov_index (j := j2) es28 rfl rfl (by omega)) ?_
    refine wt 11 19 159743 rfl z (ov_field fo57_0 rfl rfl) ?_
    refine wt 12 19 163839 rfl z (ov_elem1 (k := 0) (v := .string u0) sc9 rfl (fun _ hm => (SlT.ofOwn vh_len (hm.2.2.2.2.1) hvl)) hq rfl rfl) ?_
    refine wa1 15 rfl ?_
    refine wl_got (γ := ByteArray) (val := fun v => .string v) (φ := fun v => v ∈ ([⟨#[65, 66, 49]⟩, ⟨#[65, 66, 50]⟩, ⟨#[90, 90, 57]⟩] : List ByteArray)) rfl cb34 rfl rfl rfl rfl (fun wx hm => (some_any [⟨#[65, 66, 49]⟩, ⟨#[65, 66, 50]⟩, ⟨#[90, 90, 57]⟩] _ _ _ wx B sb _ hm.k (by omega) (by simp) (by simp) (hm.blkI 3 rfl) (hm.neRow 3 rfl rfl))) fun k15 hk15 => ?_
    have zk15 : k15.size ≤ 100 := mem_sz hk15 (by decide)
    refine wl_nil ?_
    refine nw 19 196607 (fun _ hm => ⟨hm.bl 1, hm.bl 0, hm.fa 0, hm.ownI 0 rfl, hm.ownI 1 rfl, hm.ownI 2 rfl, trivial⟩) fun z => ?_
    refine wt 16 19 262143 rfl z (ov_build (cs := [.int .i64 k2, .string u0, .string k15]) rfl (by kernel_rfl)) ?_
    refine wa1 18 rfl ?_
    refine wl_stores (cs' := [.int .i64 k2, .string u0, .string k15]) 4 rz151 rfl rfl rfl rfl rfl rfl rfl rfl ?_
    refine wl_nil ?_
    refine nw 19 524287 (fun _ hm => ⟨hm.bl 1, hm.bl 0, hm.fa 0, hm.ownI 0 rfl, hm.ownI 1 rfl, hm.ownI 2 rfl, trivial⟩) fun z => ?_
    refine wa_done (by kernel_rfl) ?_
    exact nx_meet (q17, k2, u0, k15) ⟨⟨by dsimp only; omega, by dsimp only; omega⟩, by dsimp only; omega, by dsimp only; omega⟩ ⟨rfl, rfl, rfl, rfl, rfl, rfl, trivial⟩ (fun _ hm => (hm.more rfl (by first | omega | (dsimp only; omega))).pick [4, 1, 0] [0, 1, 2] [0] rfl rfl)
   have J25087 : ∀ (q1 : Nat) (k2 : Int) (bk20 : 0 ≤ k2) (bk21 : k2 ≤ 1000) (q14 : Nat), W 8 (lb 19 25087) [(0, .pointer (some ⟨sb, 0, none⟩)), (2, .pointer (some ⟨g1, 0, none⟩)), (3, .pointer (some ⟨g2, 0, none⟩)), (49, .int .i64 ((R : Nat) : Int)), (50, .int .i64 ((j : Nat) : Int)), (58, .int .i64 k2), (60, .slice (some ⟨bv, 0, none⟩) k vc), (61, .pointer (some ⟨sb, 0, none⟩)), (64, .int .i64 ((k : Nat) : Int)), (69, .pointer (some ⟨sb, 0, none⟩)), (70, .slice (some ⟨q14, 0, none⟩) 3 3)] (fun w => Strm 25 w B sb (m + 140 + 10 * j + 1)) [(g1, 31, [.slice none 0 0, .slice none 0 0, .slice none 0 0, .slice none 0 0]), (g2, 31, [.slice sA sn sc, .slice cA 4 cc, .slice (some ⟨bv, 0, none⟩) k vc, .slice pA pn pc]), (q1, 3, [.int .i64 0, .int .i64 0, .int .i64 50, .int .i64 100, .int .i64 200, .int .i64 1000]), (q14, 9, [.string ⟨#[65, 66, 49]⟩, .string ⟨#[65, 66, 50]⟩, .string ⟨#[90, 90, 57]⟩])] [⟨.slice pA pn pc, 151, 3, pn, pl.flatMap plEnc⟩, ⟨.slice (some ⟨bv, 0, none⟩) k vc, 57, 2, k, vl.flatMap vhEnc⟩, ⟨.slice sA sn sc, 105, 15, sn, sl.flatMap stEnc⟩] [fun wy => SlT csEnc 2 90 wy cA 4 cl] := by
    intro q1 k2 bk20 bk21 q14
    rw [hW]
    refine wa_all [9, 17] (by kernel_rfl) rfl ⟨⟨_, rfl, ?_⟩, ⟨_, rfl, ?_⟩, trivial⟩
    ·refine wl_got (γ := Int) (val := fun v => .int .i64 v) (φ := fun v => IsBelow ((k : Nat) : Int) v) rfl cb23 rfl rfl rfl rfl (fun wx hm => (next_any _ wx B sb _ hm.k (by omega) (by omega) (by omega))) fun vj hvj => ?_
     have hj3 := isBelow_lt hvj (by omega)
     obtain ⟨j2, rfl⟩ := Int.eq_ofNat_of_zero_le hj3.1
     have hj2 : j2 < k := by omega
     obtain ⟨q, hq⟩ : ∃ q, vl[j2]? = some q := ⟨_, List.getElem?_eq_getElem (by omega)⟩
     obtain ⟨u0, u1⟩ := q
     have hqB := hvB _ (List.mem_of_getElem? hq)
     have hq0 : u0.size ≤ 1000 := hqB.1
     refine wl_nil ?_
     refine nw 19 25599 (fun _ hm => ⟨hm.bl 1, hm.bl 0, hm.fa 0, hm.ownI 0 rfl, hm.ownI 1 rfl, hm.ownI 2 rfl, trivial⟩) fun z => ?_
     refine wt 10 19 26623 rfl z (ov_index (j := j2) es28 rfl rfl (by omega)) ?_
     refine wt 11 19 28671 rfl z (ov_field fo57_0 rfl rfl) ?_
     refine wt 12 19 32767 rfl z (ov_elem1 (k := 0) (v := .string u0) sc9 rfl (fun _ hm => (SlT.ofOwn vh_len (hm.2.2.2.2.1) hvl)) hq rfl rfl) ?_
     have h := J32767 q1 k2 bk20 bk21 u0 hq0 q14
     rw [hW] at h
     refine wa_weak ?_ ?_ h
     ·exact ⟨rfl, rfl, rfl, rfl, rfl, rfl, rfl, rfl, rfl, trivial⟩
     exact fun _ hm => hm.pick [0, 1, 2, 3] [0, 1, 2] [0] rfl rfl
    refine wl_alloc zc151 rfl fun q17 => ?_
    refine wl_nil ?_
    refine nw 19 156159 (fun _ hm => ⟨hm.bl 2, hm.bl 1, hm.fa 0, hm.ownI 0 rfl, hm.ownI 1 rfl, hm.ownI 2 rfl, trivial⟩) fun z => ?_
    have h := T156159 q1 k2 bk20 bk21 q14 q17
    rw [hW] at h
    refine wa_weak ?_ ?_ h
    ·exact ⟨rfl, rfl, rfl, rfl, rfl, rfl, rfl, rfl, rfl, rfl, rfl, rfl, trivial⟩
    exact fun _ hm => hm.pick [1, 2, 3, 4, 0] [0, 1, 2] [0] rfl rfl
   have J139775 : ∀ (q1 : Nat) (k2 : Int) (bk20 : 0 ≤ k2) (bk21 : k2 ≤ 1000) (q17 : Nat), W 8 (lb 19 139775) [(0, .pointer (some ⟨sb, 0, none⟩)), (2, .pointer (some ⟨g1, 0, none⟩)), (3, .pointer (some ⟨g2, 0, none⟩)), (6, .pointer (some ⟨q17, 0, none⟩)), (49, .int .i64 ((R : Nat) : Int)), (50, .int .i64 ((j : Nat) : Int)), (58, .int .i64 k2), (60, .slice (some ⟨bv, 0, none⟩) k vc), (61, .pointer (some ⟨sb, 0, none⟩)), (64, .int .i64 ((k : Nat) : Int)), (69, .pointer (some ⟨sb, 0, none⟩))] (fun w => Strm 25 w B sb (m + 140 + 10 * j + 1)) [(g1, 31, [.slice none 0 0, .slice none 0 0, .slice none 0 0, .slice none 0 0]), (g2, 31, [.slice sA sn sc, .slice cA 4 cc, .slice (some ⟨bv, 0, none⟩) k vc, .slice pA pn pc]), (q1, 3, [.int .i64 0, .int .i64 0, .int .i64 50, .int .i64 100, .int .i64 200, .int .i64 1000]), (q17, 151, [.int .i64 0, .string ⟨#[]⟩, .string ⟨#[]⟩])] [⟨.slice pA pn pc, 151, 3, pn, pl.flatMap plEnc⟩, ⟨.slice (some ⟨bv, 0, none⟩) k vc, 57, 2, k, vl.flatMap vhEnc⟩, ⟨.slice sA sn sc, 105, 15, sn, sl.flatMap stEnc⟩] [fun wy => SlT csEnc 2 90 wy cA 4 cl] := by
    intro q1 k2 bk20 bk21 q17
    rw [hW]
    refine wa_all [9, 14] (by kernel_rfl) rfl ⟨⟨_, rfl, ?_⟩, ⟨_, rfl, ?_⟩, trivial⟩
    ·refine wl_got (γ := Int) (val := fun v => .int .i64 v) (φ := fun v => IsBelow ((k : Nat) : Int) v) rfl cb23 rfl rfl rfl rfl (fun wx hm => (next_any _ wx B sb _ hm.k (by omega) (by omega) (by omega))) fun vj hvj => ?_
     have hj3 := isBelow_lt hvj (by omega)
     obtain ⟨j2, rfl⟩ := Int.eq_ofNat_of_zero_le hj3.1
     have hj2 : j2 < k := by omega
     obtain ⟨q, hq⟩ : ∃ q, vl[j2]? = some q := ⟨_, List.getElem?_eq_getElem (by omega)⟩
     obtain ⟨u0, u1⟩ := q
     have hqB := hvB _ (List.mem_of_getElem? hq)
     have hq0 : u0.size ≤ 1000 := hqB.1
     refine wl_nil ?_
     refine nw 19 140287 (fun _ hm => ⟨hm.bl 1, hm.bl 0, hm.fa 0, hm.ownI 0 rfl, hm.ownI 1 rfl, hm.ownI 2 rfl, trivial⟩) fun z => ?_
     refine wt 10 19 141311 rfl z (ov_index (j := j2) es28 rfl rfl (by omega)) ?_
     refine wt 11 19 143359 rfl z (ov_field fo57_0 rfl rfl) ?_
     refine wt 12 19 147455 rfl z (ov_elem1 (k := 0) (v := .string u0) sc9 rfl (fun _ hm => (SlT.ofOwn vh_len (hm.2.2.2.2.1) hvl)) hq rfl rfl) ?_
     have h := T147455 q1 k2 bk20 bk21 u0 hq0 q17
     rw [hW] at h
     refine wa_weak ?_ ?_ h
     ·exact ⟨rfl, rfl, rfl, rfl, rfl, rfl, rfl, rfl, rfl, trivial⟩
     exact fun _ hm => hm.pick [0, 1, 2, 3] [0, 1, 2] [0] rfl rfl
    refine wl_buildSlice (e := 9) (cs := [.string ⟨#[65, 66, 49]⟩, .string ⟨#[65, 66, 50]⟩, .string ⟨#[90, 90, 57]⟩]) rfl (by kernel_rfl) rfl fun q14 => ?_
    refine wl_nil ?_
    refine nw 19 156159 (fun _ hm => ⟨hm.bl 2, hm.bl 1, hm.fa 0, hm.ownI 0 rfl, hm.ownI 1 rfl, hm.ownI 2 rfl, trivial⟩) fun z => ?_
    have h := T156159 q1 k2 bk20 bk21 q14 q17
    rw [hW] at h
    refine wa_weak ?_ ?_ h
    ·exact ⟨rfl, rfl, rfl, rfl, rfl, rfl, rfl, rfl, rfl, rfl, rfl, rfl, trivial⟩
    exact fun _ hm => hm.pick [1, 2, 3, 0, 4] [0, 1, 2] [0] rfl rfl
   have J8703 : ∀ (q1 : Nat) (k2 : Int) (bk20 : 0 ≤ k2) (bk21 : k2 ≤ 1000), W 9 (lb 19 8703) [(0, .pointer (some ⟨sb, 0, none⟩)), (2, .pointer (some ⟨g1, 0, none⟩)), (3, .pointer (some ⟨g2, 0, none⟩)), (49, .int .i64 ((R : Nat) : Int)), (50, .int .i64 ((j : Nat) : Int)), (58, .int .i64 k2), (60, .slice (some ⟨bv, 0, none⟩) k vc), (61, .pointer (some ⟨sb, 0, none⟩)), (64, .int .i64 ((k : Nat) : Int)), (69, .pointer (some ⟨sb, 0, none⟩))] (fun w => Strm 25 w B sb (m + 140 + 10 * j + 1)) [(g1, 31, [.slice none 0 0, .slice none 0 0, .slice none 0 0, .slice none 0 0]), (g2, 31, [.slice sA sn sc, .slice cA 4 cc, .slice (some ⟨bv, 0, none⟩) k vc, .slice pA pn pc]), (q1, 3, [.int .i64 0, .int .i64 0, .int .i64 50, .int .i64 100, .int .i64 200, .int .i64 1000])] [⟨.slice pA pn pc, 151, 3, pn, pl.flatMap plEnc⟩, ⟨.slice (some ⟨bv, 0, none⟩) k vc, 57, 2, k, vl.flatMap vhEnc⟩, ⟨.slice sA sn sc, 105, 15, sn, sl.flatMap stEnc⟩] [fun wy => SlT csEnc 2 90 wy cA 4 cl] := by
    intro q1 k2 bk20 bk21
    rw [hW]
    refine wa_all [9, 14, 17] (by kernel_rfl) rfl ⟨⟨_, rfl, ?_⟩, ⟨_, rfl, ?_⟩, ⟨_, rfl, ?_⟩, trivial⟩
    ·refine wl_got (γ := Int) (val := fun v => .int .i64 v) (φ := fun v => IsBelow ((k : Nat) : Int) v) rfl cb23 rfl rfl rfl rfl (fun wx hm => (next_any _ wx B sb _ hm.k (by omega) (by omega) (by omega))) fun vj hvj => ?_
     have hj3 := isBelow_lt hvj (by omega)
     obtain ⟨j2, rfl⟩ := Int.eq_ofNat_of_zero_le hj3.1
     have hj2 : j2 < k := by omega
     obtain ⟨q, hq⟩ : ∃ q, vl[j2]? = some q := ⟨_, List.getElem?_eq_getElem (by omega)⟩
     obtain ⟨u0, u1⟩ := q
     have hqB := hvB _ (List.mem_of_getElem? hq)
     have hq0 : u0.size ≤ 1000 := hqB.1
     refine wl_nil ?_
     refine nw 19 9215 (fun _ hm => ⟨hm.bl 1, hm.bl 0, hm.fa 0, hm.ownI 0 rfl, hm.ownI 1 rfl, hm.ownI 2 rfl, trivial⟩) fun z => ?_
     refine wt 10 19 10239 rfl z (ov_index (j := j2) es28 rfl rfl (by omega)) ?_
     refine wt 11 19 12287 rfl z (ov_field fo57_0 rfl rfl) ?_
     refine wt 12 19 16383 rfl z (ov_elem1 (k := 0) (v := .string u0) sc9 rfl (fun _ hm => (SlT.ofOwn vh_len (hm.2.2.2.2.1) hvl)) hq rfl rfl) ?_
     have h := J16383 q1 k2 bk20 bk21 u0 hq0
     rw [hW] at h
     refine wa_weak ?_ ?_ h
     ·exact ⟨rfl, rfl, rfl, rfl, rfl, rfl, rfl, rfl, trivial⟩
     exact fun _ hm => hm.pick [0, 1, 2] [0, 1, 2] [0] rfl rfl
    ·refine wl_buildSlice (e := 9) (cs := [.string ⟨#[65, 66, 49]⟩, .string ⟨#[65, 66, 50]⟩, .string ⟨#[90, 90, 57]⟩]) rfl (by kernel_rfl) rfl fun q14 => ?_
     refine wl_nil ?_
     refine nw 19 25087 (fun _ hm => ⟨hm.bl 2, hm.bl 1, hm.fa 0, hm.ownI 0 rfl, hm.ownI 1 rfl, hm.ownI 2 rfl, trivial⟩) fun z => ?_
     have h := J25087 q1 k2 bk20 bk21 q14
     rw [hW] at h
     refine wa_weak ?_ ?_ h
     ·exact ⟨rfl, rfl, rfl, rfl, rfl, rfl, rfl, rfl, rfl, rfl, rfl, trivial⟩
     exact fun _ hm => hm.pick [1, 2, 3, 0] [0, 1, 2] [0] rfl rfl
    refine wl_alloc zc151 rfl fun q17 => ?_
    refine wl_nil ?_
    refine nw 19 139775 (fun _ hm => ⟨hm.bl 2, hm.bl 1, hm.fa 0, hm.ownI 0 rfl, hm.ownI 1 rfl, hm.ownI 2 rfl, trivial⟩) fun z => ?_
    have h := J139775 q1 k2 bk20 bk21 q17
    rw [hW] at h
    refine wa_weak ?_ ?_ h
    ·exact ⟨rfl, rfl, rfl, rfl, rfl, rfl, rfl, rfl, rfl, rfl, rfl, trivial⟩
    exact fun _ hm => hm.pick [1, 2, 3, 0] [0, 1, 2] [0] rfl rfl
   have T156155 : ∀ (q1 : Nat) (q14 : Nat) (q17 : Nat), W 8 (lb 19 156155) [(0, .pointer (some ⟨sb, 0, none⟩)), (2, .pointer (some ⟨g1, 0, none⟩)), (3, .pointer (some ⟨g2, 0, none⟩)), (6, .pointer (some ⟨q17, 0, none⟩)), (49, .int .i64 ((R : Nat) : Int)), (50, .int .i64 ((j : Nat) : Int)), (56, .pointer (some ⟨sb, 0, none⟩)), (57, .slice (some ⟨q1, 0, none⟩) 6 6), (60, .slice (some ⟨bv, 0, none⟩) k vc), (61, .pointer (some ⟨sb, 0, none⟩)), (64, .int .i64 ((k : Nat) : Int)), (69, .pointer (some ⟨sb, 0, none⟩)), (70, .slice (some ⟨q14, 0, none⟩) 3 3)] (fun w => Strm 25 w B sb (m + 140 + 10 * j)) [(g1, 31, [.slice none 0 0, .slice none 0 0, .slice none 0 0, .slice none 0 0]), (g2, 31, [.slice sA sn sc, .slice cA 4 cc, .slice (some ⟨bv, 0, none⟩) k vc, .slice pA pn pc]), (q1, 3, [.int .i64 0, .int .i64 0, .int .i64 50, .int .i64 100, .int .i64 200, .int .i64 1000]), (q14, 9, [.string ⟨#[65, 66, 49]⟩, .string ⟨#[65, 66, 50]⟩, .string ⟨#[90, 90, 57]⟩]), (q17, 151, [.int .i64 0, .string ⟨#[]⟩, .string ⟨#[]⟩])] [⟨.slice pA pn pc, 151, 3, pn, pl.flatMap plEnc⟩, ⟨.slice (some ⟨bv, 0, none⟩) k vc, 57, 2, k, vl.flatMap vhEnc⟩, ⟨.slice sA sn sc, 105, 15, sn, sl.flatMap stEnc⟩] [fun wy => SlT csEnc 2 90 wy cA 4 cl] := by
    intro q1 q14 q17
    rw [hW]
    refine wa1 2 rfl ?_
    refine wl_got (γ := Int) (val := fun v => .int .i64 v) (φ := fun v => v ∈ ([0, 0, 50, 100, 200, 1000] : List Int)) rfl cb57 rfl rfl rfl rfl (fun wx hm => (pick_any [0, 0, 50, 100, 200, 1000] _ _ _ wx B sb _ hm.k (by omega) (by simp) (by simp) (hm.blkI 2 rfl) (hm.neRow 2 rfl rfl))) fun k2 hk2 => ?_
    have bk2 : 0 ≤ k2 ∧ k2 ≤ 1000 := mem_rng hk2 (by decide)
    have bk20 := bk2.1
    have bk21 := bk2.2
    clear bk2
    refine wl_nil ?_
    refine nw 19 156159 (fun _ hm => ⟨hm.bl 1, hm.bl 0, hm.fa 0, hm.ownI 0 rfl, hm.ownI 1 rfl, hm.ownI 2 rfl, trivial⟩) fun z => ?_
    refine wa1 9 rfl ?_
    refine wl_got (γ := Int) (val := fun v => .int .i64 v) (φ := fun v => IsBelow ((k : Nat) : Int) v) rfl cb23 rfl rfl rfl rfl (fun wx hm => (next_any _ wx B sb _ hm.k (by omega) (by omega) (by omega))) fun vj hvj => ?_
    have hj3 := isBelow_lt hvj (by omega)
    obtain ⟨j2, rfl⟩ := Int.eq_ofNat_of_zero_le hj3.1
    have hj2 : j2 < k := by omega
    obtain ⟨q, hq⟩ : ∃ q, vl[j2]? = some q := ⟨_, List.getElem?_eq_getElem (by omega)⟩
    obtain ⟨u0, u1⟩ := q
    have hqB := hvB _ (List.mem_of_getElem? hq)
    have hq0 : u0.size ≤ 1000 := hqB.1
    refine wl_nil ?_
    refine nw 19 156671 (fun _ hm => ⟨hm.bl 1, hm.bl 0, hm.fa 0, hm.ownI 0 rfl, hm.ownI 1 rfl, hm.ownI 2 rfl, trivial⟩) fun z => ?_
    refine wt 10 19 157695 rfl z (ov_index (j := j2) es28 rfl rfl (by omega)) ?_
    refine wt 11 19 159743 rfl z (ov_field fo57_0 rfl rfl) ?_
    refine wt 12 19 163839 rfl z (ov_elem1 (k := 0) (v := .string u0) sc9 rfl (fun _ hm => (SlT.ofOwn vh_len (hm.2.2.2.2.1) hvl)) hq rfl rfl) ?_
    refine wa1 15 rfl ?_
    refine wl_got (γ := ByteArray) (val := fun v => .string v) (φ := fun v => v ∈ ([⟨#[65, 66, 49]⟩, ⟨#[65, 66, 50]⟩, ⟨#[90, 90, 57]⟩] : List ByteArray)) rfl cb34 rfl rfl rfl rfl (fun wx hm => (some_any [⟨#[65, 66, 49]⟩, ⟨#[65, 66, 50]⟩, ⟨#[90, 90, 57]⟩] _ _ _ wx B sb _ hm.k (by omega) (by simp) (by simp) (hm.blkI 3 rfl) (hm.neRow 3 rfl rfl))) fun k15 hk15 => ?_
    have zk15 : k15.size ≤ 100 := mem_sz hk15 (by decide)
    refine wl_nil ?_
    refine nw 19 196607 (fun _ hm => ⟨hm.bl 1, hm.bl 0, hm.fa 0, hm.ownI 0 rfl, hm.ownI 1 rfl, hm.ownI 2 rfl, trivial⟩) fun z => ?_
    refine wt 16 19 262143 rfl z (ov_build (cs := [.int .i64 k2, .string u0, .string k15]) rfl (by kernel_rfl)) ?_
    refine wa1 18 rfl ?_
    refine wl_stores (cs' := [.int .i64 k2, .string u0, .string k15]) 4 rz151 rfl rfl rfl rfl rfl rfl rfl rfl ?_
    refine wl_nil ?_
    refine nw 19 524287 (fun _ hm => ⟨hm.bl 1, hm.bl 0, hm.fa 0, hm.ownI 0 rfl, hm.ownI 1 rfl, hm.ownI 2 rfl, trivial⟩) fun z => ?_
    refine wa_done (by kernel_rfl) ?_
    exact nx_meet (q17, k2, u0, k15) ⟨⟨by dsimp only; omega, by dsimp only; omega⟩, by dsimp only; omega, by dsimp only; omega⟩ ⟨rfl, rfl, rfl, rfl, rfl, rfl, trivial⟩ (fun _ hm => (hm.more rfl (by first | omega | (dsimp only; omega))).pick [4, 1, 0] [0, 1, 2] [0] rfl rfl)
   have J25083 : ∀ (q1 : Nat) (q14 : Nat), W 9 (lb 19 25083) [(0, .pointer (some ⟨sb, 0, none⟩)), (2, .pointer (some ⟨g1, 0, none⟩)), (3, .pointer (some ⟨g2, 0, none⟩)), (49, .int .i64 ((R : Nat) : Int)), (50, .int .i64 ((j : Nat) : Int)), (56, .pointer (some ⟨sb, 0, none⟩)), (57, .slice (some ⟨q1, 0, none⟩) 6 6), (60, .slice (some ⟨bv, 0, none⟩) k vc), (61, .pointer (some ⟨sb, 0, none⟩)), (64, .int .i64 ((k : Nat) : Int)), (69, .pointer (some ⟨sb, 0, none⟩)), (70, .slice (some ⟨q14, 0, none⟩) 3 3)] (fun w => Strm 25 w B sb (m + 140 + 10 * j)) [(g1, 31, [.slice none 0 0, .slice none 0 0, .slice none 0 0, .slice none 0 0]), (g2, 31, [.slice sA sn sc, .slice cA 4 cc, .slice (some ⟨bv, 0, none⟩) k vc, .slice pA pn pc]), (q1, 3, [.int .i64 0, .int .i64 0, .int .i64 50, .int .i64 100, .int .i64 200, .int .i64 1000]), (q14, 9, [.string ⟨#[65, 66, 49]⟩, .string ⟨#[65, 66, 50]⟩, .string ⟨#[90, 90, 57]⟩])] [⟨.slice pA pn pc, 151, 3, pn, pl.flatMap plEnc⟩, ⟨.slice (some ⟨bv, 0, none⟩) k vc, 57, 2, k, vl.flatMap vhEnc⟩, ⟨.slice sA sn sc, 105, 15, sn, sl.flatMap stEnc⟩] [fun wy => SlT csEnc 2 90 wy cA 4 cl] := by
    intro q1 q14
    rw [hW]
    refine wa_all [2, 17] (by kernel_rfl) rfl ⟨⟨_, rfl, ?_⟩, ⟨_, rfl, ?_⟩, trivial⟩
    ·refine wl_got (γ := Int) (val := fun v => .int .i64 v) (φ := fun v => v ∈ ([0, 0, 50, 100, 200, 1000] : List Int)) rfl cb57 rfl rfl rfl rfl (fun wx hm => (pick_any [0, 0, 50, 100, 200, 1000] _ _ _ wx B sb _ hm.k (by omega) (by simp) (by simp) (hm.blkI 2 rfl) (hm.neRow 2 rfl rfl))) fun k2 hk2 => ?_
     have bk2 : 0 ≤ k2 ∧ k2 ≤ 1000 := mem_rng hk2 (by decide)
     have bk20 := bk2.1
     have bk21 := bk2.2
     clear bk2
     refine wl_nil ?_
     refine nw 19 25087 (fun _ hm => ⟨hm.bl 1, hm.bl 0, hm.fa 0, hm.ownI 0 rfl, hm.ownI 1 rfl, hm.ownI 2 rfl, trivial⟩) fun z => ?_
     have h := J25087 q1 k2 bk20 bk21 q14
     rw [hW] at h
     refine wa_weak ?_ ?_ h
     ·exact ⟨rfl, rfl, rfl, rfl, rfl, rfl, rfl, rfl, rfl, rfl, rfl, trivial⟩
     exact fun _ hm => hm.pick [0, 1, 2, 3] [0, 1, 2] [0] rfl rfl
    refine wl_alloc zc151 rfl fun q17 => ?_
    refine wl_nil ?_
    refine nw 19 156155 (fun _ hm => ⟨hm.bl 2, hm.bl 1, hm.fa 0, hm.ownI 0 rfl, hm.ownI 1 rfl, hm.ownI 2 rfl, trivial⟩) fun z => ?_
    have h := T156155 q1 q14 q17
    rw [hW] at h
    refine wa_weak ?_ ?_ h
    ·exact ⟨rfl, rfl, rfl, rfl, rfl, rfl, rfl, rfl, rfl, rfl, rfl, rfl, rfl, trivial⟩
    exact fun _ hm => hm.pick [1, 2, 3, 4, 0] [0, 1, 2] [0] rfl rfl
   have J139771 : ∀ (q1 : Nat) (q17 : Nat), W 9 (lb 19 139771) [(0, .pointer (some ⟨sb, 0, none⟩)), (2, .pointer (some ⟨g1, 0, none⟩)), (3, .pointer (some ⟨g2, 0, none⟩)), (6, .pointer (some ⟨q17, 0, none⟩)), (49, .int .i64 ((R : Nat) : Int)), (50, .int .i64 ((j : Nat) : Int)), (56, .pointer (some ⟨sb, 0, none⟩)), (57, .slice (some ⟨q1, 0, none⟩) 6 6), (60, .slice (some ⟨bv, 0, none⟩) k vc), (61, .pointer (some ⟨sb, 0, none⟩)), (64, .int .i64 ((k : Nat) : Int)), (69, .pointer (some ⟨sb, 0, none⟩))] (fun w => Strm 25 w B sb (m + 140 + 10 * j)) [(g1, 31, [.slice none 0 0, .slice none 0 0, .slice none 0 0, .slice none 0 0]), (g2, 31, [.slice sA sn sc, .slice cA 4 cc, .slice (some ⟨bv, 0, none⟩) k vc, .slice pA pn pc]), (q1, 3, [.int .i64 0, .int .i64 0, .int .i64 50, .int .i64 100, .int .i64 200, .int .i64 1000]), (q17, 151, [.int .i64 0, .string ⟨#[]⟩, .string ⟨#[]⟩])] [⟨.slice pA pn pc, 151, 3, pn, pl.flatMap plEnc⟩, ⟨.slice (some ⟨bv, 0, none⟩) k vc, 57, 2, k, vl.flatMap vhEnc⟩, ⟨.slice sA sn sc, 105, 15, sn, sl.flatMap stEnc⟩] [fun wy => SlT csEnc 2 90 wy cA 4 cl] := by
    intro q1 q17
    rw [hW]
    refine wa_all [2, 14] (by kernel_rfl) rfl ⟨⟨_, rfl, ?_⟩, ⟨_, rfl, ?_⟩, trivial⟩
    ·refine wl_got (γ := Int) (val := fun v => .int .i64 v) (φ := fun v => v ∈ ([0, 0, 50, 100, 200, 1000] : List Int)) rfl cb57 rfl rfl rfl rfl (fun wx hm => (pick_any [0, 0, 50, 100, 200, 1000] _ _ _ wx B sb _ hm.k (by omega) (by simp) (by simp) (hm.blkI 2 rfl) (hm.neRow 2 rfl rfl))) fun k2 hk2 => ?_
     have bk2 : 0 ≤ k2 ∧ k2 ≤ 1000 := mem_rng hk2 (by decide)
     have bk20 := bk2.1
     have bk21 := bk2.2
     clear bk2
     refine wl_nil ?_
     refine nw 19 139775 (fun _ hm => ⟨hm.bl 1, hm.bl 0, hm.fa 0, hm.ownI 0 rfl, hm.ownI 1 rfl, hm.ownI 2 rfl, trivial⟩) fun z => ?_
     have h := J139775 q1 k2 bk20 bk21 q17
     rw [hW] at h
     refine wa_weak ?_ ?_ h
     ·exact ⟨rfl, rfl, rfl, rfl, rfl, rfl, rfl, rfl, rfl, rfl, rfl, trivial⟩
     exact fun _ hm => hm.pick [0, 1, 2, 3] [0, 1, 2] [0] rfl rfl
    refine wl_buildSlice (e := 9) (cs := [.string ⟨#[65, 66, 49]⟩, .string ⟨#[65, 66, 50]⟩, .string ⟨#[90, 90, 57]⟩]) rfl (by kernel_rfl) rfl fun q14 => ?_
    refine wl_nil ?_
    refine nw 19 156155 (fun _ hm => ⟨hm.bl 2, hm.bl 1, hm.fa 0, hm.ownI 0 rfl, hm.ownI 1 rfl, hm.ownI 2 rfl, trivial⟩) fun z => ?_
    have h := T156155 q1 q14 q17
    rw [hW] at h
    refine wa_weak ?_ ?_ h
    ·exact ⟨rfl, rfl, rfl, rfl, rfl, rfl, rfl, rfl, rfl, rfl, rfl, rfl, rfl, trivial⟩
    exact fun _ hm => hm.pick [1, 2, 3, 0, 4] [0, 1, 2] [0] rfl rfl
   have J8699 : ∀ (q1 : Nat), W 10 (lb 19 8699) [(0, .pointer (some ⟨sb, 0, none⟩)), (2, .pointer (some ⟨g1, 0, none⟩)), (3, .pointer (some ⟨g2, 0, none⟩)), (49, .int .i64 ((R : Nat) : Int)), (50, .int .i64 ((j : Nat) : Int)), (56, .pointer (some ⟨sb, 0, none⟩)), (57, .slice (some ⟨q1, 0, none⟩) 6 6), (60, .slice (some ⟨bv, 0, none⟩) k vc), (61, .pointer (some ⟨sb, 0, none⟩)), (64, .int .i64 ((k : Nat) : Int)), (69, .pointer (some ⟨sb, 0, none⟩))] (fun w => Strm 25 w B sb (m + 140 + 10 * j)) [(g1, 31, [.slice none 0 0, .slice none 0 0, .slice none 0 0, .slice none 0 0]), (g2, 31, [.slice sA sn sc, .slice cA 4 cc, .slice (some ⟨bv, 0, none⟩) k vc, .slice pA pn pc]), (q1, 3, [.int .i64 0, .int .i64 0, .int .i64 50, .int .i64 100, .int .i64 200, .int .i64 1000])] [⟨.slice pA pn pc, 151, 3, pn, pl.flatMap plEnc⟩, ⟨.slice (some ⟨bv, 0, none⟩) k vc, 57, 2, k, vl.flatMap vhEnc⟩, ⟨.slice sA sn sc, 105, 15, sn, sl.flatMap stEnc⟩] [fun wy => SlT csEnc 2 90 wy cA 4 cl] := by
    intro q1
    rw [hW]
    refine wa_all [2, 14, 17] (by kernel_rfl) rfl ⟨⟨_, rfl, ?_⟩, ⟨_, rfl, ?_⟩, ⟨_, rfl, ?_⟩, trivial⟩
    ·refine wl_got (γ := Int) (val := fun v => .int .i64 v) (φ := fun v => v ∈ ([0, 0, 50, 100, 200, 1000] : List Int)) rfl cb57 rfl rfl rfl rfl (fun wx hm => (pick_any [0, 0, 50, 100, 200, 1000] _ _ _ wx B sb _ hm.k (by omega) (by simp) (by simp) (hm.blkI 2 rfl) (hm.neRow 2 rfl rfl))) fun k2 hk2 => ?_
     have bk2 : 0 ≤ k2 ∧ k2 ≤ 1000 := mem_rng hk2 (by decide)
     have bk20 := bk2.1
     have bk21 := bk2.2
     clear bk2
     refine wl_nil ?_
     refine nw 19 8703 (fun _ hm => ⟨hm.bl 1, hm.bl 0, hm.fa 0, hm.ownI 0 rfl, hm.ownI 1 rfl, hm.ownI 2 rfl, trivial⟩) fun z => ?_
     have h := J8703 q1 k2 bk20 bk21
     rw [hW] at h
     refine wa_weak ?_ ?_ h
     ·exact ⟨rfl, rfl, rfl, rfl, rfl, rfl, rfl, rfl, rfl, rfl, trivial⟩
     exact fun _ hm => hm.pick [0, 1, 2] [0, 1, 2] [0] rfl rfl
    ·refine wl_buildSlice (e := 9) (cs := [.string ⟨#[65, 66, 49]⟩, .string ⟨#[65, 66, 50]⟩, .string ⟨#[90, 90, 57]⟩]) rfl (by kernel_rfl) rfl fun q14 => ?_
     refine wl_nil ?_
     refine nw 19 25083 (fun _ hm => ⟨hm.bl 2, hm.bl 1, hm.fa 0, hm.ownI 0 rfl, hm.ownI 1 rfl, hm.ownI 2 rfl, trivial⟩) fun z => ?_
     have h := J25083 q1 q14
     rw [hW] at h
     refine wa_weak ?_ ?_ h
     ·exact ⟨rfl, rfl, rfl, rfl, rfl, rfl, rfl, rfl, rfl, rfl, rfl, rfl, trivial⟩
     exact fun _ hm => hm.pick [1, 2, 3, 0] [0, 1, 2] [0] rfl rfl
    refine wl_alloc zc151 rfl fun q17 => ?_
    refine wl_nil ?_
    refine nw 19 139771 (fun _ hm => ⟨hm.bl 2, hm.bl 1, hm.fa 0, hm.ownI 0 rfl, hm.ownI 1 rfl, hm.ownI 2 rfl, trivial⟩) fun z => ?_
    have h := J139771 q1 q17
    rw [hW] at h
    refine wa_weak ?_ ?_ h
    ·exact ⟨rfl, rfl, rfl, rfl, rfl, rfl, rfl, rfl, rfl, rfl, rfl, rfl, trivial⟩
    exact fun _ hm => hm.pick [1, 2, 3, 0] [0, 1, 2] [0] rfl rfl
   have T156153 : ∀ (q14 : Nat) (q17 : Nat), W 9 (lb 19 156153) [(0, .pointer (some ⟨sb, 0, none⟩)), (2, .pointer (some ⟨g1, 0, none⟩)), (3, .pointer (some ⟨g2, 0, none⟩)), (6, .pointer (some ⟨q17, 0, none⟩)), (49, .int .i64 ((R : Nat) : Int)), (50, .int .i64 ((j : Nat) : Int)), (56, .pointer (some ⟨sb, 0, none⟩)), (60, .slice (some ⟨bv, 0, none⟩) k vc), (61, .pointer (some ⟨sb, 0, none⟩)), (64, .int .i64 ((k : Nat) : Int)), (69, .pointer (some ⟨sb, 0, none⟩)), (70, .slice (some ⟨q14, 0, none⟩) 3 3)] (fun w => Strm 25 w B sb (m + 140 + 10 * j)) [(g1, 31, [.slice none 0 0, .slice none 0 0, .slice none 0 0, .slice none 0 0]), (g2, 31, [.slice sA sn sc, .slice cA 4 cc, .slice (some ⟨bv, 0, none⟩) k vc, .slice pA pn pc]), (q14, 9, [.string ⟨#[65, 66, 49]⟩, .string ⟨#[65, 66, 50]⟩, .string ⟨#[90, 90, 57]⟩]), (q17, 151, [.int .i64 0, .string ⟨#[]⟩, .string ⟨#[]⟩])] [⟨.slice pA pn pc, 151, 3, pn, pl.flatMap plEnc⟩, ⟨.slice (some ⟨bv, 0, none⟩) k vc, 57, 2, k, vl.flatMap vhEnc⟩, ⟨.slice sA sn sc, 105, 15, sn, sl.flatMap stEnc⟩] [fun wy => SlT csEnc 2 90 wy cA 4 cl] := by
    intro q14 q17
    rw [hW]
    refine wa1 1 rfl ?_
    refine wl_buildSlice (e := 3) (cs := [.int .i64 0, .int .i64 0, .int .i64 50, .int .i64 100, .int .i64 200, .int .i64 1000]) rfl (by kernel_rfl) rfl fun g13 => ?_
    refine wl_nil ?_
    refine nw 19 156155 (fun _ hm => ⟨hm.bl 2, hm.bl 1, hm.fa 0, hm.ownI 0 rfl, hm.ownI 1 rfl, hm.ownI 2 rfl, trivial⟩) fun z => ?_
    refine wa1 2 rfl ?_
    refine wl_got (γ := Int) (val := fun v => .int .i64 v) (φ := fun v => v ∈ ([0, 0, 50, 100, 200, 1000] : List Int)) rfl cb57 rfl rfl rfl rfl (fun wx hm => (pick_any [0, 0, 50, 100, 200, 1000] _ _ _ wx B sb _ hm.k (by omega) (by simp) (by simp) (hm.blkI 0 rfl) (hm.neRow 0 rfl rfl))) fun k2 hk2 => ?_
    have bk2 : 0 ≤ k2 ∧ k2 ≤ 1000 := mem_rng hk2 (by decide)
    have bk20 := bk2.1
    have bk21 := bk2.2
    clear bk2
    refine wl_nil ?_
    refine nw 19 156159 (fun _ hm => ⟨hm.bl 2, hm.bl 1, hm.fa 0, hm.ownI 0 rfl, hm.ownI 1 rfl, hm.ownI 2 rfl, trivial⟩) fun z => ?_
    refine wa1 9 rfl ?_
    refine wl_got (γ := Int) (val := fun v => .int .i64 v) (φ := fun v => IsBelow ((k : Nat) : Int) v) rfl cb23 rfl rfl rfl rfl (fun wx hm => (next_any _ wx B sb _ hm.k (by omega) (by omega) (by omega))) fun vj hvj => ?_
    have hj3 := isBelow_lt hvj (by omega)
    obtain ⟨j2, rfl⟩ := Int.eq_ofNat_of_zero_le hj3.1
    have hj2 : j2 < k := by omega
    obtain ⟨q, hq⟩ : ∃ q, vl[j2]? = some q := ⟨_, List.getElem?_eq_getElem (by omega)⟩
    obtain ⟨u0, u1⟩ := q
    have hqB := hvB _ (List.mem_of_getElem? hq)
    have hq0 : u0.size ≤ 1000 := hqB.1
    refine wl_nil ?_
    refine nw 19 156671 (fun _ hm => ⟨hm.bl 2, hm.bl 1, hm.fa 0, hm.ownI 0 rfl, hm.ownI 1 rfl, hm.ownI 2 rfl, trivial⟩) fun z => ?_
    refine wt 10 19 157695 rfl z (ov_index (j := j2) es28 rfl rfl (by omega)) ?_
    refine wt 11 19 159743 rfl z (ov_field fo57_0 rfl rfl) ?_
    refine wt 12 19 163839 rfl z (ov_elem1 (k := 0) (v := .string u0) sc9 rfl (fun _ hm => (SlT.ofOwn vh_len (hm.2.2.2.2.1) hvl)) hq rfl rfl) ?_
    refine wa1 15 rfl ?_
    refine wl_got (γ := ByteArray) (val := fun v => .string v) (φ := fun v => v ∈ ([⟨#[65, 66, 49]⟩, ⟨#[65, 66, 50]⟩, ⟨#[90, 90, 57]⟩] : List ByteArray)) rfl cb34 rfl rfl rfl rfl (fun wx hm => (some_any [⟨#[65, 66, 49]⟩, ⟨#[65, 66, 50]⟩, ⟨#[90, 90, 57]⟩] _ _ _ wx B sb _ hm.k (by omega) (by simp) (by simp) (hm.blkI 3 rfl) (hm.neRow 3 rfl rfl))) fun k15 hk15 => ?_
    have zk15 : k15.size ≤ 100 := mem_sz hk15 (by decide)
    refine wl_nil ?_
    refine nw 19 196607 (fun _ hm => ⟨hm.bl 2, hm.bl 1, hm.fa 0, hm.ownI 0 rfl, hm.ownI 1 rfl, hm.ownI 2 rfl, trivial⟩) fun z => ?_
    refine wt 16 19 262143 rfl z (ov_build (cs := [.int .i64 k2, .string u0, .string k15]) rfl (by kernel_rfl)) ?_
    refine wa1 18 rfl ?_
    refine wl_stores (cs' := [.int .i64 k2, .string u0, .string k15]) 4 rz151 rfl rfl rfl rfl rfl rfl rfl rfl ?_
    refine wl_nil ?_
    refine nw 19 524287 (fun _ hm => ⟨hm.bl 2, hm.bl 1, hm.fa 0, hm.ownI 0 rfl, hm.ownI 1 rfl, hm.ownI 2 rfl, trivial⟩) fun z => ?_
    refine wa_done (by kernel_rfl) ?_
    exact nx_meet (q17, k2, u0, k15) ⟨⟨by dsimp only; omega, by dsimp only; omega⟩, by dsimp only; omega, by dsimp only; omega⟩ ⟨rfl, rfl, rfl, rfl, rfl, rfl, trivial⟩ (fun _ hm => (hm.more rfl (by first | omega | (dsimp only; omega))).pick [4, 2, 1] [0, 1, 2] [0] rfl rfl)
   have J25081 : ∀ (q14 : Nat), W 10 (lb 19 25081) [(0, .pointer (some ⟨sb, 0, none⟩)), (2, .pointer (some ⟨g1, 0, none⟩)), (3, .pointer (some ⟨g2, 0, none⟩)), (49, .int .i64 ((R : Nat) : Int)), (50, .int .i64 ((j : Nat) : Int)), (56, .pointer (some ⟨sb, 0, none⟩)), (60, .slice (some ⟨bv, 0, none⟩) k vc), (61, .pointer (some ⟨sb, 0, none⟩)), (64, .int .i64 ((k : Nat) : Int)), (69, .pointer (some ⟨sb, 0, none⟩)), (70, .slice (some ⟨q14, 0, none⟩) 3 3)] (fun w => Strm 25 w B sb (m + 140 + 10 * j)) [(g1, 31, [.slice none 0 0, .slice none 0 0, .slice none 0 0, .slice none 0 0]), (g2, 31, [.slice sA sn sc, .slice cA 4 cc, .slice (some ⟨bv, 0, none⟩) k vc, .slice pA pn pc]), (q14, 9, [.string ⟨#[65, 66, 49]⟩, .string ⟨#[65, 66, 50]⟩, .string ⟨#[90, 90, 57]⟩])] [⟨.slice pA pn pc, 151, 3, pn, pl.flatMap plEnc⟩, ⟨.slice (some ⟨bv, 0, none⟩) k vc, 57, 2, k, vl.flatMap vhEnc⟩, ⟨.slice sA sn sc, 105, 15, sn, sl.flatMap stEnc⟩] [fun wy => SlT csEnc 2 90 wy cA 4 cl] := by
    intro q14
    rw [hW]
    refine wa_all [1, 17] (by kernel_rfl) rfl ⟨⟨_, rfl, ?_⟩, ⟨_, rfl, ?_⟩, trivial⟩
    ·refine wl_buildSlice (e := 3) (cs := [.int .i64 0, .int .i64 0, .int .i64 50, .int .i64 100, .int .i64 200, .int .i64 1000]) rfl (by kernel_rfl) rfl fun q1 => ?_
     refine wl_nil ?_
     refine nw 19 25083 (fun _ hm => ⟨hm.bl 2, hm.bl 1, hm.fa 0, hm.ownI 0 rfl, hm.ownI 1 rfl, hm.ownI 2 rfl, trivial⟩) fun z => ?_
     have h := J25083 q1 q14
     rw [hW] at h
     refine wa_weak ?_ ?_ h
     ·exact ⟨rfl, rfl, rfl, rfl, rfl, rfl, rfl, rfl, rfl, rfl, rfl, rfl, trivial⟩
     exact fun _ hm => hm.pick [1, 2, 0, 3] [0, 1, 2] [0] rfl rfl
    refine wl_alloc zc151 rfl fun q17 => ?_
    refine wl_nil ?_
    refine nw 19 156153 (fun _ hm => ⟨hm.bl 2, hm.bl 1, hm.fa 0, hm.ownI 0 rfl, hm.ownI 1 rfl, hm.ownI 2 rfl, trivial⟩) fun z => ?_
    have h := T156153 q14 q17
    rw [hW] at h
    refine wa_weak ?_ ?_ h
    ·exact ⟨rfl, rfl, rfl, rfl, rfl, rfl, rfl, rfl, rfl, rfl, rfl, rfl, trivial⟩
    exact fun _ hm => hm.pick [1, 2, 3, 0] [0, 1, 2] [0] rfl rfl
   have J139769 : ∀ (q17 : Nat), W 10 (lb 19 139769) [(0, .pointer (some ⟨sb, 0, none⟩)), (2, .pointer (some ⟨g1, 0, none⟩)), (3, .pointer (some ⟨g2, 0, none⟩)), (6, .pointer (some ⟨q17, 0, none⟩)), (49, .int .i64 ((R : Nat) : Int)), (50, .int .i64 ((j : Nat) : Int)), (56, .pointer (some ⟨sb, 0, none⟩)), (60, .slice (some ⟨bv, 0, none⟩) k vc), (61, .pointer (some ⟨sb, 0, none⟩)), (64, .int .i64 ((k : Nat) : Int)), (69, .pointer (some ⟨sb, 0, none⟩))] (fun w => Strm 25 w B sb (m + 140 + 10 * j)) [(g1, 31, [.slice none 0 0, .slice none 0 0, .slice none 0 0, .slice none 0 0]), (g2, 31, [.slice sA sn sc, .slice cA 4 cc, .slice (some ⟨bv, 0, none⟩) k vc, .slice pA pn pc]), (q17, 151, [.int .i64 0, .string ⟨#[]⟩, .string ⟨#[]⟩])] [⟨.slice pA pn pc, 151, 3, pn, pl.flatMap plEnc⟩, ⟨.slice (some ⟨bv, 0, none⟩) k vc, 57, 2, k, vl.flatMap vhEnc⟩, ⟨.slice sA sn sc, 105, 15, sn, sl.flatMap stEnc⟩] [fun wy => SlT csEnc 2 90 wy cA 4 cl] := by
    intro q17
    rw [hW]
    refine wa_all [1, 14] (by kernel_rfl) rfl ⟨⟨_, rfl, ?_⟩, ⟨_, rfl, ?_⟩, trivial⟩
    ·refine wl_buildSlice (e := 3) (cs := [.int .i64 0, .int .i64 0, .int .i64 50, .int .i64 100, .int .i64 200, .int .i64 1000]) rfl (by kernel_rfl) rfl fun q1 => ?_
     refine wl_nil ?_
     refine nw 19 139771 (fun _ hm => ⟨hm.bl 2, hm.bl 1, hm.fa 0, hm.ownI 0 rfl, hm.ownI 1 rfl, hm.ownI 2 rfl, trivial⟩) fun z => ?_
     have h := J139771 q1 q17
     rw [hW] at h
     refine wa_weak ?_ ?_ h
     ·exact ⟨rfl, rfl, rfl, rfl, rfl, rfl, rfl, rfl, rfl, rfl, rfl, rfl, trivial⟩
     exact fun _ hm => hm.pick [1, 2, 0, 3] [0, 1, 2] [0] rfl rfl
    refine wl_buildSlice (e := 9) (cs := [.string ⟨#[65, 66, 49]⟩, .string ⟨#[65, 66, 50]⟩, .string ⟨#[90, 90, 57]⟩]) rfl (by kernel_rfl) rfl fun q14 => ?_
    refine wl_nil ?_
    refine nw 19 156153 (fun _ hm => ⟨hm.bl 2, hm.bl 1, hm.fa 0, hm.ownI 0 rfl, hm.ownI 1 rfl, hm.ownI 2 rfl, trivial⟩) fun z => ?_
    have h := T156153 q14 q17
    rw [hW] at h
    refine wa_weak ?_ ?_ h
    ·exact ⟨rfl, rfl, rfl, rfl, rfl, rfl, rfl, rfl, rfl, rfl, rfl, rfl, trivial⟩
    exact fun _ hm => hm.pick [1, 2, 0, 3] [0, 1, 2] [0] rfl rfl
   have J8697 : W 11 (lb 19 8697) [(0, .pointer (some ⟨sb, 0, none⟩)), (2, .pointer (some ⟨g1, 0, none⟩)), (3, .pointer (some ⟨g2, 0, none⟩)), (49, .int .i64 ((R : Nat) : Int)), (50, .int .i64 ((j : Nat) : Int)), (56, .pointer (some ⟨sb, 0, none⟩)), (60, .slice (some ⟨bv, 0, none⟩) k vc), (61, .pointer (some ⟨sb, 0, none⟩)), (64, .int .i64 ((k : Nat) : Int)), (69, .pointer (some ⟨sb, 0, none⟩))] (fun w => Strm 25 w B sb (m + 140 + 10 * j)) [(g1, 31, [.slice none 0 0, .slice none 0 0, .slice none 0 0, .slice none 0 0]), (g2, 31, [.slice sA sn sc, .slice cA 4 cc, .slice (some ⟨bv, 0, none⟩) k vc, .slice pA pn pc])] [⟨.slice pA pn pc, 151, 3, pn, pl.flatMap plEnc⟩, ⟨.slice (some ⟨bv, 0, none⟩) k vc, 57, 2, k, vl.flatMap vhEnc⟩, ⟨.slice sA sn sc, 105, 15, sn, sl.flatMap stEnc⟩] [fun wy => SlT csEnc 2 90 wy cA 4 cl] := by
    skip
    rw [hW]
    refine wa_all [1, 14, 17] (by kernel_rfl) rfl ⟨⟨_, rfl, ?_⟩, ⟨_, rfl, ?_⟩, ⟨_, rfl, ?_⟩, trivial⟩
    ·refine wl_buildSlice (e := 3) (cs := [.int .i64 0, .int .i64 0, .int .i64 50, .int .i64 100, .int .i64 200, .int .i64 1000]) rfl (by kernel_rfl) rfl fun q1 => ?_
     refine wl_nil ?_
     refine nw 19 8699 (fun _ hm => ⟨hm.bl 2, hm.bl 1, hm.fa 0, hm.ownI 0 rfl, hm.ownI 1 rfl, hm.ownI 2 rfl, trivial⟩) fun z => ?_
     have h := J8699 q1
     rw [hW] at h
     refine wa_weak ?_ ?_ h
     ·exact ⟨rfl, rfl, rfl, rfl, rfl, rfl, rfl, rfl, rfl, rfl, rfl, trivial⟩
     exact fun _ hm => hm.pick [1, 2, 0] [0, 1, 2] [0] rfl rfl
    ·refine wl_buildSlice (e := 9) (cs := [.string ⟨#[65, 66, 49]⟩, .string ⟨#[65, 66, 50]⟩, .string ⟨#[90, 90, 57]⟩]) rfl (by kernel_rfl) rfl fun q14 => ?_
     refine wl_nil ?_
     refine nw 19 25081 (fun _ hm => ⟨hm.bl 2, hm.bl 1, hm.fa 0, hm.ownI 0 rfl, hm.ownI 1 rfl, hm.ownI 2 rfl, trivial⟩) fun z => ?_
     have h := J25081 q14
     rw [hW] at h
     refine wa_weak ?_ ?_ h
     ·exact ⟨rfl, rfl, rfl, rfl, rfl, rfl, rfl, rfl, rfl, rfl, rfl, trivial⟩
     exact fun _ hm => hm.pick [1, 2, 0] [0, 1, 2] [0] rfl rfl
    refine wl_alloc zc151 rfl fun q17 => ?_
    refine wl_nil ?_
    refine nw 19 139769 (fun _ hm => ⟨hm.bl 2, hm.bl 1, hm.fa 0, hm.ownI 0 rfl, hm.ownI 1 rfl, hm.ownI 2 rfl, trivial⟩) fun z => ?_
    have h := J139769 q17
    rw [hW] at h
    refine wa_weak ?_ ?_ h
    ·exact ⟨rfl, rfl, rfl, rfl, rfl, rfl, rfl, rfl, rfl, rfl, rfl, trivial⟩
    exact fun _ hm => hm.pick [1, 2, 0] [0, 1, 2] [0] rfl rfl
   rw [hW]
   have h := J8697 
   rw [hW] at h
   refine wa_weak ?_ ?_ h
   ·exact ⟨rfl, rfl, rfl, rfl, rfl, rfl, rfl, rfl, rfl, rfl, trivial⟩
   exact fun _ hm => hm.pick [1, 0] [0, 1, 2] [0] rfl rfl
  rintro ⟨g6, pf, pv, pp⟩ hinv
  replace hinv : PlB ⟨pf, pv, pp⟩ := hinv
  dsimp only
  have hpp : PlB ⟨pf, pv, pp⟩ := hinv
  refine gw_cut (γ := Option Addr × Nat) (I := (fun g => True)) (S' := (fun g => [(0, .pointer (some ⟨sb, 0, none⟩)), (2, .pointer (some ⟨g1, 0, none⟩)), (3, .pointer (some ⟨g2, 0, none⟩)), (7, .slice g.1 (pn + 1) g.2), (49, .int .i64 ((R : Nat) : Int)), (50, .int .i64 ((j : Nat) : Int))])) (K' := (fun g => fun w => Strm 25 w B sb (m + 140 + 10 * j + 9))) (L' := (fun g => [(g6, 151, [.int .i64 pf, .string pv, .string pp]), (g2, 31, [.slice sA sn sc, .slice cA 4 cc, .slice (some ⟨bv, 0, none⟩) k vc, .slice pA pn pc]), (g1, 31, [.slice none 0 0, .slice none 0 0, .slice none 0 0, .slice none 0 0])])) (O' := (fun g => [⟨.slice g.1 (pn + 1) g.2, 151, 3, pn + 1, (pl ++ [(⟨pf, pv, pp⟩ : Pl)]).flatMap plEnc⟩, ⟨.slice pA pn pc, 151, 3, pn, pl.flatMap plEnc⟩, ⟨.slice (some ⟨bv, 0, none⟩) k vc, 57, 2, k, vl.flatMap vhEnc⟩, ⟨.slice sA sn sc, 105, 15, sn, sl.flatMap stEnc⟩])) (X' := (fun g => [fun wy => SlT csEnc 2 90 wy cA 4 cl])) ?_ ?_
  ·refine gd (fun wz => Blk wz g6 151 [.int .i64 pf, .string pv, .string pp] ∧ Blk wz g2 31 [.slice sA sn sc, .slice cA 4 cc, .slice (some ⟨bv, 0, none⟩) k vc, .slice pA pn pc] ∧ Blk wz g1 31 [.slice none 0 0, .slice none 0 0, .slice none 0 0, .slice none 0 0] ∧ (fun wy => SlT csEnc 2 90 wy cA 4 cl) wz ∧ True) mixed (fun _ hm => ⟨hm.bl 0, hm.bl 1, hm.bl 2, hm.fa 0, trivial⟩) fun z => ?_
   refine wt 0 7 1 rfl z (ov_field fo31_3 rfl rfl) ?_
   refine wt 1 7 3 rfl z (ov_load sc29 rfl (fun _ hm => hm.2.1) rfl) ?_
   refine wt 3 7 11 rfl z (ov_loads rz151 rfl (fun _ hm => hm.1) rfl rfl) ?_
   refine wa_all [2, 4] (by kernel_rfl) rfl ⟨⟨_, rfl, ?_⟩, ⟨_, rfl, ?_⟩, trivial⟩
   ·refine wl_callgo (γ := Option Addr × Nat) (val := (fun g => .slice g.1 pn g.2)) (φ := (fun g => True)) (fun g => ⟨.slice g.1 pn g.2, 151, 3, pn, pl.flatMap plEnc⟩) rfl cb58 rfl rfl (fun wx hm => (clonePlates_all pl pA pn pc wx (SlT.ofOwn pl_len (hm.ownI 0 rfl) hpl) (own_shape (hm.ownI 0 rfl)) (by omega)).mono fun _ _ ⟨A, c, he, ho, hg⟩ => ⟨(A, c), he, trivial, ho, hg⟩) ?_
    rintro ⟨A3, c3⟩ hphi
    dsimp only at hphi ⊢
    refine wl_nil ?_
    refine nw 7 15 (fun _ hm => ⟨hm.bl 0, hm.bl 1, hm.bl 2, hm.fa 0, trivial⟩) fun z => ?_
    refine wa1 4 rfl ?_
    refine wl_buildSlice (e := 151) (cs := [.int .i64 pf, .string pv, .string pp]) rfl (by kernel_rfl) rfl fun g14 => ?_
    refine wl_nil ?_
    refine nw 7 31 (fun _ hm => ⟨hm.bl 1, hm.bl 2, hm.bl 3, hm.fa 0, trivial⟩) fun z => ?_
    refine wa1 5 rfl ?_
    refine wl_append (news := [.int .i64 pf, .string pv, .string pp]) 0 0 ap29 rfl rfl rfl rfl rfl rfl rfl (by omega) (by unfold maxLen; omega) rfl rfl fun v2 hv2 => ?_
    refine wl_look (R := ∃ A cc, v2 = .slice A (pn + 1) cc) (fun wx hm => own_slice (hm.ownI 0 rfl)) ?_
    rintro ⟨A4, c4, rfl⟩
    refine wl_nil ?_
    refine nw 7 63 (fun _ hm => ⟨hm.bl 1, hm.bl 2, hm.bl 3, hm.fa 0, trivial⟩) fun z => ?_
    refine wt 6 7 127 rfl z (ov_assign rfl) ?_
    refine wa_done (by kernel_rfl) ?_
    have hxs : pl.flatMap plEnc ++ ([.int .i64 pf, .string pv, .string pp] : List Value) = (pl ++ [(⟨pf, pv, pp⟩ : Pl)]).flatMap plEnc := by simp [plEnc]
    rw [hxs]
    exact nx_meet (A4, c4) trivial ⟨rfl, rfl, rfl, rfl, rfl, rfl, trivial⟩ (fun _ hm => hm.pick [1, 2, 3] [0, 1, 2, 3] [0] rfl rfl)
   refine wl_buildSlice (e := 151) (cs := [.int .i64 pf, .string pv, .string pp]) rfl (by kernel_rfl) rfl fun g15 => ?_
   refine wl_nil ?_
   refine nw 7 27 (fun _ hm => ⟨hm.bl 1, hm.bl 2, hm.bl 3, hm.fa 0, trivial⟩) fun z => ?_
   refine wa1 2 rfl ?_
   refine wl_callgo (γ := Option Addr × Nat) (val := (fun g => .slice g.1 pn g.2)) (φ := (fun g => True)) (fun g => ⟨.slice g.1 pn g.2, 151, 3, pn, pl.flatMap plEnc⟩) rfl cb58 rfl rfl (fun wx hm => (clonePlates_all pl pA pn pc wx (SlT.ofOwn pl_len (hm.ownI 0 rfl) hpl) (own_shape (hm.ownI 0 rfl)) (by omega)).mono fun _ _ ⟨A, c, he, ho, hg⟩ => ⟨(A, c), he, trivial, ho, hg⟩) ?_
   rintro ⟨A3, c3⟩ hphi
   dsimp only at hphi ⊢
   refine wl_nil ?_
   refine nw 7 31 (fun _ hm => ⟨hm.bl 1, hm.bl 2, hm.bl 3, hm.fa 0, trivial⟩) fun z => ?_
   refine wa1 5 rfl ?_
   refine wl_append (news := [.int .i64 pf, .string pv, .string pp]) 0 0 ap29 rfl rfl rfl rfl rfl rfl rfl (by omega) (by unfold maxLen; omega) rfl rfl fun v2 hv2 => ?_
   refine wl_look (R := ∃ A cc, v2 = .slice A (pn + 1) cc) (fun wx hm => own_slice (hm.ownI 0 rfl)) ?_
   rintro ⟨A4, c4, rfl⟩
   refine wl_nil ?_
   refine nw 7 63 (fun _ hm => ⟨hm.bl 1, hm.bl 2, hm.bl 3, hm.fa 0, trivial⟩) fun z => ?_
   refine wt 6 7 127 rfl z (ov_assign rfl) ?_
   refine wa_done (by kernel_rfl) ?_
   have hxs : pl.flatMap plEnc ++ ([.int .i64 pf, .string pv, .string pp] : List Value) = (pl ++ [(⟨pf, pv, pp⟩ : Pl)]).flatMap plEnc := by simp [plEnc]
   rw [hxs]
   exact nx_meet (A4, c4) trivial ⟨rfl, rfl, rfl, rfl, rfl, rfl, trivial⟩ (fun _ hm => hm.pick [1, 2, 3] [0, 1, 2, 3] [0] rfl rfl)
  rintro ⟨qA, qc⟩ hinv
  replace hinv : True := hinv
  dsimp only
  have huB : ∀ x ∈ pl ++ [(⟨pf, pv, pp⟩ : Pl)], PlB x := all_snoc hpB hpp
  have hul : (pl ++ [(⟨pf, pv, pp⟩ : Pl)]).length = pn + 1 := by simp [hpl]
  obtain ⟨us, hus⟩ : ∃ z, z = pl ++ [(⟨pf, pv, pp⟩ : Pl)] := ⟨_, rfl⟩
  rw [← hus] at huB hul
  rw [← hus]
  refine gw_look (R := ∃ g, qA = some ⟨g, 0, none⟩) (fun wx hm => own_addr (hm.ownI 0 rfl) (by omega)) ?_
  rintro ⟨g5, rfl⟩
  refine ct_ rfl (sr_ (mv_ rfl ?_))
  refine wl_callr (v := .tuple #[]) (xs' := (isort rfLt us).flatMap plEnc) 0 rfl rfl rfl cb59 rfl rfl (fun wx hm => (sort_rf us g5 (pn + 1) qc _ wx (hm.ownI 0 rfl) hul (by omega) huB)) ?_
  obtain ⟨zs, hzs⟩ : ∃ z, z = isort rfLt us := ⟨_, rfl⟩
  rw [← hzs]
  have hzB : ∀ x ∈ zs, PlB x := fun x hx => huB x (by rw [hzs] at hx; exact isort_mem.1 hx)
  have hzl : zs.length = pn + 1 := by rw [hzs, isort_len]; exact hul
  obtain ⟨FE, hFE⟩ : ∃ z, z = fleetE sl cl vl zs := ⟨_, rfl⟩
  refine nn_ (sr_ ?_)
  refine wl_ov (ov_loads rz31 rfl (fun _ hm => hm.blkI 1 rfl) rfl rfl) rfl ?_
  refine wl_alloc zc31 rfl fun g16 => ?_
  refine wl_stores (cs' := [.slice sA sn sc, .slice cA 4 cc, .slice (some ⟨bv, 0, none⟩) k vc, .slice pA pn pc]) 0 rz31 rfl rfl rfl rfl rfl rfl rfl rfl ?_
  refine nn_ (sr_ (mv_ rfl (fd_ fo31_3 rfl rfl ?_)))
  refine wl_store 0 sc29 rfl rfl rfl rfl rfl rfl ?_
  refine nn_ (sr_ ?_)
  refine wl_ov (ov_loads rz31 rfl (fun _ hm => hm.blkI 0 rfl) rfl rfl) rfl ?_
  refine wl_callv (v := .int .i64 FE) rfl cb62 rfl rfl (fun wx hm => (by rw [hFE]; exact fleetFault_any sl cl vl zs sA cA (some ⟨bv, 0, none⟩) (some ⟨g5, 0, none⟩) sn sc 4 cc k vc (pn + 1) qc wx (SlT.ofOwnL stEnc_lenL (fun x hx => stB_ok (hsB x hx)) (hm.ownI 3 rfl) hsl) (hm.fact 0 rfl) (SlT.ofOwn vh_len (hm.ownI 2 rfl) hvl) (SlT.ofOwn pl_len (hm.ownI 0 rfl) hzl) (fun x hx => stB_ok (hsB x hx)) hcok (fun x hx => vhB_ok (hvB x hx)) (fun x hx => plB_ok (hzB x hx)) (by omega) (by omega) (by omega) (by omega) (own_cap (hm.ownI 0 rfl)))) ?_
  refine wl_ov (ov_eql rfl rfl) rfl (nn_ ?_)
  refine gw_cond rfl (fun hh => ?_) (fun hh => ?_)
  ·have hfe : FE = 0 := by simpa using hh
   clear hh
   refine gw_region ?_
   refine wl_ov (ov_loads rz31 rfl (fun _ hm => hm.blkI 0 rfl) rfl rfl) rfl ?_
   refine wl_stores (cs' := [.slice sA sn sc, .slice cA 4 cc, .slice (some ⟨bv, 0, none⟩) k vc, .slice (some ⟨g5, 0, none⟩) (pn + 1) qc]) 2 rz31 rfl rfl rfl rfl rfl rfl rfl rfl ?_
   refine wl_nil (nx_blk_nrm (nx_then (gw_region (ad_ rfl rfl (mv_ rfl (wl_nil ?_))))))
   exact nx_round (j + 1, some ⟨g5, 0, none⟩, pn + 1, qc, zs) ⟨by dsimp only; omega, by dsimp only; omega, hzl, hzB, hFE.symm.trans hfe⟩ (by dsimp only; omega) ⟨rfl, rfl, rfl, rfl, (some_int (by omega)), trivial⟩ (fun _ hm => (hm.more rfl (by first | omega | (dsimp only; omega))).pick [2, 3] [0, 2, 3] [0] rfl rfl)
  have hfe : ¬ (FE = 0) := by simpa using hh
  clear hh
  refine gw_skip (nx_blk_nrm (nx_then (gw_region (ad_ rfl rfl (mv_ rfl (wl_nil ?_))))))
  exact nx_round (j + 1, pA, pn, pc, pl) ⟨by dsimp only; omega, by dsimp only; omega, hpl, hpB, hfz⟩ (by dsimp only; omega) ⟨rfl, rfl, rfl, rfl, (some_int (by omega)), trivial⟩ (fun _ hm => (hm.more rfl (by first | omega | (dsimp only; omega))).pick [2, 3] [1, 2, 3] [0] rfl rfl)
 have hj : ¬ (((j : Nat) : Int) < ((R : Nat) : Int)) := by simpa using hh
 clear hh
 refine gw_exit ?_
 refine nx_then_exit (nx_then_exit ?_)
 refine nx_blk_here ?_
 refine nx_then (sr_ ?_)
 refine wl_ov (ov_loads rz31 rfl (fun _ hm => hm.blkI 0 rfl) rfl rfl) rfl ?_
 refine wl_stores (cs' := [.slice sA sn sc, .slice cA 4 cc, .slice vA k vc, .slice pA pn pc]) 1 rz31 rfl rfl rfl rfl rfl rfl rfl rfl ?_
 refine nn_ ?_
 refine gw_ret ?_
 refine nx_retc 1 rfl rz31 rfl rfl rfl fun wx hm => ?_
 exact ⟨sA, cA, vA, pA, sn, sc, cc, k, vc, pn, pc, sl, cl, vl, pl, rfl, ⟨⟨⟨hsl, hsB, hs1, hs3⟩, ⟨hcl4, hcok⟩, ⟨hvl, hvB, by omega⟩, ⟨hpl, hpB, by omega⟩⟩, hfz⟩, hm.k.more (by omega), hm.g, (hm.ownI 2 rfl), (hm.ownI 1 rfl), (hm.ownI 0 rfl), (hm.fact 0 rfl)⟩
end Go.Proofs.YtiendebcdicjnaaGreatDoor
namespace Go.Proofs.YtiendebcdicjnaaGreatDoor
open Go.RowKit
theorem gvehicleKey_any (w : World) (B sb m : Nat) (hS : Strm 25 w B sb m) (hm : m ≤ 100000000000) :
  Calls Tryz.prog 65 #[.pointer (some ⟨sb, 0, none⟩)] w (fun e w' => ∃ v : ByteArray, e = .returned (.string v) ∧ v.size ≤ 100 ∧ Strm 25 w' B sb (m + 1) ∧ w.grownBy w' (some sb)) := by
 refine gw_enter ⟨6, w, (some sb), []⟩ Tryz.func65 rfl Tryz.ntmps65 rfl (memS (X := []) hS allF_nil allL_nil) ?_
 refine sr_ (sg_ rfl (nn_ (sr_ (mv_ rfl ?_))))
 refine wl_buildSlice (e := 9) (cs := [.string ⟨#[118, 49]⟩, .string ⟨#[118, 49]⟩, .string ⟨#[118, 50]⟩, .string ⟨#[118, 50]⟩, .string ⟨#[118, 51]⟩, .string ⟨#[118, 52]⟩, .string ⟨#[110, 111, 110, 101]⟩, .string ⟨#[]⟩, .string ⟨#[65]⟩]) rfl (by kernel_rfl) rfl fun g1 => ?_
 refine wl_got (γ := ByteArray) (val := fun v => .string v) (φ := fun v => v ∈ ([⟨#[118, 49]⟩, ⟨#[118, 49]⟩, ⟨#[118, 50]⟩, ⟨#[118, 50]⟩, ⟨#[118, 51]⟩, ⟨#[118, 52]⟩, ⟨#[110, 111, 110, 101]⟩, ⟨#[]⟩, ⟨#[65]⟩] : List ByteArray)) rfl cb34 rfl rfl rfl rfl (fun wx hm => (some_any [⟨#[118, 49]⟩, ⟨#[118, 49]⟩, ⟨#[118, 50]⟩, ⟨#[118, 50]⟩, ⟨#[118, 51]⟩, ⟨#[118, 52]⟩, ⟨#[110, 111, 110, 101]⟩, ⟨#[]⟩, ⟨#[65]⟩] _ _ _ wx B sb _ hm.k (by omega) (by simp) (by simp) (hm.blkI 0 rfl) (hm.neRow 0 rfl rfl))) fun s2 hs2 => ?_
 have zs2 : s2.size ≤ 100 := mem_sz hs2 (by decide)
 refine sg_ rfl (nn_ ?_)
 refine gw_ret ?_
 refine nx_ret1 rfl rfl fun wx hm => ?_
 exact ⟨s2, rfl, by omega, hm.k, hm.g⟩
end Go.Proofs.YtiendebcdicjnaaGreatDoor
namespace Go.Proofs.YtiendebcdicjnaaGreatDoor
open Go.RowKit
theorem cloneEvents_all (l : List Ev) (A : Option Addr) (n c : Nat) (w : World) (hl : SlT evEnc 5 74 w A n l) (hs : ShapeA A n c) (hn : n ≤ 1000000) :
    Calls Tryz.prog 66 #[.slice A n c] w (fun e w' => ∃ A' c', e = .returned (.slice A' n c') ∧ w'.ownsRow w.heap.size 74 5 (.slice A' n c') n (l.flatMap evEnc) ∧ w.grownBy w' none) := by
  rcases hs with ⟨rfl, rfl, rfl⟩ | ⟨b, off, rfl⟩
  · exact cloneEvents_any l none 0 0 w hl (fun _ => ⟨rfl, rfl⟩) hn
  · rcases Nat.eq_zero_or_pos n with rfl | h0
    · have hl0 : l = [] := List.length_eq_zero_iff.1 hl.len
      subst hl0
      exact cloneEvents_empty b off c w
    · exact cloneEvents_pos l _ n c w hl h0 hn
theorem glog_any (sl : List St) (vl : List Vh) (sA cA vA pA : Option Addr) (sn sc cn cc vn vc pn pc q : Nat) (w : World) (B sb m : Nat) (hS : Strm 25 w B sb m) (hm : m ≤ 100000000) (hs : SlT stEnc 15 105 w sA sn sl) (hv : SlT vhEnc 2 57 w vA vn vl) (hsok : ∀ x ∈ sl, StOk x) (hvok : ∀ x ∈ vl, VhOk x) (hsn : sn ≤ 1000) (hvn : vn ≤ 1000) (hq : q ≤ 1000) :
  Calls Tryz.prog 19 #[.pointer (some ⟨sb, 0, none⟩), .agg #[.slice sA sn sc, .slice cA cn cc, .slice vA vn vc, .slice pA pn pc], .int .i64 ((q : Nat) : Int)] w (fun e w' => ∃ (A : Option Addr) (n c : Nat) (l : List Ev), e = .returned (.slice A n c) ∧ w'.ownsRow w.heap.size 74 5 (.slice A n c) n (l.flatMap evEnc) ∧ l.length = n ∧ (∀ x ∈ l, EvOk x) ∧ n ≤ q ∧ Strm 25 w' B sb (m + 20 * q + 20) ∧ w.grownBy w' (some sb)) := by
 obtain ⟨_, _, _, _, hh, _⟩ := hS.pos
 have hso := hs.oldRow hh (by decide)
 have hvo := hv.oldRow hh (by decide)
 refine gw_enter ⟨137, w, (some sb), []⟩ Tryz.func19 rfl Tryz.ntmps19 rfl (memS (X := [SlOld stEnc 15 105 w.heap.size (some sb) sA sn sl, SlOld vhEnc 2 57 w.heap.size (some sb) vA vn vl]) hS (allF_cons hso (allF_cons hvo allF_nil)) (allL_cons SlOld.lasts (allL_cons SlOld.lasts allL_nil))) ?_
 refine sr_ ?_
 have hvl := hv.len
 have hsl := hs.len
 refine wl_nilOwn 74 5 ?_
 refine wl_box rfl rfl rfl fun g1 => ?_
 refine sg_ rfl (nn_ (sr_ (sg_ rfl (nn_ (gw_seq (sr_ (fd_ fo31_2 rfl rfl (lk_ sc28 0 rfl rfl rfl (wl_ov (ov_len es28 rfl) rfl ?_)))))))))
 refine wl_ov (ov_eql rfl rfl) rfl (mv_ rfl ?_)
 rcases Bool.eq_false_or_eq_true (decide (((vn : Nat) : Int) = 0)) with h0 | h0
 ·refine wl_set 16 rfl (congrArg Value.bool h0) ?_
  refine goff rfl rfl rfl (goff rfl rfl rfl (goff rfl rfl rfl (goff rfl rfl rfl (pt_ rfl rfl (nn_ (ct_ rfl (sr_ (mv_ rfl (sg_ rfl (nn_ ?_))))))))))
  refine gw_ret ?_
  refine nx_then_ret ?_
  refine nx_ret1 rfl rfl fun wx hm => ?_
  exact ⟨none, 0, 0, [], rfl, (hm.ownI 0 rfl), rfl, (fun _ h => by cases h), by omega, hm.k.more (by omega), hm.g⟩
 refine wl_set 16 rfl (congrArg Value.bool h0) ?_
 have h0 := of_decide_eq_false h0
 refine wl_guard_on rfl rfl rfl (fd_ fo31_0 rfl rfl (wl_guard_on rfl rfl rfl (lk_ sc26 0 rfl rfl rfl (wl_guard_on rfl rfl rfl (wl_ov (ov_len es26 rfl) rfl (wl_guard_on rfl rfl rfl (wl_ov (ov_eql rfl rfl) rfl (pf_ rfl rfl (nn_ ?_)))))))))
 refine gw_cond rfl (fun hh => ?_) (fun hh => ?_)
 ·have h1 : ((sn : Nat) : Int) = 0 := by simpa using hh
  clear hh
  refine sr_ (mv_ rfl (sg_ rfl (nn_ ?_)))
  refine gw_ret ?_
  refine nx_then_ret ?_
  refine nx_ret1 rfl rfl fun wx hm => ?_
  exact ⟨none, 0, 0, [], rfl, (hm.ownI 0 rfl), rfl, (fun _ h => by cases h), by omega, hm.k.more (by omega), hm.g⟩
 have h1 : ¬ (((sn : Nat) : Int) = 0) := by simpa using hh
 clear hh
 refine gw_skip (nx_then (sr_ ?_))
 have hvn0 : 0 < vn := by omega
 have hsn0 : 0 < sn := by omega
 obtain ⟨bv, ov, hA, _, _⟩ := hv.get (by omega)
 subst hA
 obtain ⟨bs, os, hA, _, _⟩ := hs.get (by omega)
 subst hA
 refine sg_ rfl (nn_ (gw_seq (sr_ (mv_ rfl (mv_ rfl (nn_ (gw_block ?_)))))))
 refine gw_loop (γ := Nat × Nat × Int × Option Addr × Nat × List Ev) (fun g => g.1 ≤ q ∧ g.2.1 ≤ g.1 ∧ (0 ≤ g.2.2.1 ∧ g.2.2.1 ≤ 500 * ((g.1 : Nat) : Int)) ∧ g.2.2.2.2.2.length = g.2.1 ∧ (∀ x ∈ g.2.2.2.2.2, EvOk x)) (fun g => [(0, .pointer (some ⟨sb, 0, none⟩)), (4, .pointer (some ⟨g1, 0, none⟩)), (6, .slice none 0 0), (7, .slice g.2.2.2.1 g.2.1 g.2.2.2.2.1), (8, .int .i64 g.2.2.1), (23, .int .i64 ((q : Nat) : Int)), (24, .int .i64 ((g.1 : Nat) : Int))]) (fun g => fun w => Strm 25 w B sb (m + 20 * g.1)) (fun g => [(g1, 31, [.slice (some ⟨bs, os, none⟩) sn sc, .slice cA cn cc, .slice (some ⟨bv, ov, none⟩) vn vc, .slice pA pn pc])]) (fun g => [⟨.slice g.2.2.2.1 g.2.1 g.2.2.2.2.1, 74, 5, g.2.1, g.2.2.2.2.2.flatMap evEnc⟩]) (fun g => [SlOld stEnc 15 105 w.heap.size (some sb) (some ⟨bs, os, none⟩) sn sl, SlOld vhEnc 2 57 w.heap.size (some sb) (some ⟨bv, ov, none⟩) vn vl]) (fun g => q - g.1) (0, 0, 0, none, 0, []) ⟨Nat.zero_le _, Nat.le_refl _, ⟨Int.le_refl _, by decide⟩, rfl, (fun _ h => by cases h)⟩ ⟨rfl, rfl, rfl, rfl, rfl, rfl, rfl, trivial⟩ (fun _ hm => (hm.more rfl (by first | omega | (dsimp only; omega))).pick [0] [0] [0, 1] rfl rfl) ?_
 rintro ⟨i, k, at_, oA, oc, xl⟩ hinv
 replace hinv : i ≤ q ∧ k ≤ i ∧ (0 ≤ at_ ∧ at_ ≤ 500 * ((i : Nat) : Int)) ∧ xl.length = k ∧ (∀ x ∈ xl, EvOk x) := hinv
 dsimp only
 refine sr_ ?_
 obtain ⟨hi0, hki, ⟨ha0, ha1⟩, hxl, hxok⟩ := hinv
 refine wl_ov (ov_lss rfl rfl) rfl (nn_ (gw_seq ?_))
 refine gw_cond rfl (fun hh => ?_) (fun hh => ?_)
 ·have hi : ((i : Nat) : Int) < ((q : Nat) : Int) := by simpa using hh
  clear hh
  refine gw_skip (nx_then (gw_seq (gw_block (sr_ (mv_ rfl (mv_ rfl ?_))))))
  refine wl_buildSlice (e := 3) (cs := [.int .i64 0, .int .i64 1, .int .i64 10, .int .i64 50, .int .i64 100, .int .i64 500]) rfl (by kernel_rfl) rfl fun g2 => ?_
  refine wl_got (γ := Int) (val := fun v => .int .i64 v) (φ := fun v => v ∈ ([0, 1, 10, 50, 100, 500] : List Int)) rfl cb57 rfl rfl rfl rfl (fun wx hm => (pick_any [0, 1, 10, 50, 100, 500] _ _ _ wx B sb _ hm.k (by omega) (by simp) (by simp) (hm.blkI 0 rfl) (hm.neRow 0 rfl rfl))) fun v3 hv3 => ?_
  have bv3 : 0 ≤ v3 ∧ v3 ≤ 500 := mem_rng hv3 (by decide)
  have bv30 := bv3.1
  have bv31 := bv3.2
  clear bv3
  refine ad_ rfl rfl (sg_ rfl (nn_ (gw_seq ?_)))
  refine gd (fun wz => Blk wz g2 3 [.int .i64 0, .int .i64 1, .int .i64 10, .int .i64 50, .int .i64 100, .int .i64 500] ∧ Blk wz g1 31 [.slice (some ⟨bs, os, none⟩) sn sc, .slice cA cn cc, .slice (some ⟨bv, ov, none⟩) vn vc, .slice pA pn pc] ∧ (SlOld stEnc 15 105 w.heap.size (some sb) (some ⟨bs, os, none⟩) sn sl) wz ∧ (SlOld vhEnc 2 57 w.heap.size (some sb) (some ⟨bv, ov, none⟩) vn vl) wz ∧ True) mixed (fun _ hm => ⟨hm.bl 0, hm.bl 1, hm.fa 0, hm.fa 1, trivial⟩) fun z => ?_
  refine wt 0 11 1 rfl z (ov_field fo31_2 rfl rfl) ?_
  refine wt 1 11 3 rfl z (ov_load sc28 rfl (fun _ hm => hm.2.1) rfl) ?_
  refine wt 2 11 7 rfl z (ov_move rfl) ?_
  refine wt 3 11 15 rfl z (ov_field fo31_2 rfl rfl) ?_
  refine wt 4 11 31 rfl z (ov_load sc28 rfl (fun _ hm => hm.2.1) rfl) ?_
  refine wt 5 11 63 rfl z (ov_len es28 rfl) ?_
  refine wa1 6 rfl ?_
  refine wl_got (γ := Int) (val := fun v => .int .i64 v) (φ := fun v => IsBelow ((vn : Nat) : Int) v) rfl cb23 rfl rfl rfl rfl (fun wx hm => (next_any _ wx B sb _ hm.k (by omega) (by omega) (by omega))) fun vj hvj => ?_
  have hj := isBelow_lt hvj (by omega)
  obtain ⟨j, rfl⟩ := Int.eq_ofNat_of_zero_le hj.1
  have hji : j < vn := by omega
  obtain ⟨y, hy⟩ : ∃ y, vl[j]? = some y := ⟨_, List.getElem?_eq_getElem (by omega)⟩
  obtain ⟨y0, y1⟩ := y
  have hyB := hvok _ (List.mem_of_getElem? hy)
  have hy0 : y0.size ≤ 1000000 := hyB.1
  refine wl_nil ?_
  refine nw 11 127 (fun _ hm => ⟨hm.bl 0, hm.bl 1, hm.fa 0, hm.fa 1, trivial⟩) fun z => ?_
  refine wt 7 11 255 rfl z (ov_index (j := j) es28 rfl rfl (by omega)) ?_
  refine wt 8 11 511 rfl z (ov_field fo57_0 rfl rfl) ?_
  refine wt 9 11 1023 rfl z (ov_elem1 (k := 0) (v := .string y0) sc9 rfl (fun _ hm => (hm.2.2.2.1).1) hy rfl rfl) ?_
  refine wt 10 11 2047 rfl z (ov_assign rfl) ?_
  refine wa_done (by kernel_rfl) ?_
  refine nx_then ?_
  obtain ⟨t8, ht8⟩ : ∃ z, z = at_ + v3 := ⟨_, rfl⟩
  rw [← ht8]
  have ht0 : 0 ≤ t8 := by omega
  have ht1 : t8 ≤ 500 * ((i : Nat) : Int) + 500 := by omega
  refine gw_cut (γ := Nat × ByteArray × Int) (I := (fun g => g.2.1.size ≤ 1000000 ∧ (-4000000000000000000 ≤ g.2.2 ∧ g.2.2 ≤ 4000000000000000000))) (S' := (fun g => [(0, .pointer (some ⟨sb, 0, none⟩)), (4, .pointer (some ⟨g1, 0, none⟩)), (6, .slice none 0 0), (7, .slice oA k oc), (8, .int .i64 t8), (9, .string y0), (10, .pointer (some ⟨g.1, 0, none⟩)), (23, .int .i64 ((q : Nat) : Int)), (24, .int .i64 ((i : Nat) : Int))])) (K' := (fun g => fun w => Strm 25 w B sb (m + 20 * i + 4))) (L' := (fun g => [(g.1, 74, [.int .i64 t8, .string y0, .string g.2.1, .int .i64 g.2.2, .string ⟨#[]⟩]), (g2, 3, [.int .i64 0, .int .i64 1, .int .i64 10, .int .i64 50, .int .i64 100, .int .i64 500]), (g1, 31, [.slice (some ⟨bs, os, none⟩) sn sc, .slice cA cn cc, .slice (some ⟨bv, ov, none⟩) vn vc, .slice pA pn pc])])) (O' := (fun g => [⟨.slice oA k oc, 74, 5, k, xl.flatMap evEnc⟩])) (X' := (fun g => [SlOld stEnc 15 105 w.heap.size (some sb) (some ⟨bs, os, none⟩) sn sl, SlOld vhEnc 2 57 w.heap.size (some sb) (some ⟨bv, ov, none⟩) vn vl])) ?_ ?_
  ·refine gd (fun wz => Blk wz g2 3 [.int .i64 0, .int .i64 1, .int .i64 10, .int .i64 50, .int .i64 100, .int .i64 500] ∧ Blk wz g1 31 [.slice (some ⟨bs, os, none⟩) sn sc, .slice cA cn cc, .slice (some ⟨bv, ov, none⟩) vn vc, .slice pA pn pc] ∧ (SlOld stEnc 15 105 w.heap.size (some sb) (some ⟨bs, os, none⟩) sn sl) wz ∧ (SlOld vhEnc 2 57 w.heap.size (some sb) (some ⟨bv, ov, none⟩) vn vl) wz ∧ True) mixed (fun _ hm => ⟨hm.bl 0, hm.bl 1, hm.fa 0, hm.fa 1, trivial⟩) fun z => ?_
   refine wt 0 17 1 rfl z (ov_move rfl) ?_
   refine wt 1 17 3 rfl z (ov_move rfl) ?_
   refine wt 2 17 7 rfl z (ov_field fo31_0 rfl rfl) ?_
   refine wt 3 17 15 rfl z (ov_load sc26 rfl (fun _ hm => hm.2.1) rfl) ?_
   refine wt 4 17 31 rfl z (ov_move rfl) ?_
   refine wt 5 17 63 rfl z (ov_field fo31_0 rfl rfl) ?_
   refine wt 6 17 127 rfl z (ov_load sc26 rfl (fun _ hm => hm.2.1) rfl) ?_
   refine wt 7 17 255 rfl z (ov_len es26 rfl) ?_
   refine wt 12 17 4351 rfl z (ov_move rfl) ?_
   refine wa_all [8, 15] (by kernel_rfl) rfl ⟨⟨_, rfl, ?_⟩, ⟨_, rfl, ?_⟩, trivial⟩
   ·refine wl_got (γ := Int) (val := fun v => .int .i64 v) (φ := fun v => IsBelow ((sn : Nat) : Int) v) rfl cb23 rfl rfl rfl rfl (fun wx hm => (next_any _ wx B sb _ hm.k (by omega) (by omega) (by omega))) fun vu4 hvu4 => ?_
    have hju4 := isBelow_lt hvu4 (by omega)
    obtain ⟨ju4, rfl⟩ := Int.eq_ofNat_of_zero_le hju4.1
    have hjiu4 : ju4 < sn := by omega
    obtain ⟨zu4, hzu4⟩ : ∃ y, sl[ju4]? = some y := ⟨_, List.getElem?_eq_getElem (by omega)⟩
    obtain ⟨ku4, ru4⟩ := zu4
    have hku4 : ku4.size ≤ 1000000 := (hsok _ (List.mem_of_getElem? hzu4)).2.1
    refine wl_nil ?_
    refine nw 17 4607 (fun _ hm => ⟨hm.bl 0, hm.bl 1, hm.fa 0, hm.fa 1, trivial⟩) fun z => ?_
    refine wt 9 17 5119 rfl z (ov_index (j := ju4) es26 rfl rfl (by omega)) ?_
    refine wt 10 17 6143 rfl z (ov_field fo105_0 rfl rfl) ?_
    refine wt 11 17 8191 rfl z (ov_elem1 (k := 0) (v := .string ku4) sc9 rfl (fun _ hm => (hm.2.2.1).1) hzu4 rfl rfl) ?_
    refine wa_all [13, 15] (by kernel_rfl) rfl ⟨⟨_, rfl, ?_⟩, ⟨_, rfl, ?_⟩, trivial⟩
    ·refine wl_got (γ := Int) (val := fun v => .int .i64 v) (φ := fun v => 1 ≤ v ∧ (v ≤ 8 ∨ v = 1)) rfl cb9 rfl rfl rfl rfl (fun wx hm => (range_any _ _ wx B sb _ hm.k (by omega) (by omega) (by omega) (by omega) (by omega))) fun v5 hv5 => ?_
     refine wl_nil ?_
     refine nw 17 16383 (fun _ hm => ⟨hm.bl 0, hm.bl 1, hm.fa 0, hm.fa 1, trivial⟩) fun z => ?_
     refine wt 14 17 32767 rfl z (ov_build (cs := [.int .i64 t8, .string y0, .string ku4, .int .i64 v5, .string ⟨#[]⟩]) rfl (by kernel_rfl)) ?_
     refine wa1 15 rfl ?_
     refine wl_alloc zc74 rfl fun g6 => ?_
     refine wl_nil ?_
     refine nw 17 65535 (fun _ hm => ⟨hm.bl 1, hm.bl 2, hm.fa 0, hm.fa 1, trivial⟩) fun z => ?_
     refine wa1 16 rfl ?_
     refine wl_stores (cs' := [.int .i64 t8, .string y0, .string ku4, .int .i64 v5, .string ⟨#[]⟩]) 0 rz74 rfl rfl rfl rfl rfl rfl rfl rfl ?_
     refine wl_nil ?_
     refine nw 17 131071 (fun _ hm => ⟨hm.bl 1, hm.bl 2, hm.fa 0, hm.fa 1, trivial⟩) fun z => ?_
     refine wa_done (by kernel_rfl) ?_
     exact nx_meet (g6, ku4, v5) ⟨by dsimp only; omega, by dsimp only; omega, by dsimp only; omega⟩ ⟨rfl, rfl, rfl, rfl, rfl, rfl, rfl, rfl, rfl, trivial⟩ (fun _ hm => (hm.more rfl (by first | omega | (dsimp only; omega))).pick [0, 1, 2] [0] [0, 1] rfl rfl)
    refine wl_alloc zc74 rfl fun g7 => ?_
    refine wl_nil ?_
    refine nw 17 40959 (fun _ hm => ⟨hm.bl 1, hm.bl 2, hm.fa 0, hm.fa 1, trivial⟩) fun z => ?_
    refine wa1 13 rfl ?_
    refine wl_got (γ := Int) (val := fun v => .int .i64 v) (φ := fun v => 1 ≤ v ∧ (v ≤ 8 ∨ v = 1)) rfl cb9 rfl rfl rfl rfl (fun wx hm => (range_any _ _ wx B sb _ hm.k (by omega) (by omega) (by omega) (by omega) (by omega))) fun v8 hv8 => ?_
    refine wl_nil ?_
    refine nw 17 49151 (fun _ hm => ⟨hm.bl 1, hm.bl 2, hm.fa 0, hm.fa 1, trivial⟩) fun z => ?_
    refine wt 14 17 65535 rfl z (ov_build (cs := [.int .i64 t8, .string y0, .string ku4, .int .i64 v8, .string ⟨#[]⟩]) rfl (by kernel_rfl)) ?_
    refine wa1 16 rfl ?_
    refine wl_stores (cs' := [.int .i64 t8, .string y0, .string ku4, .int .i64 v8, .string ⟨#[]⟩]) 0 rz74 rfl rfl rfl rfl rfl rfl rfl rfl ?_
    refine wl_nil ?_
    refine nw 17 131071 (fun _ hm => ⟨hm.bl 1, hm.bl 2, hm.fa 0, hm.fa 1, trivial⟩) fun z => ?_
    refine wa_done (by kernel_rfl) ?_
    exact nx_meet (g7, ku4, v8) ⟨by dsimp only; omega, by dsimp only; omega, by dsimp only; omega⟩ ⟨rfl, rfl, rfl, rfl, rfl, rfl, rfl, rfl, rfl, trivial⟩ (fun _ hm => (hm.more rfl (by first | omega | (dsimp only; omega))).pick [0, 1, 2] [0] [0, 1] rfl rfl)
   refine wl_alloc zc74 rfl fun g9 => ?_
   refine wl_nil ?_
   refine nw 17 37119 (fun _ hm => ⟨hm.bl 1, hm.bl 2, hm.fa 0, hm.fa 1, trivial⟩) fun z => ?_
   refine wa1 8 rfl ?_
   refine wl_got (γ := Int) (val := fun v => .int .i64 v) (φ := fun v => IsBelow ((sn : Nat) : Int) v) rfl cb23 rfl rfl rfl rfl (fun wx hm => (next_any _ wx B sb _ hm.k (by omega) (by omega) (by omega))) fun vu10 hvu10 => ?_
   have hju10 := isBelow_lt hvu10 (by omega)
   obtain ⟨ju10, rfl⟩ := Int.eq_ofNat_of_zero_le hju10.1
   have hjiu10 : ju10 < sn := by omega
   obtain ⟨zu10, hzu10⟩ : ∃ y, sl[ju10]? = some y := ⟨_, List.getElem?_eq_getElem (by omega)⟩
   obtain ⟨ku10, ru10⟩ := zu10
   have hku10 : ku10.size ≤ 1000000 := (hsok _ (List.mem_of_getElem? hzu10)).2.1
   refine wl_nil ?_
   refine nw 17 37375 (fun _ hm => ⟨hm.bl 1, hm.bl 2, hm.fa 0, hm.fa 1, trivial⟩) fun z => ?_
   refine wt 9 17 37887 rfl z (ov_index (j := ju10) es26 rfl rfl (by omega)) ?_
   refine wt 10 17 38911 rfl z (ov_field fo105_0 rfl rfl) ?_
   refine wt 11 17 40959 rfl z (ov_elem1 (k := 0) (v := .string ku10) sc9 rfl (fun _ hm => (hm.2.2.1).1) hzu10 rfl rfl) ?_
   refine wa1 13 rfl ?_
   refine wl_got (γ := Int) (val := fun v => .int .i64 v) (φ := fun v => 1 ≤ v ∧ (v ≤ 8 ∨ v = 1)) rfl cb9 rfl rfl rfl rfl (fun wx hm => (range_any _ _ wx B sb _ hm.k (by omega) (by omega) (by omega) (by omega) (by omega))) fun v11 hv11 => ?_
   refine wl_nil ?_
   refine nw 17 49151 (fun _ hm => ⟨hm.bl 1, hm.bl 2, hm.fa 0, hm.fa 1, trivial⟩) fun z => ?_
   refine wt 14 17 65535 rfl z (ov_build (cs := [.int .i64 t8, .string y0, .string ku10, .int .i64 v11, .string ⟨#[]⟩]) rfl (by kernel_rfl)) ?_
   refine wa1 16 rfl ?_
   refine wl_stores (cs' := [.int .i64 t8, .string y0, .string ku10, .int .i64 v11, .string ⟨#[]⟩]) 0 rz74 rfl rfl rfl rfl rfl rfl rfl rfl ?_
   refine wl_nil ?_
   refine nw 17 131071 (fun _ hm => ⟨hm.bl 1, hm.bl 2, hm.fa 0, hm.fa 1, trivial⟩) fun z => ?_
   refine wa_done (by kernel_rfl) ?_
   exact nx_meet (g9, ku10, v11) ⟨by dsimp only; omega, by dsimp only; omega, by dsimp only; omega⟩ ⟨rfl, rfl, rfl, rfl, rfl, rfl, rfl, rfl, rfl, trivial⟩ (fun _ hm => (hm.more rfl (by first | omega | (dsimp only; omega))).pick [0, 1, 2] [0] [0, 1] rfl rfl)
  rintro ⟨g10, st1, kd1⟩ hinv
  replace hinv : st1.size ≤ 1000000 ∧ (-4000000000000000000 ≤ kd1 ∧ kd1 ≤ 4000000000000000000) := hinv
  dsimp only
  obtain ⟨hst1, hkd1a, hkd1b⟩ := hinv
  refine gw_cut (γ := ByteArray × Int) (I := (fun g => g.1.size ≤ 1000000 ∧ (-4000000000000000000 ≤ g.2 ∧ g.2 ≤ 4000000000000000000))) (S' := (fun g => [(0, .pointer (some ⟨sb, 0, none⟩)), (4, .pointer (some ⟨g1, 0, none⟩)), (6, .slice none 0 0), (7, .slice oA k oc), (8, .int .i64 t8), (10, .pointer (some ⟨g10, 0, none⟩)), (23, .int .i64 ((q : Nat) : Int)), (24, .int .i64 ((i : Nat) : Int))])) (K' := (fun g => fun w => Strm 25 w B sb (m + 20 * i + 6))) (L' := (fun g => [(g10, 74, [.int .i64 t8, .string y0, .string g.1, .int .i64 g.2, .string ⟨#[]⟩]), (g2, 3, [.int .i64 0, .int .i64 1, .int .i64 10, .int .i64 50, .int .i64 100, .int .i64 500]), (g1, 31, [.slice (some ⟨bs, os, none⟩) sn sc, .slice cA cn cc, .slice (some ⟨bv, ov, none⟩) vn vc, .slice pA pn pc])])) (O' := (fun g => [⟨.slice oA k oc, 74, 5, k, xl.flatMap evEnc⟩])) (X' := (fun g => [SlOld stEnc 15 105 w.heap.size (some sb) (some ⟨bs, os, none⟩) sn sl, SlOld vhEnc 2 57 w.heap.size (some sb) (some ⟨bv, ov, none⟩) vn vl])) ?_ ?_
  ·refine sr_ (mv_ rfl ?_)
   refine wl_got (γ := Bool) (val := fun v => .bool v) (φ := fun v => True) rfl cb56 rfl rfl rfl rfl (fun wx hm => ((flip_any _ wx B sb _ hm.k (by omega) (by omega) (by omega)).mono fun _ _ ⟨v, he, hS, hg⟩ => ⟨v, trivial, he, hS, hg⟩)) fun f12 _ => ?_
   refine wl_ov (ov_un_not rfl) rfl (nn_ ?_)
   refine gw_cond rfl (fun hh => ?_) (fun hh => ?_)
   ·have hc13 : f12 = false := by simpa using hh
    clear hh
    refine sr_ (mv_ rfl (mv_ rfl (mv_ rfl ?_)))
    obtain ⟨SS, hSS⟩ : ∃ z, z = stateR xl y0 t8 := ⟨_, rfl⟩
    have hfine : SaFine SS := by rw [hSS]; exact stateR_fine hxok
    obtain ⟨s0, s1, s2⟩ := SS
    obtain ⟨hs00, hs05, hs1z⟩ := hfine
    have hs00 : 0 ≤ s0 := hs00
    have hs05 : s0 ≤ 5 := hs05
    have hs1z : s1.size ≤ 1000000 := hs1z
    obtain ⟨sj, rfl⟩ := Int.eq_ofNat_of_zero_le hs00
    obtain ⟨kv, hkv⟩ : ∃ x, ([1, 2, 3, 5, 7, 1] : List Int)[sj]? = some x := ⟨_, List.getElem?_eq_getElem (by simp; omega)⟩
    have hkvb : 1 ≤ kv ∧ kv ≤ 7 := mem_rng (List.mem_of_getElem? hkv) (by decide)
    refine wl_callv (v := .agg #[.int .i64 ((sj : Nat) : Int), .string s1, .int .i64 s2]) rfl cb63 rfl rfl (fun wx hm => (by have h := rStateAt_any xl oA k oc y0 t8 wx (SlT.ofOwn ev_len (hm.ownI 0 rfl) hxl) (by omega); rw [← hSS] at h; exact h)) ?_
    refine wl_alloc zc142 rfl fun g14 => ?_
    refine wl_stores (cs' := [.int .i64 ((sj : Nat) : Int), .string s1, .int .i64 s2]) 0 rz142 rfl rfl rfl rfl rfl rfl rfl rfl ?_
    refine nn_ (gw_seq (sr_ (fd_ fo142_1 rfl rfl (lk_ sc9 0 rfl rfl rfl (wl_ov (ov_sneq rfl rfl) rfl (nn_ ?_))))))
    refine gw_cond rfl (fun hh => ?_) (fun hh => ?_)
    ·have hc15 : (s1.toList == (⟨#[]⟩ : ByteArray).toList) = false := by simpa using hh
     clear hh
     refine gw_region (fd_ fo142_1 rfl rfl (lk_ sc9 0 rfl rfl rfl (fd_ fo74_2 rfl rfl ?_)))
     refine wl_store 1 sc9 rfl rfl rfl rfl rfl rfl ?_
     refine nn_ (sr_ ?_)
     refine wl_buildSlice (e := 3) (cs := [.int .i64 1, .int .i64 2, .int .i64 3, .int .i64 5, .int .i64 7, .int .i64 1]) rfl (by kernel_rfl) rfl fun g16 => ?_
     refine fd_ fo142_0 rfl rfl (lk_ sc3 1 rfl rfl rfl ?_)
     refine wl_ov (ov_index (j := sj) es22 rfl rfl (by omega)) rfl ?_
     refine wl_ov (ov_elem1 (k := 0) (v := .int .i64 kv) sc3 rfl (fun _ hm => (SlT.ofBlk (l := [1, 2, 3, 5, 7, 1]) it_len1 (hm.blkI 0 rfl))) hkv rfl rfl) rfl ?_
     refine fd_ fo74_3 rfl rfl ?_
     refine wl_store 2 sc3 rfl rfl rfl rfl rfl rfl ?_
     refine nn_ (sr_ (fd_ fo142_0 rfl rfl (lk_ sc3 1 rfl rfl rfl (wl_ov (ov_eql rfl rfl) rfl (nn_ ?_)))))
     refine gw_cond rfl (fun hh => ?_) (fun hh => ?_)
     ·have hc17 : ((sj : Nat) : Int) = 1 := by simpa using hh
      clear hh
      refine gw_region (mv_ rfl ?_)
      refine wl_buildSlice (e := 3) (cs := [.int .i64 2, .int .i64 2, .int .i64 2, .int .i64 4, .int .i64 6, .int .i64 8]) rfl (by kernel_rfl) rfl fun g18 => ?_
      refine wl_got (γ := Int) (val := fun v => .int .i64 v) (φ := fun v => v ∈ ([2, 2, 2, 4, 6, 8] : List Int)) rfl cb57 rfl rfl rfl rfl (fun wx hm => (pick_any [2, 2, 2, 4, 6, 8] _ _ _ wx B sb _ hm.k (by omega) (by simp) (by simp) (hm.blkI 0 rfl) (hm.neRow 0 rfl rfl))) fun v19 hv19 => ?_
      have bv19 : 2 ≤ v19 ∧ v19 ≤ 8 := mem_rng hv19 (by decide)
      have bv190 := bv19.1
      have bv191 := bv19.2
      clear bv19
      refine fd_ fo74_3 rfl rfl ?_
      refine wl_store 3 sc3 rfl rfl rfl rfl rfl rfl ?_
      refine wl_nil ?_
      exact nx_meet (s1, v19) ⟨by dsimp only; omega, by dsimp only; omega, by dsimp only; omega⟩ ⟨rfl, rfl, rfl, rfl, rfl, rfl, rfl, rfl, trivial⟩ (fun _ hm => (hm.more rfl (by first | omega | (dsimp only; omega))).pick [3, 4, 5] [0] [0, 1] rfl rfl)
     have hc17 : ¬ (((sj : Nat) : Int) = 1) := by simpa using hh
     clear hh
     refine gw_skip ?_
     exact nx_meet (s1, kv) ⟨by dsimp only; omega, by dsimp only; omega, by dsimp only; omega⟩ ⟨rfl, rfl, rfl, rfl, rfl, rfl, rfl, rfl, trivial⟩ (fun _ hm => (hm.more rfl (by first | omega | (dsimp only; omega))).pick [2, 3, 4] [0] [0, 1] rfl rfl)
    have hc15 : (s1.toList == (⟨#[]⟩ : ByteArray).toList) = true := by simpa using hh
    clear hh
    refine gw_skip (nx_then (sr_ ?_))
    refine wl_buildSlice (e := 3) (cs := [.int .i64 1, .int .i64 2, .int .i64 3, .int .i64 5, .int .i64 7, .int .i64 1]) rfl (by kernel_rfl) rfl fun g20 => ?_
    refine fd_ fo142_0 rfl rfl (lk_ sc3 1 rfl rfl rfl ?_)
    refine wl_ov (ov_index (j := sj) es22 rfl rfl (by omega)) rfl ?_
    refine wl_ov (ov_elem1 (k := 0) (v := .int .i64 kv) sc3 rfl (fun _ hm => (SlT.ofBlk (l := [1, 2, 3, 5, 7, 1]) it_len1 (hm.blkI 0 rfl))) hkv rfl rfl) rfl ?_
    refine fd_ fo74_3 rfl rfl ?_
    refine wl_store 2 sc3 rfl rfl rfl rfl rfl rfl ?_
    refine nn_ (sr_ (fd_ fo142_0 rfl rfl (lk_ sc3 1 rfl rfl rfl (wl_ov (ov_eql rfl rfl) rfl (nn_ ?_)))))
    refine gw_cond rfl (fun hh => ?_) (fun hh => ?_)
    ·have hc21 : ((sj : Nat) : Int) = 1 := by simpa using hh
     clear hh
     refine gw_region (mv_ rfl ?_)
     refine wl_buildSlice (e := 3) (cs := [.int .i64 2, .int .i64 2, .int .i64 2, .int .i64 4, .int .i64 6, .int .i64 8]) rfl (by kernel_rfl) rfl fun g22 => ?_
     refine wl_got (γ := Int) (val := fun v => .int .i64 v) (φ := fun v => v ∈ ([2, 2, 2, 4, 6, 8] : List Int)) rfl cb57 rfl rfl rfl rfl (fun wx hm => (pick_any [2, 2, 2, 4, 6, 8] _ _ _ wx B sb _ hm.k (by omega) (by simp) (by simp) (hm.blkI 0 rfl) (hm.neRow 0 rfl rfl))) fun v23 hv23 => ?_
     have bv23 : 2 ≤ v23 ∧ v23 ≤ 8 := mem_rng hv23 (by decide)
     have bv230 := bv23.1
     have bv231 := bv23.2
     clear bv23
     refine fd_ fo74_3 rfl rfl ?_
     refine wl_store 3 sc3 rfl rfl rfl rfl rfl rfl ?_
     refine wl_nil ?_
     exact nx_meet (st1, v23) ⟨by dsimp only; omega, by dsimp only; omega, by dsimp only; omega⟩ ⟨rfl, rfl, rfl, rfl, rfl, rfl, rfl, rfl, trivial⟩ (fun _ hm => (hm.more rfl (by first | omega | (dsimp only; omega))).pick [3, 4, 5] [0] [0, 1] rfl rfl)
    have hc21 : ¬ (((sj : Nat) : Int) = 1) := by simpa using hh
    clear hh
    refine gw_skip ?_
    exact nx_meet (st1, kv) ⟨by dsimp only; omega, by dsimp only; omega, by dsimp only; omega⟩ ⟨rfl, rfl, rfl, rfl, rfl, rfl, rfl, rfl, trivial⟩ (fun _ hm => (hm.more rfl (by first | omega | (dsimp only; omega))).pick [2, 3, 4] [0] [0, 1] rfl rfl)
   have hc13 : f12 = true := by simpa using hh
   clear hh
   refine gw_skip ?_
   exact nx_meet (st1, kd1) ⟨by dsimp only; omega, by dsimp only; omega, by dsimp only; omega⟩ ⟨rfl, rfl, rfl, rfl, rfl, rfl, rfl, rfl, trivial⟩ (fun _ hm => (hm.more rfl (by first | omega | (dsimp only; omega))).pick [0, 1, 2] [0] [0, 1] rfl rfl)
  rintro ⟨st2, kd2⟩ hinv
  replace hinv : st2.size ≤ 1000000 ∧ (-4000000000000000000 ≤ kd2 ∧ kd2 ≤ 4000000000000000000) := hinv
  dsimp only
  obtain ⟨hst2, hkd2a, hkd2b⟩ := hinv
  refine gw_cut (γ := ByteArray) (I := (fun (to3 : ByteArray) => to3.size ≤ 1000000)) (S' := (fun (to3 : ByteArray) => [(0, .pointer (some ⟨sb, 0, none⟩)), (4, .pointer (some ⟨g1, 0, none⟩)), (6, .slice none 0 0), (7, .slice oA k oc), (8, .int .i64 t8), (10, .pointer (some ⟨g10, 0, none⟩)), (23, .int .i64 ((q : Nat) : Int)), (24, .int .i64 ((i : Nat) : Int))])) (K' := (fun (to3 : ByteArray) => fun w => Strm 25 w B sb (m + 20 * i + 7))) (L' := (fun (to3 : ByteArray) => [(g10, 74, [.int .i64 t8, .string y0, .string st2, .int .i64 kd2, .string to3]), (g2, 3, [.int .i64 0, .int .i64 1, .int .i64 10, .int .i64 50, .int .i64 100, .int .i64 500]), (g1, 31, [.slice (some ⟨bs, os, none⟩) sn sc, .slice cA cn cc, .slice (some ⟨bv, ov, none⟩) vn vc, .slice pA pn pc])])) (O' := (fun (to3 : ByteArray) => [⟨.slice oA k oc, 74, 5, k, xl.flatMap evEnc⟩])) (X' := (fun (to3 : ByteArray) => [SlOld stEnc 15 105 w.heap.size (some sb) (some ⟨bs, os, none⟩) sn sl, SlOld vhEnc 2 57 w.heap.size (some sb) (some ⟨bv, ov, none⟩) vn vl])) ?_ ?_
  ·refine sr_ (fd_ fo74_3 rfl rfl (lk_ sc3 0 rfl rfl rfl (wl_ov (ov_eql rfl rfl) rfl (nn_ ?_))))
   refine gw_cond rfl (fun hh => ?_) (fun hh => ?_)
   ·have hc6 : kd2 = 6 := by simpa using hh
    clear hh
    refine gd (fun wz => Blk wz g2 3 [.int .i64 0, .int .i64 1, .int .i64 10, .int .i64 50, .int .i64 100, .int .i64 500] ∧ Blk wz g1 31 [.slice (some ⟨bs, os, none⟩) sn sc, .slice cA cn cc, .slice (some ⟨bv, ov, none⟩) vn vc, .slice pA pn pc] ∧ (SlOld stEnc 15 105 w.heap.size (some sb) (some ⟨bs, os, none⟩) sn sl) wz ∧ (SlOld vhEnc 2 57 w.heap.size (some sb) (some ⟨bv, ov, none⟩) vn vl) wz ∧ True) mixed (fun _ hm => ⟨hm.bl 1, hm.bl 2, hm.fa 0, hm.fa 1, trivial⟩) fun z => ?_
    refine wt 0 12 1 rfl z (ov_field fo31_0 rfl rfl) ?_
    refine wt 1 12 3 rfl z (ov_load sc26 rfl (fun _ hm => hm.2.1) rfl) ?_
    refine wt 2 12 7 rfl z (ov_move rfl) ?_
    refine wt 3 12 15 rfl z (ov_field fo31_0 rfl rfl) ?_
    refine wt 4 12 31 rfl z (ov_load sc26 rfl (fun _ hm => hm.2.1) rfl) ?_
    refine wt 5 12 63 rfl z (ov_len es26 rfl) ?_
    refine wa1 6 rfl ?_
    refine wl_got (γ := Int) (val := fun v => .int .i64 v) (φ := fun v => IsBelow ((sn : Nat) : Int) v) rfl cb23 rfl rfl rfl rfl (fun wx hm => (next_any _ wx B sb _ hm.k (by omega) (by omega) (by omega))) fun vu24 hvu24 => ?_
    have hju24 := isBelow_lt hvu24 (by omega)
    obtain ⟨ju24, rfl⟩ := Int.eq_ofNat_of_zero_le hju24.1
    have hjiu24 : ju24 < sn := by omega
    obtain ⟨zu24, hzu24⟩ : ∃ y, sl[ju24]? = some y := ⟨_, List.getElem?_eq_getElem (by omega)⟩
    obtain ⟨ku24, ru24⟩ := zu24
    have hku24 : ku24.size ≤ 1000000 := (hsok _ (List.mem_of_getElem? hzu24)).2.1
    refine wl_nil ?_
    refine nw 12 127 (fun _ hm => ⟨hm.bl 1, hm.bl 2, hm.fa 0, hm.fa 1, trivial⟩) fun z => ?_
    refine wt 7 12 255 rfl z (ov_index (j := ju24) es26 rfl rfl (by omega)) ?_
    refine wt 8 12 511 rfl z (ov_field fo105_0 rfl rfl) ?_
    refine wt 9 12 1023 rfl z (ov_elem1 (k := 0) (v := .string ku24) sc9 rfl (fun _ hm => (hm.2.2.1).1) hzu24 rfl rfl) ?_
    refine wt 10 12 2047 rfl z (ov_field fo74_4 rfl rfl) ?_
    refine wa1 11 rfl ?_
    refine wl_store 0 sc9 rfl rfl rfl rfl rfl rfl ?_
    refine wl_nil ?_
    refine nw 12 4095 (fun _ hm => ⟨hm.bl 1, hm.bl 2, hm.fa 0, hm.fa 1, trivial⟩) fun z => ?_
    refine wa_done (by kernel_rfl) ?_
    exact nx_meet ku24 (by (try dsimp only); omega) ⟨rfl, rfl, rfl, rfl, rfl, rfl, rfl, rfl, trivial⟩ (fun _ hm => (hm.more rfl (by first | omega | (dsimp only; omega))).pick [0, 1, 2] [0] [0, 1] rfl rfl)
   have hc6 : ¬ (kd2 = 6) := by simpa using hh
   clear hh
   refine gw_skip ?_
   exact nx_meet ⟨#[]⟩ (show (⟨#[]⟩ : ByteArray).size ≤ 1000000 by decide) ⟨rfl, rfl, rfl, rfl, rfl, rfl, rfl, rfl, trivial⟩ (fun _ hm => (hm.more rfl (by first | omega | (dsimp only; omega))).pick [0, 1, 2] [0] [0, 1] rfl rfl)
  intro to3 hinv
  replace hinv : to3.size ≤ 1000000 := hinv
  have hto3 : to3.size ≤ 1000000 := hinv
  refine gw_cut (γ := Int × ByteArray × ByteArray × Int × ByteArray) (I := (fun g => EvOk (⟨g.1, g.2.1, g.2.2.1, g.2.2.2.1, g.2.2.2.2⟩ : Ev))) (S' := (fun g => [(0, .pointer (some ⟨sb, 0, none⟩)), (4, .pointer (some ⟨g1, 0, none⟩)), (6, .slice none 0 0), (7, .slice oA k oc), (8, .int .i64 t8), (10, .pointer (some ⟨g10, 0, none⟩)), (23, .int .i64 ((q : Nat) : Int)), (24, .int .i64 ((i : Nat) : Int))])) (K' := (fun g => fun w => Strm 25 w B sb (m + 20 * i + 12))) (L' := (fun g => [(g10, 74, [.int .i64 g.1, .string g.2.1, .string g.2.2.1, .int .i64 g.2.2.2.1, .string g.2.2.2.2]), (g2, 3, [.int .i64 0, .int .i64 1, .int .i64 10, .int .i64 50, .int .i64 100, .int .i64 500]), (g1, 31, [.slice (some ⟨bs, os, none⟩) sn sc, .slice cA cn cc, .slice (some ⟨bv, ov, none⟩) vn vc, .slice pA pn pc])])) (O' := (fun g => [⟨.slice oA k oc, 74, 5, k, xl.flatMap evEnc⟩])) (X' := (fun g => [SlOld stEnc 15 105 w.heap.size (some sb) (some ⟨bs, os, none⟩) sn sl, SlOld vhEnc 2 57 w.heap.size (some sb) (some ⟨bv, ov, none⟩) vn vl])) ?_ ?_
  ·refine sr_ (mv_ rfl ?_)
   refine wl_got (γ := Bool) (val := fun v => .bool v) (φ := fun v => True) rfl cb56 rfl rfl rfl rfl (fun wx hm => ((flip_any _ wx B sb _ hm.k (by omega) (by omega) (by omega)).mono fun _ _ ⟨v, he, hS, hg⟩ => ⟨v, trivial, he, hS, hg⟩)) fun f25 _ => ?_
   refine nn_ ?_
   refine gw_cond rfl (fun hh => ?_) (fun hh => ?_)
   ·have hd26 : f25 = true := by simpa using hh
    clear hh
    refine sr_ (mv_ rfl ?_)
    refine wl_got (γ := Int) (val := fun v => .int .i64 v) (φ := fun v => IsBelow 4 v) rfl cb23 rfl rfl rfl rfl (fun wx hm => (next_any _ wx B sb _ hm.k (by omega) (by omega) (by omega))) fun v4 hv4 => ?_
    refine nn_ (gw_block (sr_ (wl_ov (ov_eql rfl rfl) rfl (sg_ rfl (nn_ ?_)))))
    refine gw_cond rfl (fun hh => ?_) (fun hh => ?_)
    ·have hd27 : v4 = 0 := by simpa using hh
     clear hh
     refine gw_region (mv_ rfl ?_)
     refine wl_got (γ := Int) (val := fun v => .int .i64 v) (φ := fun v => -2000000000000000 ≤ v ∧ v ≤ 2000000000000000) rfl cb64 rfl rfl rfl rfl (fun wx hm => (odd_any _ _ wx B sb _ hm.k (by omega) (by omega) (by omega) (by omega))) fun v28 hv28 => ?_
     refine fd_ fo74_3 rfl rfl ?_
     refine wl_store 0 sc3 rfl rfl rfl rfl rfl rfl ?_
     refine wl_nil (nx_blk_nrm ?_)
     exact nx_meet (t8, y0, st2, v28, to3) ⟨⟨by dsimp only; omega, by dsimp only; omega⟩, ⟨by dsimp only; omega, by dsimp only; omega⟩, by dsimp only; omega, by dsimp only; omega, by dsimp only; omega⟩ ⟨rfl, rfl, rfl, rfl, rfl, rfl, rfl, rfl, trivial⟩ (fun _ hm => (hm.more rfl (by first | omega | (dsimp only; omega))).pick [0, 1, 2] [0] [0, 1] rfl rfl)
    have hd27 : ¬ (v4 = 0) := by simpa using hh
    clear hh
    refine sr_ (wl_ov (ov_eql rfl rfl) rfl (sg_ rfl (nn_ ?_)))
    refine gw_cond rfl (fun hh => ?_) (fun hh => ?_)
    ·have hd29 : v4 = 1 := by simpa using hh
     clear hh
     refine gw_region (mv_ rfl ?_)
     refine wl_buildSlice (e := 9) (cs := [.string ⟨#[115, 49]⟩, .string ⟨#[110, 111, 110, 101]⟩, .string ⟨#[]⟩]) rfl (by kernel_rfl) rfl fun g30 => ?_
     refine wl_got (γ := ByteArray) (val := fun v => .string v) (φ := fun v => v ∈ ([⟨#[115, 49]⟩, ⟨#[110, 111, 110, 101]⟩, ⟨#[]⟩] : List ByteArray)) rfl cb34 rfl rfl rfl rfl (fun wx hm => (some_any [⟨#[115, 49]⟩, ⟨#[110, 111, 110, 101]⟩, ⟨#[]⟩] _ _ _ wx B sb _ hm.k (by omega) (by simp) (by simp) (hm.blkI 0 rfl) (hm.neRow 0 rfl rfl))) fun s31 hs31 => ?_
     have zs31 : s31.size ≤ 100 := mem_sz hs31 (by decide)
     refine fd_ fo74_4 rfl rfl ?_
     refine wl_store 1 sc9 rfl rfl rfl rfl rfl rfl ?_
     refine wl_nil (nx_blk_nrm ?_)
     exact nx_meet (t8, y0, st2, kd2, s31) ⟨⟨by dsimp only; omega, by dsimp only; omega⟩, ⟨by dsimp only; omega, by dsimp only; omega⟩, by dsimp only; omega, by dsimp only; omega, by dsimp only; omega⟩ ⟨rfl, rfl, rfl, rfl, rfl, rfl, rfl, rfl, trivial⟩ (fun _ hm => (hm.more rfl (by first | omega | (dsimp only; omega))).pick [1, 2, 3] [0] [0, 1] rfl rfl)
    have hd29 : ¬ (v4 = 1) := by simpa using hh
    clear hh
    refine sr_ (wl_ov (ov_eql rfl rfl) rfl (sg_ rfl (nn_ ?_)))
    refine gw_cond rfl (fun hh => ?_) (fun hh => ?_)
    ·have hd32 : v4 = 2 := by simpa using hh
     clear hh
     refine gw_region (mv_ rfl ?_)
     refine wl_calls (γ := ByteArray) (val := (fun g => .string g)) (φ := (fun g => g.size ≤ 100)) (Y := (fun g => fun _ => True)) (m' := m + 20 * i + 7 + 1 + 1 + 1) rfl cb65 rfl rfl rfl rfl (fun wx hm => (gvehicleKey_any wx B sb _ hm.k (by omega)).mono fun _ _ ⟨v, he, hv, hS, hg⟩ => ⟨v, he, hv, hS, hg, trivial⟩) (fun _ => Lasts2.true_) ?_
     rintro vk hvk
     refine fd_ fo74_1 rfl rfl ?_
     refine wl_store 0 sc9 rfl rfl rfl rfl rfl rfl ?_
     refine wl_nil (nx_blk_nrm ?_)
     exact nx_meet (t8, vk, st2, kd2, to3) ⟨⟨by dsimp only; omega, by dsimp only; omega⟩, ⟨by dsimp only; omega, by dsimp only; omega⟩, by dsimp only; omega, by dsimp only; omega, by dsimp only; omega⟩ ⟨rfl, rfl, rfl, rfl, rfl, rfl, rfl, rfl, trivial⟩ (fun _ hm => (hm.more rfl (by first | omega | (dsimp only; omega))).pick [0, 1, 2] [0] [1, 2] rfl rfl)
    have hd32 : ¬ (v4 = 2) := by simpa using hh
    clear hh
    refine gw_region (mv_ rfl ?_)
    refine wl_got (γ := Int) (val := fun v => .int .i64 v) (φ := fun v => -2000000000000000 ≤ v ∧ v ≤ 2000000000000000) rfl cb64 rfl rfl rfl rfl (fun wx hm => (odd_any _ _ wx B sb _ hm.k (by omega) (by omega) (by omega) (by omega))) fun v34 hv34 => ?_
    refine fd_ fo74_0 rfl rfl ?_
    refine wl_store 0 sc3 rfl rfl rfl rfl rfl rfl ?_
    refine wl_nil (nx_blk_nrm ?_)
    exact nx_meet (v34, y0, st2, kd2, to3) ⟨⟨by dsimp only; omega, by dsimp only; omega⟩, ⟨by dsimp only; omega, by dsimp only; omega⟩, by dsimp only; omega, by dsimp only; omega, by dsimp only; omega⟩ ⟨rfl, rfl, rfl, rfl, rfl, rfl, rfl, rfl, trivial⟩ (fun _ hm => (hm.more rfl (by first | omega | (dsimp only; omega))).pick [0, 1, 2] [0] [0, 1] rfl rfl)
   have hd26 : f25 = false := by simpa using hh
   clear hh
   refine gw_skip ?_
   exact nx_meet (t8, y0, st2, kd2, to3) ⟨⟨by dsimp only; omega, by dsimp only; omega⟩, ⟨by dsimp only; omega, by dsimp only; omega⟩, by dsimp only; omega, by dsimp only; omega, by dsimp only; omega⟩ ⟨rfl, rfl, rfl, rfl, rfl, rfl, rfl, rfl, trivial⟩ (fun _ hm => (hm.more rfl (by first | omega | (dsimp only; omega))).pick [0, 1, 2] [0] [0, 1] rfl rfl)
  rintro ⟨a4, ve4, st4, kd4, to4⟩ hinv
  replace hinv : EvOk (⟨a4, ve4, st4, kd4, to4⟩ : Ev) := hinv
  dsimp only
  have hx4 : EvOk (⟨a4, ve4, st4, kd4, to4⟩ : Ev) := hinv
  have huok : ∀ x ∈ xl ++ [(⟨a4, ve4, st4, kd4, to4⟩ : Ev)], EvOk x := all_snoc hxok hx4
  have hul : (xl ++ [(⟨a4, ve4, st4, kd4, to4⟩ : Ev)]).length = k + 1 := by simp [hxl]
  obtain ⟨us, hus⟩ : ∃ z, z = xl ++ [(⟨a4, ve4, st4, kd4, to4⟩ : Ev)] := ⟨_, rfl⟩
  rw [← hus] at huok hul
  obtain ⟨LE, hLE⟩ : ∃ z, z = logE sl vl us := ⟨_, rfl⟩
  refine gw_cut (γ := Bool) (I := (fun (bb : Bool) => True)) (S' := (fun (bb : Bool) => [(0, .pointer (some ⟨sb, 0, none⟩)), (4, .pointer (some ⟨g1, 0, none⟩)), (6, .slice none 0 0), (7, .slice oA k oc), (8, .int .i64 t8), (10, .pointer (some ⟨g10, 0, none⟩)), (23, .int .i64 ((q : Nat) : Int)), (24, .int .i64 ((i : Nat) : Int)), (130, .bool bb)])) (K' := (fun (bb : Bool) => fun w => Strm 25 w B sb (m + 20 * i + 13))) (L' := (fun (bb : Bool) => [(g10, 74, [.int .i64 a4, .string ve4, .string st4, .int .i64 kd4, .string to4]), (g2, 3, [.int .i64 0, .int .i64 1, .int .i64 10, .int .i64 50, .int .i64 100, .int .i64 500]), (g1, 31, [.slice (some ⟨bs, os, none⟩) sn sc, .slice cA cn cc, .slice (some ⟨bv, ov, none⟩) vn vc, .slice pA pn pc])])) (O' := (fun (bb : Bool) => [⟨.slice oA k oc, 74, 5, k, xl.flatMap evEnc⟩])) (X' := (fun (bb : Bool) => [SlOld stEnc 15 105 w.heap.size (some sb) (some ⟨bs, os, none⟩) sn sl, SlOld vhEnc 2 57 w.heap.size (some sb) (some ⟨bv, ov, none⟩) vn vl])) ?_ ?_
  ·refine gd (fun wz => Blk wz g10 74 [.int .i64 a4, .string ve4, .string st4, .int .i64 kd4, .string to4] ∧ Blk wz g2 3 [.int .i64 0, .int .i64 1, .int .i64 10, .int .i64 50, .int .i64 100, .int .i64 500] ∧ Blk wz g1 31 [.slice (some ⟨bs, os, none⟩) sn sc, .slice cA cn cc, .slice (some ⟨bv, ov, none⟩) vn vc, .slice pA pn pc] ∧ (SlOld stEnc 15 105 w.heap.size (some sb) (some ⟨bs, os, none⟩) sn sl) wz ∧ (SlOld vhEnc 2 57 w.heap.size (some sb) (some ⟨bv, ov, none⟩) vn vl) wz ∧ True) mixed (fun _ hm => ⟨hm.bl 0, hm.bl 1, hm.bl 2, hm.fa 0, hm.fa 1, trivial⟩) fun z => ?_
   refine wt 0 12 1 rfl z (ov_move rfl) ?_
   refine wa1 1 rfl ?_
   refine wl_got (γ := Bool) (val := fun v => .bool v) (φ := fun v => True) rfl cb56 rfl rfl rfl rfl (fun wx hm => ((flip_any _ wx B sb _ hm.k (by omega) (by omega) (by omega)).mono fun _ _ ⟨v, he, hS, hg⟩ => ⟨v, trivial, he, hS, hg⟩)) fun f35 _ => ?_
   refine wl_nil ?_
   refine nw 12 3 (fun _ hm => ⟨hm.bl 0, hm.bl 1, hm.bl 2, hm.fa 0, hm.fa 1, trivial⟩) fun z => ?_
   refine wt 2 12 7 rfl z (ov_move rfl) ?_
   rcases Bool.eq_false_or_eq_true f35 with hg8 | hg8
   ·refine wa_set 121 rfl (congrArg Value.bool hg8) ?_
    refine wtf 3 12 15 rfl rfl rfl z ?_
    refine wtf 4 12 31 rfl rfl rfl z ?_
    refine wtf 5 12 63 rfl rfl rfl z ?_
    refine wtf 6 12 127 rfl rfl rfl z ?_
    refine wtf 7 12 255 rfl rfl rfl z ?_
    refine wtf 8 12 511 rfl rfl rfl z ?_
    refine wtf 9 12 1023 rfl rfl rfl z ?_
    refine wtf 10 12 2047 rfl rfl rfl z ?_
    refine wt 11 12 4095 rfl z (ov_pick_t rfl rfl) ?_
    refine wa_done (by kernel_rfl) ?_
    exact nx_meet true trivial ⟨rfl, rfl, rfl, rfl, rfl, rfl, rfl, rfl, rfl, trivial⟩ (fun _ hm => (hm.more rfl (by first | omega | (dsimp only; omega))).pick [0, 1, 2] [0] [0, 1] rfl rfl)
   refine wa_set 121 rfl (congrArg Value.bool hg8) ?_
   refine wto 3 12 15 rfl rfl rfl z (ov_loads rz31 rfl (fun _ hm => hm.2.2.1) rfl rfl) ?_
   refine wto 4 12 31 rfl rfl rfl z (ov_move rfl) ?_
   refine wto 6 12 95 rfl rfl rfl z (ov_loads rz74 rfl (fun _ hm => hm.1) rfl rfl) ?_
   refine wa_all [5, 7] (by kernel_rfl) rfl ⟨⟨_, rfl, ?_⟩, ⟨_, rfl, ?_⟩, trivial⟩
   ·refine wl_guard_on rfl rfl rfl ?_
    refine wl_callgo (γ := Option Addr × Nat) (val := (fun g => .slice g.1 k g.2)) (φ := (fun g => True)) (fun g => ⟨.slice g.1 k g.2, 74, 5, k, xl.flatMap evEnc⟩) rfl cb66 rfl rfl (fun wx hm => (cloneEvents_all xl oA k oc wx (SlT.ofOwn ev_len (hm.ownI 0 rfl) hxl) (own_shape (hm.ownI 0 rfl)) (by omega)).mono fun _ _ ⟨A, c, he, ho, hg⟩ => ⟨(A, c), he, trivial, ho, hg⟩) ?_
    rintro ⟨A3, c3⟩ hphi
    dsimp only at hphi ⊢
    refine wl_nil ?_
    refine nw 12 127 (fun _ hm => ⟨hm.bl 0, hm.bl 1, hm.bl 2, hm.fa 0, hm.fa 1, trivial⟩) fun z => ?_
    refine wa1 7 rfl ?_
    refine wl_guard_on rfl rfl rfl ?_
    refine wl_buildSlice (e := 74) (cs := [.int .i64 a4, .string ve4, .string st4, .int .i64 kd4, .string to4]) rfl (by kernel_rfl) rfl fun g36 => ?_
    refine wl_nil ?_
    refine nw 12 255 (fun _ hm => ⟨hm.bl 1, hm.bl 2, hm.bl 3, hm.fa 0, hm.fa 1, trivial⟩) fun z => ?_
    refine wa1 8 rfl ?_
    refine wl_guard_on rfl rfl rfl ?_
    refine wl_append (news := [.int .i64 a4, .string ve4, .string st4, .int .i64 kd4, .string to4]) 0 0 ap47 rfl rfl rfl rfl rfl rfl rfl (by omega) (by unfold maxLen; omega) rfl rfl fun v2 hv2 => ?_
    refine wl_look (R := ∃ A cc, v2 = .slice A (k + 1) cc) (fun wx hm => own_slice (hm.ownI 0 rfl)) ?_
    rintro ⟨A4, c4, rfl⟩
    have hxs : xl.flatMap evEnc ++ ([.int .i64 a4, .string ve4, .string st4, .int .i64 kd4, .string to4] : List Value) = us.flatMap evEnc := by rw [hus]; simp [evEnc]
    rw [hxs]
    refine wl_nil ?_
    refine nw 12 511 (fun _ hm => ⟨hm.bl 1, hm.bl 2, hm.bl 3, hm.fa 0, hm.fa 1, trivial⟩) fun z => ?_
    refine wa1 9 rfl ?_
    refine wl_guard_on rfl rfl rfl ?_
    refine wl_callv (v := .int .i64 LE) rfl cb20 rfl rfl (fun wx hm => (by rw [hLE]; exact logFault_any sl vl (some ⟨bs, os, none⟩) cA (some ⟨bv, ov, none⟩) pA sn sc cn cc vn vc pn pc us A4 (k + 1) c4 wx (hm.fact 0 rfl).1 (hm.fact 1 rfl).1 hsok (by omega) (by omega) (SlT.ofOwn ev_len (hm.ownI 0 rfl) hul) huok (by omega))) ?_
    refine wl_nil ?_
    refine nw 12 1023 (fun _ hm => ⟨hm.bl 1, hm.bl 2, hm.bl 3, hm.fa 0, hm.fa 1, trivial⟩) fun z => ?_
    refine wto 10 12 2047 rfl rfl rfl z (ov_eql rfl rfl) ?_
    refine wt 11 12 4095 rfl z (ov_pick_f rfl rfl) ?_
    refine wa_done (by kernel_rfl) ?_
    exact nx_meet (decide (LE = 0)) trivial ⟨rfl, rfl, rfl, rfl, rfl, rfl, rfl, rfl, rfl, trivial⟩ (fun _ hm => (hm.more rfl (by first | omega | (dsimp only; omega))).pick [1, 2, 3] [1] [0, 1] rfl rfl)
   refine wl_guard_on rfl rfl rfl ?_
   refine wl_buildSlice (e := 74) (cs := [.int .i64 a4, .string ve4, .string st4, .int .i64 kd4, .string to4]) rfl (by kernel_rfl) rfl fun g37 => ?_
   refine wl_nil ?_
   refine nw 12 223 (fun _ hm => ⟨hm.bl 1, hm.bl 2, hm.bl 3, hm.fa 0, hm.fa 1, trivial⟩) fun z => ?_
   refine wa1 5 rfl ?_
   refine wl_guard_on rfl rfl rfl ?_
   refine wl_callgo (γ := Option Addr × Nat) (val := (fun g => .slice g.1 k g.2)) (φ := (fun g => True)) (fun g => ⟨.slice g.1 k g.2, 74, 5, k, xl.flatMap evEnc⟩) rfl cb66 rfl rfl (fun wx hm => (cloneEvents_all xl oA k oc wx (SlT.ofOwn ev_len (hm.ownI 0 rfl) hxl) (own_shape (hm.ownI 0 rfl)) (by omega)).mono fun _ _ ⟨A, c, he, ho, hg⟩ => ⟨(A, c), he, trivial, ho, hg⟩) ?_
   rintro ⟨A3, c3⟩ hphi
   dsimp only at hphi ⊢
   refine wl_nil ?_
   refine nw 12 255 (fun _ hm => ⟨hm.bl 1, hm.bl 2, hm.bl 3, hm.fa 0, hm.fa 1, trivial⟩) fun z => ?_
   refine wa1 8 rfl ?_
   refine wl_guard_on rfl rfl rfl ?_
   refine wl_append (news := [.int .i64 a4, .string ve4, .string st4, .int .i64 kd4, .string to4]) 0 0 ap47 rfl rfl rfl rfl rfl rfl rfl (by omega) (by unfold maxLen; omega) rfl rfl fun v2 hv2 => ?_
   refine wl_look (R := ∃ A cc, v2 = .slice A (k + 1) cc) (fun wx hm => own_slice (hm.ownI 0 rfl)) ?_
   rintro ⟨A4, c4, rfl⟩
   have hxs : xl.flatMap evEnc ++ ([.int .i64 a4, .string ve4, .string st4, .int .i64 kd4, .string to4] : List Value) = us.flatMap evEnc := by rw [hus]; simp [evEnc]
   rw [hxs]
   refine wl_nil ?_
   refine nw 12 511 (fun _ hm => ⟨hm.bl 1, hm.bl 2, hm.bl 3, hm.fa 0, hm.fa 1, trivial⟩) fun z => ?_
   refine wa1 9 rfl ?_
   refine wl_guard_on rfl rfl rfl ?_
   refine wl_callv (v := .int .i64 LE) rfl cb20 rfl rfl (fun wx hm => (by rw [hLE]; exact logFault_any sl vl (some ⟨bs, os, none⟩) cA (some ⟨bv, ov, none⟩) pA sn sc cn cc vn vc pn pc us A4 (k + 1) c4 wx (hm.fact 0 rfl).1 (hm.fact 1 rfl).1 hsok (by omega) (by omega) (SlT.ofOwn ev_len (hm.ownI 0 rfl) hul) huok (by omega))) ?_
   refine wl_nil ?_
   refine nw 12 1023 (fun _ hm => ⟨hm.bl 1, hm.bl 2, hm.bl 3, hm.fa 0, hm.fa 1, trivial⟩) fun z => ?_
   refine wto 10 12 2047 rfl rfl rfl z (ov_eql rfl rfl) ?_
   refine wt 11 12 4095 rfl z (ov_pick_f rfl rfl) ?_
   refine wa_done (by kernel_rfl) ?_
   exact nx_meet (decide (LE = 0)) trivial ⟨rfl, rfl, rfl, rfl, rfl, rfl, rfl, rfl, rfl, trivial⟩ (fun _ hm => (hm.more rfl (by first | omega | (dsimp only; omega))).pick [1, 2, 3] [1] [0, 1] rfl rfl)
  intro bb hinv
  replace hinv : True := hinv
  refine gw_cond rfl (fun hh => ?_) (fun hh => ?_)
  ·have hbb : bb = true := by simpa using hh
   clear hh
   refine gw_region (mv_ rfl ?_)
   refine wl_ov (ov_loads rz74 rfl (fun _ hm => hm.blkI 0 rfl) rfl rfl) rfl ?_
   refine wl_buildSlice (e := 74) (cs := [.int .i64 a4, .string ve4, .string st4, .int .i64 kd4, .string to4]) rfl (by kernel_rfl) rfl fun g38 => ?_
   refine wl_append (news := [.int .i64 a4, .string ve4, .string st4, .int .i64 kd4, .string to4]) 0 0 ap47 rfl rfl rfl rfl rfl rfl rfl (by omega) (by unfold maxLen; omega) rfl rfl fun v2 hv2 => ?_
   refine wl_look (R := ∃ A cc, v2 = .slice A (k + 1) cc) (fun wx hm => own_slice (hm.ownI 0 rfl)) ?_
   rintro ⟨A4, c4, rfl⟩
   have hxs : xl.flatMap evEnc ++ ([.int .i64 a4, .string ve4, .string st4, .int .i64 kd4, .string to4] : List Value) = us.flatMap evEnc := by rw [hus]; simp [evEnc]
   rw [hxs]
   refine sg_ rfl (wl_nil (nx_blk_nrm (nx_then (gw_region (ad_ rfl rfl (mv_ rfl (wl_nil ?_)))))))
   exact nx_round (i + 1, k + 1, t8, A4, c4, us) ⟨by dsimp only; omega, by dsimp only; omega, ⟨by dsimp only; omega, by dsimp only; omega⟩, hul, huok⟩ (by dsimp only; omega) ⟨rfl, rfl, rfl, rfl, rfl, rfl, (some_int (by omega)), trivial⟩ (fun _ hm => (hm.more rfl (by first | omega | (dsimp only; omega))).pick [3] [0] [0, 1] rfl rfl)
  have hbb : bb = false := by simpa using hh
  clear hh
  refine gw_skip (nx_blk_nrm (nx_then (gw_region (ad_ rfl rfl (mv_ rfl (wl_nil ?_))))))
  exact nx_round (i + 1, k, t8, oA, oc, xl) ⟨by dsimp only; omega, by dsimp only; omega, ⟨by dsimp only; omega, by dsimp only; omega⟩, hxl, hxok⟩ (by dsimp only; omega) ⟨rfl, rfl, rfl, rfl, rfl, rfl, (some_int (by omega)), trivial⟩ (fun _ hm => (hm.more rfl (by first | omega | (dsimp only; omega))).pick [2] [0] [0, 1] rfl rfl)
 have hi : ¬ (((i : Nat) : Int) < ((q : Nat) : Int)) := by simpa using hh
 clear hh
 refine gw_exit ?_
 refine nx_then_exit (nx_then_exit ?_)
 refine nx_blk_here ?_
 refine nx_then (sr_ (mv_ rfl (sg_ rfl (nn_ ?_))))
 refine gw_ret ?_
 refine nx_ret1 rfl rfl fun wx hm => ?_
 exact ⟨oA, k, oc, xl, rfl, (hm.ownI 0 rfl), hxl, hxok, by omega, hm.k.more (by omega), hm.g⟩
end Go.Proofs.YtiendebcdicjnaaGreatDoor
namespace Go.Proofs.YtiendebcdicjnaaGreatDoor
open Go.RowKit
theorem fleet_rise {sl : List St} {cl : List Cs} {vl : List Vh} {pl : List Pl} (h : fleetE sl cl vl pl = 0) : Rise vl := by
  unfold fleetE at h
  exact (vehs_rise (fe_all h (vehsE cl vl) (by simp))).2
theorem fe_hd {a : Int} {r : List Int} (h : a ≠ 0) : firstE (a :: r) = a := by simp [firstE, h]
theorem fe_tl {r : List Int} : firstE (0 :: r) = firstE r := by simp [firstE]
end Go.Proofs.YtiendebcdicjnaaGreatDoor
namespace Go.Proofs.YtiendebcdicjnaaGreatDoor
open Go.RowKit
def evsE (sl : List St) (cl : List Cs) (vl : List Vh) (pl : List Pl) (el : List Ev) : Int := firstE [fleetE sl cl vl pl, logE sl vl el]
theorem evs_one {sl : List St} {cl : List Cs} {vl : List Vh} {pl : List Pl} {el : List Ev} (h : fleetE sl cl vl pl ≠ 0) : evsE sl cl vl pl el = fleetE sl cl vl pl := fe_hd h
theorem evs_two {sl : List St} {cl : List Cs} {vl : List Vh} {pl : List Pl} {el : List Ev} (h : fleetE sl cl vl pl = 0) : evsE sl cl vl pl el = logE sl vl el := by
  unfold evsE; rw [h, fe_tl]
  by_cases h2 : logE sl vl el = 0
  · rw [h2]; rfl
  · exact fe_hd h2
theorem log_ok {sl : List St} {vl : List Vh} {el : List Ev} (h : logE sl vl el = 0) : ESort el ∧ (∀ x ∈ el, EvFine sl vl x) ∧ el.length ≤ 3000 := by
  unfold logE at h
  split at h
  · cases h
  · obtain ⟨h1, _, h3⟩ := log_fine h
    exact ⟨h1, h3, by omega⟩
theorem check2_any (sl : List St) (cl : List Cs) (vl : List Vh) (pl : List Pl) (sA cA vA pA : Option Addr) (sn sc cn cc vn vc pn pc : Nat) (el : List Ev) (eA : Option Addr) (en ec : Nat) (w : World) (hs : SlT stEnc 15 105 w sA sn sl) (hc : SlT csEnc 2 90 w cA cn cl) (hv : SlT vhEnc 2 57 w vA vn vl) (hp : SlT plEnc 3 151 w pA pn pl) (hsok : ∀ x ∈ sl, StOk x) (hcok : ∀ x ∈ cl, CsOk x) (hvok : ∀ x ∈ vl, VhOk x) (hpok : ∀ x ∈ pl, PlOk x) (hsn : sn ≤ 1000000) (hcn : cn ≤ 1000000) (hvn : vn ≤ 1000000) (hpn : pn ≤ 1000000) (hl : SlT evEnc 5 74 w eA en el) (heok : ∀ x ∈ el, EvOk x) (hen : en ≤ 1000000) :
  Calls Tryz.prog 21 #[.agg #[.slice sA sn sc, .slice cA cn cc, .slice vA vn vc, .slice pA pn pc], .slice eA en ec] w (GotE w (evsE sl cl vl pl el)) := by
 refine gw_enter ⟨14, w, none, []⟩ Tryz.func21 rfl Tryz.ntmps21 rfl (mem0 (X := [SlOld stEnc 15 105 w.heap.size none sA sn sl, SlOld csEnc 2 90 w.heap.size none cA cn cl, SlOld vhEnc 2 57 w.heap.size none vA vn vl, SlOld plEnc 3 151 w.heap.size none pA pn pl, SlOld evEnc 5 74 w.heap.size none eA en el]) (allF_cons hs.old (allF_cons hc.old (allF_cons hv.old (allF_cons hp.old (allF_cons hl.old allF_nil))))) (allL_cons SlOld.lasts (allL_cons SlOld.lasts (allL_cons SlOld.lasts (allL_cons SlOld.lasts (allL_cons SlOld.lasts allL_nil)))))) ?_
 refine sr_ ?_
 obtain ⟨FE, hFE⟩ : ∃ z, z = fleetE sl cl vl pl := ⟨_, rfl⟩
 obtain ⟨LE, hLE⟩ : ∃ z, z = logE sl vl el := ⟨_, rfl⟩
 refine wl_box rfl rfl rfl fun g1 => ?_
 refine sg_ rfl (nn_ (gw_seq (sr_ ?_)))
 refine wl_ov (ov_loads rz31 rfl (fun _ hm => hm.blkI 0 rfl) rfl rfl) rfl ?_
 refine wl_callv (v := .int .i64 FE) rfl cb72 rfl rfl (fun wx hm => (by rw [hFE]; exact checkFleet_any sl cl vl pl sA cA vA pA sn sc cn cc vn vc pn pc wx (hm.fact 0 rfl).1 (hm.fact 1 rfl).1 (hm.fact 2 rfl).1 (hm.fact 3 rfl).1 hsok hcok hvok hpok hsn hcn hvn hpn)) ?_
 refine sg_ rfl (nn_ (sr_ (mv_ rfl (wl_ov (ov_neq rfl rfl) rfl (nn_ ?_)))))
 refine gw_cond rfl (fun hh => ?_) (fun hh => ?_)
 ·have h1 : ¬ (FE = 0) := by simpa using hh
  clear hh
  refine sr_ (mv_ rfl (sg_ rfl (nn_ ?_)))
  refine gw_ret ?_
  refine nx_then_ret ?_
  refine nx_ret1 rfl rfl fun wx hm => ?_
  exact ⟨ret_int (by rw [evs_one (by rw [← hFE]; simpa using h1)]; exact hFE), hm.g⟩
 have h1 : FE = 0 := by simpa using hh
 clear hh
 refine gw_skip (nx_then (sr_ ?_))
 have h0 : fleetE sl cl vl pl = 0 := by rw [← hFE]; simpa using h1
 have hrise := fleet_rise h0
 refine wl_ov (ov_loads rz31 rfl (fun _ hm => hm.blkI 0 rfl) rfl rfl) rfl ?_
 refine mv_ rfl ?_
 refine wl_callv (v := .int .i64 LE) rfl cb73 rfl rfl (fun wx hm => (by rw [hLE]; exact check_any sl vl sA cA vA pA sn sc cn cc vn vc pn pc el eA en ec wx (hm.fact 0 rfl).1 (hm.fact 2 rfl).1 hsok hsn hvn (hm.fact 4 rfl).1 heok hen hrise)) ?_
 refine sg_ rfl (nn_ ?_)
 refine gw_ret ?_
 refine nx_ret1 rfl rfl fun wx hm => ?_
 exact ⟨ret_int (by rw [evs_two h0]; exact hLE), hm.g⟩
end Go.Proofs.YtiendebcdicjnaaGreatDoor
namespace Go.Proofs.YtiendebcdicjnaaGreatDoor
open Go.RowKit
theorem zeroCells_size (z : Array Value) (n : Nat) : (Builtin.zeroCells z n).size = n * z.size := by simp [Builtin.zeroCells]
theorem own_shrink0 {w : World} {base sz n cap g : Nat} {e : TypeId} {xs : List Value} (h : w.ownsRow base e sz (.slice (some ⟨g, 0, none⟩) n cap) n xs) : w.ownsRow base e sz (.slice (some ⟨g, 0, none⟩) 0 cap) 0 [] := by
  rcases h.2 with ⟨h1, _⟩ | ⟨g', cap', cur, h1, hb, hh, hle, hm, hs, ht⟩
  · cases h1
  · injection h1 with h1 _ h3
    injection h1 with h1
    injection h1 with h1 _ _
    subst h1 h3
    exact ⟨by simp, .inr ⟨g, cap, cur, rfl, hb, hh, Nat.zero_le _, hm, hs, by simp⟩⟩
section
variable {P : Program} {c : Cx} {ops : Array Oper} {Q : Exit → Act → World → Prop} {rest : List Oper} {S : List (Nat × Value)} {K : World → Prop} {L : List (Nat × TypeId × List Value)} {O : List Own} {X : List (World → Prop)}
variable {d : Nat} {ty : TypeId} {pos : String} {aft : Array Edge}
theorem wl_appendZ {t tn e : TypeId} {kn : IntKind} {sz by_ : Nat} {x y : Operand} {n : Nat} (ht : appB P t = some (e, sz, by_)) (htn : P.underlying tn = some (.int kn)) (h0 : 0 < n) (hx : rd S x = some (.slice none 0 0)) (hy : rd S y = some (.int .i64 (n : Int))) (hb : n * by_ ≤ 140737488355328) (h63 : n ≤ maxLen) (hd : Nat.ble (d + 1) c.n = true)
    (h : ∀ g cap zs, n ≤ cap → WL P c ops Q rest ((d, .slice (some ⟨g, 0, none⟩) n cap) :: S) K L (⟨.slice (some ⟨g, 0, none⟩) n cap, e, sz, n, zs⟩ :: O) X) : WL P c ops Q (⟨some d, .call ⟨.builtin .append, #[x, y], #[t, tn]⟩, ty, pos, aft, none⟩ :: rest) S K L O X := by
  intro a w ha hm
  unfold appB at ht
  split at ht
  · rename_i e' hu
    split at ht
    · rename_i inf hi
      split at ht
      · rename_i z hz
        split at ht
        · rename_i hzz
          simp only [Option.some.injEq, Prod.mk.injEq] at ht
          obtain ⟨rfl, rfl, rfl⟩ := ht
          have hml : maxLen ≤ 9223372036854775807 := by unfold maxLen; omega
          have hr := Lib.run_append_nil_zeros (P := P) w t tn ty e' inf z .i64 kn hu htn hi hz n h0 hzz.2 (by omega) (by omega)
          refine Lib.wpList_append_run w rfl x y t tn rfl _ _ (ha.eval hx) (ha.eval hy) _ _ hr ?_
          have hcs : (Builtin.zeroCells z.cells n ++ Builtin.zeroCells z.cells (grownCap w n 0 e' - n)).size = grownCap w n 0 e' * inf.size := by
            have hge := grownCap_ge w n 0 e'
            rw [Array.size_append, zeroCells_size, zeroCells_size, hzz.1, ← Nat.add_mul]
            congr 1; omega
          have hown : (w.drew.alloc (.cells (Builtin.zeroCells z.cells n ++ Builtin.zeroCells z.cells (grownCap w n 0 e' - n)) e')).ownsRow w.heap.size e' inf.size (.slice (some ⟨w.heap.size, 0, none⟩) n (grownCap w n 0 e')) n ((Builtin.zeroCells z.cells n ++ Builtin.zeroCells z.cells (grownCap w n 0 e' - n)).toList.take (n * inf.size)) := by
            have hge := grownCap_ge w n 0 e'
            have hmul := Nat.mul_le_mul_right inf.size hge
            refine ⟨by rw [List.length_take, Array.length_toList, hcs]; omega, .inr ⟨w.heap.size, grownCap w n 0 e', _, rfl, Nat.le_refl _, ?_, hge, grownCap_le_maxLen w n 0 e' h63, hcs, rfl⟩⟩
            exact heap_alloc_new w.drew _
          have hg : w.grownBy (w.drew.alloc (.cells (Builtin.zeroCells z.cells n ++ Builtin.zeroCells z.cells (grownCap w n 0 e' - n)) e')) none := grow_alloc (⟨rfl, rfl, rfl, Nat.le_refl _, fun _ _ _ => rfl⟩ : w.grownBy w.drew none) _
          exact h _ _ _ (grownCap_ge w n 0 e') _ _ (ha.put hd _) (hm.newOwn hg hown)
        · cases ht
      · cases ht
    · cases ht
  · cases ht
theorem ov_cap {nn : Nat} {Z : World → Prop} {t e : TypeId} {sz : Nat} {x : Operand} {A : Option Addr} {n cap : Nat} (he : elemSz P t = some (e, sz)) (hx : rd S x = some (.slice A n cap)) : OV P nn S Z ⟨some d, .call ⟨.builtin .cap, #[x], #[t]⟩, ty, pos, aft, none⟩ (.int .i64 (cap : Int)) :=
  (fun a w ha hm => by
    obtain ⟨hu, _⟩ := elemSz_parts he
    simp [execOp, resolve, invoke, builtin, ha.eval hx, Builtin.cap_, run_underlying hu, goInt])
theorem ov_sliceHi0 {nn : Nat} {Z : World → Prop} {t e : TypeId} {sz : Nat} {x y : Operand} (he : elemSz P t = some (e, sz)) (hx : rd S x = some (.slice none 0 0)) (hy : rd S y = some (.int .i64 0)) : OV P nn S Z ⟨some d, .slice t x none (some y) none, ty, pos, aft, none⟩ (.slice none 0 0) := fun a w ha hm => by
  obtain ⟨hu, hs⟩ := elemSz_parts he
  have h1 : (Instr.slice t (.slice none 0 0) none (some (.int .i64 0)) none).run P w = .ok (.slice none 0 0) w := by
    rw [run_slice_any w t _ 0 0 hu]
    have hb := run_sliceBound (P := P) w .i64 0 0 .sliceAcap (by omega) (by omega)
    simp [Instr.sliceBounds, hs, sliced, hb]
  simp [execOp, ha.eval hx, ha.eval hy, run_sliceAt_slice w t _ _ _ _ hu, h1]
/-- append of a slice that is known, behind a row of the call's own. -/
theorem wl_appendS {α : Type} {enc : α → List Value} {t e T : TypeId} {sz by_ : Nat} {x y : Operand} {m n cc : Nat} {A : Option Addr} {l : List α} {v : Value} {xs : List Value} (i : Nat) (ht : appB P t = some (e, sz, by_)) (hx : rd S x = some v) (hO : O[i]? = some ⟨v, e, sz, n, xs⟩) (hy : rd S y = some (.slice A m cc)) (hS : ∀ w, Mem c K L O X w → SlT enc sz T w A m l) (hnil : m = 0 → A = none ∧ cc = 0 ∨ ∃ b o, A = some ⟨b, o, none⟩) (hk : ∀ x, (enc x).length = sz)
    (h1 : ∀ x, ∀ u ∈ enc x, u.oneCell' = true) (hb : (n + m) * by_ ≤ 140737488355328) (h63 : n + m ≤ maxLen) (hT : c.Tt.contains e = false) (hd : Nat.ble (d + 1) c.n = true)
    (h : ∀ v', WL P c ops Q rest ((d, v') :: S) K L (setOwn ⟨v', e, sz, n + m, xs ++ l.flatMap enc⟩ O i) X) : WL P c ops Q (⟨some d, .call ⟨.builtin .append, #[x, y], #[t, t]⟩, ty, pos, aft, none⟩ :: rest) S K L O X := by
  intro a w ha hm
  unfold appB at ht
  split at ht
  · rename_i e' hu
    split at ht
    · rename_i inf hi
      split at ht
      · rename_i z hz
        split at ht
        · rename_i hzz
          simp only [Option.some.injEq, Prod.mk.injEq] at ht
          obtain ⟨rfl, rfl, rfl⟩ := ht
          have hown := hm.o _ (List.mem_of_getElem? hO)
          have hs := hS w hm
          have hll := flat_len enc inf.size hk l
          rw [hs.len] at hll
          have hone := flat_one enc h1 l
          rcases Nat.eq_zero_or_pos m with rfl | hm0
          · have hl0 : l = [] := List.length_eq_zero_iff.1 hs.len
            subst hl0
            rcases hnil rfl with ⟨rfl, rfl⟩ | ⟨b, o, rfl⟩
            · refine wpList_append_own_none rfl x y t rfl c.w0.heap.size e' inf inf.size hu hi v n xs (ha.eval hx) hown (ha.eval hy) ?_
              have h2 := h v
              rw [List.flatMap_nil, List.append_nil, Nat.add_zero, setOwn_self hO] at h2
              exact h2 _ _ (ha.put hd _) hm
            · refine wpList_append_own_at _ rfl x y t rfl c.w0.heap.size e' inf z inf.size inf.bytes hu hi hz rfl rfl hzz.1 hzz.2 v n xs (ha.eval hx) hown ⟨b, o, none⟩ 0 cc [] (ha.eval hy) (by simp) (fun k u hk => by simp at hk) (fun u hu => by cases hu) h63 hb hm.g.size fun v' w' h2 h3 h4 h5 => ?_
              exact h v' _ _ (ha.put hd _) (hm.append hO hT h2 h3 h5)
          · obtain ⟨b, o, rfl, hbl, hfl⟩ := hs.flat hk hm0
            refine wpList_append_own_at _ rfl x y t rfl c.w0.heap.size e' inf z inf.size inf.bytes hu hi hz rfl rfl hzz.1 hzz.2 v n xs (ha.eval hx) hown ⟨b, o, none⟩ m cc (l.flatMap enc) (ha.eval hy) hll hfl hone h63 hb hm.g.size fun v' w' h2 h3 h4 h5 => ?_
            exact h v' _ _ (ha.put hd _) (hm.append hO hT h2 h3 h5)
        · cases ht
      · cases ht
    · cases ht
  · cases ht
end
end Go.Proofs.YtiendebcdicjnaaGreatDoor
namespace Go.Proofs.YtiendebcdicjnaaGreatDoor
open Go.RowKit
theorem growEv_any (n : Nat) (w : World) (hn : n ≤ 100000) : Calls Tryz.prog 152 #[.slice none 0 0, .int .i64 ((n : Nat) : Int)] w (fun e w' => ∃ (A : Option Addr) (c : Nat), e = .returned (.slice A 0 c) ∧ w'.ownsRow w.heap.size 74 5 (.slice A 0 c) 0 [] ∧ w.grownBy w' none) := by
 refine gw_enter ⟨27, w, none, []⟩ Tryz.func152 rfl Tryz.ntmps152 rfl (mem0 (X := []) allF_nil allL_nil) ?_
 refine sr_ (sg_ rfl (nn_ (gw_seq (sr_ (mv_ rfl (wl_ov (ov_lss rfl rfl) rfl ?_))))))
 refine wl_set 6 (v' := .bool false) rfl (congrArg Value.bool (decide_eq_false (by omega))) ?_
 refine nn_ (cf_ rfl (gw_skip (nx_then (gw_seq (sr_ (mv_ rfl (mv_ rfl ?_)))))))
 refine wl_ov (ov_cap es47 rfl) rfl ?_
 refine wl_set 10 (v' := .int .i64 0) rfl rfl ?_
 refine mv_ rfl (wl_ov (ov_len es47 rfl) rfl ?_)
 refine wl_set 12 (v' := .int .i64 0) rfl rfl ?_
 refine wl_ov (ov_sub rfl rfl (by omega) (by omega)) rfl ?_
 refine wl_set 13 (v' := .int .i64 0) rfl rfl ?_
 refine wl_ov (ov_sub rfl rfl (by omega) (by omega)) rfl ?_
 refine wl_set 14 (v' := .int .i64 ((n : Nat) : Int)) rfl (congrArg (Value.int .i64) (by omega)) ?_
 refine sg_ rfl (nn_ (sr_ (mv_ rfl ?_)))
 refine wl_ov (ov_gtr rfl rfl) rfl ?_
 refine nn_ ?_
 refine gw_cond rfl (fun hh => ?_) (fun hh => ?_)
 ·have h0 : 0 < ((n : Nat) : Int) := by simpa using hh
  clear hh
  refine gw_region (mv_ rfl (mv_ rfl ?_))
  refine wl_ov (ov_cap es47 rfl) rfl ?_
  refine wl_set 19 (v' := .int .i64 0) rfl rfl ?_
  refine wl_ov (ov_sliceHi0 es47 rfl rfl) rfl ?_
  refine mv_ rfl ?_
  refine wl_appendZ (n := n) ap47 (kn := .i64) (by kernel_rfl) (by omega) rfl rfl (by omega) (by unfold maxLen; omega) rfl fun g cap zs hcap => ?_
  refine mv_ rfl (wl_ov (ov_len es47 rfl) rfl ?_)
  refine wl_set 24 (v' := .int .i64 0) rfl rfl ?_
  refine wl_ov (ov_sliceHi (hi := 0) es47 rfl rfl rfl (by omega)) rfl ?_
  refine sg_ rfl (nn_ (sr_ (mv_ rfl (sg_ rfl (nn_ ?_)))))
  refine gw_ret ?_
  refine nx_ret1 rfl rfl fun wx hm => ?_
  exact ⟨_, cap, rfl, own_shrink0 (hm.ownI 0 rfl), hm.g⟩
 have h0 : ¬ (0 < ((n : Nat) : Int)) := by simpa using hh
 clear hh
 refine gw_skip (nx_then (sr_ (mv_ rfl (sg_ rfl (nn_ ?_)))))
 refine gw_ret ?_
 refine nx_ret1 rfl rfl fun wx hm => ?_
 exact ⟨none, 0, rfl, ⟨rfl, .inl ⟨rfl, rfl⟩⟩, hm.g⟩
theorem shape_nil {A : Option Addr} {n c : Nat} (h : ShapeA A n c) : n = 0 → A = none ∧ c = 0 ∨ ∃ b o, A = some ⟨b, o, none⟩ := fun _ => by
  rcases h with ⟨h1, _, h3⟩ | h1
  · exact .inl ⟨h1, h3⟩
  · exact .inr h1
theorem concat_any (l1 l2 : List Ev) (A1 A2 : Option Addr) (n1 c1 n2 c2 ga : Nat) (w : World) (hb : Blk w ga 47 [.slice A1 n1 c1, .slice A2 n2 c2]) (h1 : SlT evEnc 5 74 w A1 n1 l1) (h2 : SlT evEnc 5 74 w A2 n2 l2) (hs1 : ShapeA A1 n1 c1) (hs2 : ShapeA A2 n2 c2) (hn1 : n1 ≤ 10000) (hn2 : n2 ≤ 10000) :
  Calls Tryz.prog 78 #[.slice (some ⟨ga, 0, none⟩) 2 2] w (fun e w' => ∃ (A : Option Addr) (n c : Nat), e = .returned (.slice A n c) ∧ w'.ownsRow w.heap.size 74 5 (.slice A n c) n ((l1 ++ l2).flatMap evEnc) ∧ n = n1 + n2 ∧ w.grownBy w' none) := by
 refine gw_enter ⟨36, w, none, []⟩ Tryz.func78 rfl Tryz.ntmps78 rfl (mem0 (X := [BlkOld w.heap.size none ga 47 [.slice A1 n1 c1, .slice A2 n2 c2], SlOld evEnc 5 74 w.heap.size none A1 n1 l1, SlOld evEnc 5 74 w.heap.size none A2 n2 l2]) (allF_cons hb.old (allF_cons h1.old (allF_cons h2.old allF_nil))) (allL_cons BlkOld.lasts (allL_cons SlOld.lasts (allL_cons SlOld.lasts allL_nil)))) ?_
 refine sr_ (sg_ rfl (nn_ (sr_ (sg_ rfl (nn_ (gw_seq (sr_ (mv_ rfl ?_))))))))
 refine wl_ov (ov_len es239 rfl) rfl ?_
 refine wl_set 10 (v' := .int .i64 2) rfl rfl ?_
 refine mv_ rfl (nn_ (gw_block ?_))
 refine gw_rounds 3 ?_
 refine gr_next ?_
 refine sr_ (wl_ov (ov_lss rfl rfl) rfl ?_)
 refine wl_set 12 (v' := .bool true) rfl (congrArg Value.bool (by decide)) ?_
 refine nn_ (gw_seq (ct_ rfl (gw_skip (nx_then (gw_seq (gw_block (sr_ ?_)))))))
 refine wl_ov (ov_index (j := 0) es239 rfl rfl (by decide)) rfl ?_
 refine wl_ov (ov_load (v := .slice A1 n1 c1) sc47 rfl (fun _ hm => (hm.fact 0 rfl).2) rfl) rfl ?_
 refine sg_ rfl (nn_ (sr_ (mv_ rfl (mv_ rfl (wl_ov (ov_len es47 rfl) rfl (ad_ rfl rfl (sg_ rfl (nn_ (sr_ ?_)))))))))
 refine mv_ rfl (wl_ov (ov_lss rfl rfl) rfl ?_)
 refine wl_set 20 (v' := .bool false) rfl (congrArg Value.bool (decide_eq_false (by omega))) ?_
 refine nn_ (cf_ rfl (gw_skip (nx_blk_nrm (nx_then (gw_region (ad_ rfl rfl ?_))))))
 refine wl_set 22 (v' := .int .i64 1) rfl rfl ?_
 refine mv_ rfl (wl_nil ?_)
 refine nx_next ?_
 refine gr_next ?_
 refine sr_ (wl_ov (ov_lss rfl rfl) rfl ?_)
 refine wl_set 12 (v' := .bool true) rfl (congrArg Value.bool (by decide)) ?_
 refine nn_ (gw_seq (ct_ rfl (gw_skip (nx_then (gw_seq (gw_block (sr_ ?_)))))))
 refine wl_ov (ov_index (j := 1) es239 rfl rfl (by decide)) rfl ?_
 refine wl_ov (ov_load (v := .slice A2 n2 c2) sc47 rfl (fun _ hm => (hm.fact 0 rfl).2) rfl) rfl ?_
 refine sg_ rfl (nn_ (sr_ (mv_ rfl (mv_ rfl (wl_ov (ov_len es47 rfl) rfl (ad_ rfl rfl (sg_ rfl (nn_ (sr_ ?_)))))))))
 refine mv_ rfl (wl_ov (ov_lss rfl rfl) rfl ?_)
 refine wl_set 20 (v' := .bool false) rfl (congrArg Value.bool (decide_eq_false (by omega))) ?_
 refine nn_ (cf_ rfl (gw_skip (nx_blk_nrm (nx_then (gw_region (ad_ rfl rfl ?_))))))
 refine wl_set 22 (v' := .int .i64 2) rfl rfl ?_
 refine mv_ rfl (wl_nil ?_)
 refine nx_next ?_
 refine gr_next ?_
 refine sr_ (wl_ov (ov_lss rfl rfl) rfl ?_)
 refine wl_set 12 (v' := .bool false) rfl (congrArg Value.bool (by decide)) ?_
 refine nn_ (gw_seq (cf_ rfl ?_))
 refine gw_exit ?_
 refine nx_then_exit (nx_then_exit ?_)
 refine nx_blk_here ?_
 refine nx_then (sr_ (mv_ rfl ?_))
 refine wl_callgo (γ := Option Addr × Nat) (val := (fun g => .slice g.1 0 g.2)) (φ := (fun g => True)) (fun g => ⟨.slice g.1 0 g.2, 74, 5, 0, []⟩) rfl cb152 rfl rfl (fun wx hm => (by have h := growEv_any (n1 + n2) wx (by omega); rw [show (((n1 + n2 : Nat)) : Int) = (0 + ((n1 : Nat) : Int)) + ((n2 : Nat) : Int) by omega] at h; exact h.mono fun _ _ ⟨A, c, he, ho, hg⟩ => ⟨(A, c), he, trivial, ho, hg⟩)) ?_
 rintro ⟨A, c⟩ hphi
 dsimp only at hphi ⊢
 refine sg_ rfl (nn_ (gw_seq (sr_ (mv_ rfl (wl_ov (ov_len es239 rfl) rfl ?_)))))
 refine wl_set 26 (v' := .int .i64 2) rfl rfl ?_
 refine mv_ rfl (nn_ (gw_block ?_))
 refine gw_rounds 3 ?_
 refine gr_next ?_
 refine sr_ (wl_ov (ov_lss rfl rfl) rfl ?_)
 refine wl_set 28 (v' := .bool true) rfl (congrArg Value.bool (by decide)) ?_
 refine nn_ (gw_seq (ct_ rfl (gw_skip (nx_then (gw_seq (gw_block (sr_ ?_)))))))
 refine wl_ov (ov_index (j := 0) es239 rfl rfl (by decide)) rfl ?_
 refine wl_ov (ov_load (v := .slice A1 n1 c1) sc47 rfl (fun _ hm => (hm.fact 0 rfl).2) rfl) rfl ?_
 refine sg_ rfl (nn_ (gw_region (mv_ rfl (mv_ rfl ?_))))
 refine wl_appendS (l := l1) 0 ap47 rfl rfl rfl (fun wx hm => (show SlOld evEnc 5 74 w.heap.size none A1 n1 l1 wx from (hm.fact 1 rfl)).1) (shape_nil hs1) ev_len ev_one (by omega) (by unfold maxLen; omega) rfl rfl fun v1 => ?_
 refine sg_ rfl (wl_nil (nx_blk_nrm (nx_then (gw_region (ad_ rfl rfl ?_)))))
 refine wl_set 34 (v' := .int .i64 1) rfl rfl ?_
 refine mv_ rfl (wl_nil ?_)
 refine nx_next ?_
 refine gr_next ?_
 refine sr_ (wl_ov (ov_lss rfl rfl) rfl ?_)
 refine wl_set 28 (v' := .bool true) rfl (congrArg Value.bool (by decide)) ?_
 refine nn_ (gw_seq (ct_ rfl (gw_skip (nx_then (gw_seq (gw_block (sr_ ?_)))))))
 refine wl_ov (ov_index (j := 1) es239 rfl rfl (by decide)) rfl ?_
 refine wl_ov (ov_load (v := .slice A2 n2 c2) sc47 rfl (fun _ hm => (hm.fact 0 rfl).2) rfl) rfl ?_
 refine sg_ rfl (nn_ (gw_region (mv_ rfl (mv_ rfl ?_))))
 refine wl_appendS (l := l2) 0 ap47 rfl rfl rfl (fun wx hm => (show SlOld evEnc 5 74 w.heap.size none A2 n2 l2 wx from (hm.fact 2 rfl)).1) (shape_nil hs2) ev_len ev_one (by omega) (by unfold maxLen; omega) rfl rfl fun v2 => ?_
 refine sg_ rfl (wl_nil (nx_blk_nrm (nx_then (gw_region (ad_ rfl rfl ?_)))))
 refine wl_set 34 (v' := .int .i64 2) rfl rfl ?_
 refine mv_ rfl (wl_nil ?_)
 refine nx_next ?_
 refine gr_next ?_
 refine sr_ (wl_ov (ov_lss rfl rfl) rfl ?_)
 refine wl_set 28 (v' := .bool false) rfl (congrArg Value.bool (by decide)) ?_
 refine nn_ (gw_seq (cf_ rfl ?_))
 refine gw_exit ?_
 refine nx_then_exit (nx_then_exit ?_)
 refine nx_blk_here ?_
 refine nx_then (sr_ (mv_ rfl (sg_ rfl (nn_ ?_))))
 refine gw_ret ?_
 refine nx_look (R := ∃ A cc, v2 = .slice A (0 + n1 + n2) cc) (fun wx hm => own_slice (hm.ownI 0 rfl)) ?_
 rintro ⟨A5, c5, rfl⟩
 have hxs : [] ++ l1.flatMap evEnc ++ l2.flatMap evEnc = (l1 ++ l2).flatMap evEnc := by simp
 rw [hxs]
 refine nx_ret1 rfl rfl fun wx hm => ?_
 exact ⟨A5, 0 + n1 + n2, c5, rfl, hm.ownI 0 rfl, by omega, hm.g⟩
def evLt (x y : Ev) : Bool := decide (evOrd x y < 0)
theorem ins_bt  (l0 : List Ev) (br n cap base : Nat) (w : World) (h : w.ownsRow base 74 5 (.slice (some ⟨br, 0, none⟩) n cap) n (l0.flatMap evEnc)) (hl0 : l0.length = n) (hn : n ≤ 1000000)  :
  Calls Tryz.prog 185 #[.slice (some ⟨br, 0, none⟩) n cap, .int .i64 0, .int .i64 ((n : Nat) : Int), .func (.func 79) #[] #[]] w (fun e w' => e = .returned (.tuple #[]) ∧ w'.ownsRow base 74 5 (.slice (some ⟨br, 0, none⟩) n cap) n ((isort (evLt) l0).flatMap evEnc) ∧ w.grownBy w' (some br)) := by
 obtain ⟨R, hR⟩ : ∃ z, z = isort (evLt) l0 := ⟨_, rfl⟩
 rw [← hR]
 refine gw_enter ⟨53, w, (some br), []⟩ Tryz.func185 rfl Tryz.ntmps185 rfl (memR (X := []) h allF_nil allL_nil) ?_
 refine sr_ (mv_ rfl (ad_ rfl rfl ?_))
 refine wl_set 11 (v' := .int .i64 1) rfl rfl ?_
 refine sg_ rfl (nn_ (gw_block ?_))
 refine gw_loop (γ := Nat × List Ev) (fun gg => (1 ≤ gg.1 ∧ gg.1 ≤ n + 1) ∧ gg.2.length = n ∧ isortF (evLt) (n - gg.1) gg.1 gg.2 = R) (fun gg => [(0, .slice (some ⟨br, 0, none⟩) n cap), (1, .int .i64 0), (2, .int .i64 ((n : Nat) : Int)), (3, .func (.func 79) #[] #[]), (8, .int .i64 ((gg.1 : Nat) : Int))]) (fun gg => RowK base 74 5 n cap br ((gg.2).flatMap evEnc)) (fun gg => []) (fun gg => []) (fun gg => []) (fun gg => n + 1 - gg.1) (1, l0) ⟨⟨Nat.le_refl _, by omega⟩, hl0, by rw [hR]; unfold isort; rw [hl0]⟩ ⟨rfl, rfl, rfl, rfl, (some_int (by omega)), trivial⟩ (fun _ hm => hm.pick [] [] [] rfl rfl) ?_
 rintro ⟨i, l⟩ hinv
 replace hinv : (1 ≤ i ∧ i ≤ n + 1) ∧ l.length = n ∧ isortF (evLt) (n - i) i l = R := hinv
 dsimp only
 refine gw_seq (sr_ ?_)
 obtain ⟨⟨hi1, hi2⟩, hl1, hR1⟩ := hinv
 refine mv_ rfl (mv_ rfl (wl_ov (ov_lss rfl rfl) rfl (nn_ ?_)))
 refine gw_cond rfl (fun hh => ?_) (fun hh => ?_)
 ·have hi : ((i : Nat) : Int) < ((n : Nat) : Int) := by simpa using hh
  clear hh
  refine gw_skip (nx_then (gw_seq (gw_block (sr_ ?_))))
  have hRi : isortF (evLt) (n - (i + 1)) (i + 1) (sink (evLt) i l) = R := by rw [← hR1, show n - i = (n - (i + 1)) + 1 by omega]; rfl
  obtain ⟨S, hS⟩ : ∃ z, z = sink (evLt) i l := ⟨_, rfl⟩
  rw [← hS] at hRi
  have hSl : S.length = n := by rw [hS, sink_len]; exact hl1
  refine mv_ rfl (sg_ rfl (nn_ (gw_block ?_)))
  refine gw_loop (γ := Nat × List Ev) (fun gg => (gg.1 ≤ i) ∧ gg.2.length = n ∧ sink (evLt) gg.1 gg.2 = S) (fun gg => [(0, .slice (some ⟨br, 0, none⟩) n cap), (1, .int .i64 0), (2, .int .i64 ((n : Nat) : Int)), (3, .func (.func 79) #[] #[]), (8, .int .i64 ((i : Nat) : Int)), (9, .int .i64 ((gg.1 : Nat) : Int))]) (fun gg => RowK base 74 5 n cap br ((gg.2).flatMap evEnc)) (fun gg => []) (fun gg => []) (fun gg => []) (fun gg => gg.1) (i, l) ⟨Nat.le_refl _, hl1, hS.symm⟩ ⟨rfl, rfl, rfl, rfl, rfl, rfl, trivial⟩ (fun _ hm => hm.pick [] [] [] rfl rfl) ?_
  rintro ⟨jj, m⟩ hinv
  replace hinv : (jj ≤ i) ∧ m.length = n ∧ sink (evLt) jj m = S := hinv
  dsimp only
  refine gw_seq (gw_seq ?_)
  obtain ⟨hj1, hm1, hS1⟩ := hinv
  rcases jj with _ | j
  ·refine gd (fun wz => True) mixed (fun _ _ => trivial) fun z => ?_
   refine wt 0 17 1 rfl z (ov_move rfl) ?_
   refine wa_set 18 (v' := .int .i64 0) rfl rfl ?_
   refine wt 1 17 3 rfl z (ov_move rfl) ?_
   refine wt 2 17 7 rfl z (ov_gtr rfl rfl) ?_
   refine wa_set 20 (v' := .bool false) rfl (congrArg Value.bool (by decide)) ?_
   refine wt 3 17 15 rfl z (ov_move rfl) ?_
   refine wtf 4 17 31 rfl rfl rfl z ?_
   refine wtf 5 17 63 rfl rfl rfl z ?_
   refine wtf 6 17 127 rfl rfl rfl z ?_
   refine wtf 7 17 255 rfl rfl rfl z ?_
   refine wtf 8 17 511 rfl rfl rfl z ?_
   refine wtf 9 17 1023 rfl rfl rfl z ?_
   refine wtf 10 17 2047 rfl rfl rfl z ?_
   refine wtf 11 17 4095 rfl rfl rfl z ?_
   refine wtf 12 17 8191 rfl rfl rfl z ?_
   refine wtf 13 17 16383 rfl rfl rfl z ?_
   refine wtf 14 17 32767 rfl rfl rfl z ?_
   refine wtf 15 17 65535 rfl rfl rfl z ?_
   refine wt 16 17 131071 rfl z (ov_pick_f rfl rfl) ?_
   refine wa_done (by kernel_rfl) ?_
   refine nx_then (cf_ rfl ?_)
   refine gw_exit ?_
   refine nx_then_exit (nx_then_exit ?_)
   refine nx_blk_here ?_
   refine nx_blk_nrm (nx_then (gw_region (mv_ rfl (ad_ rfl rfl (sg_ rfl (wl_nil ?_))))))
   have hm2 : m = S := hS1
   exact nx_round (i + 1, m) ⟨⟨by dsimp only; omega, by dsimp only; omega⟩, by rw [hm2]; exact hSl, by rw [hm2]; exact hRi⟩ (by dsimp only; omega) ⟨rfl, rfl, rfl, rfl, (some_int (by omega)), trivial⟩ (fun _ hm => hm.pick [] [] [] rfl rfl)
  have hj2 : j + 1 < n := by omega
  obtain ⟨xx, hx⟩ : ∃ x, m[j + 1]? = some x := ⟨_, List.getElem?_eq_getElem (by omega)⟩
  obtain ⟨x0, x1, x2, x3, x4⟩ := xx
  obtain ⟨yy, hy⟩ : ∃ x, m[j]? = some x := ⟨_, List.getElem?_eq_getElem (by omega)⟩
  obtain ⟨y0, y1, y2, y3, y4⟩ := yy
  refine gd (fun wz => (RowK base 74 5 n cap br ((m).flatMap evEnc)) wz ∧ True) mixed (fun _ hm => ⟨hm.k, trivial⟩) fun z => ?_
  refine wt 0 17 1 rfl z (ov_move rfl) ?_
  refine wt 1 17 3 rfl z (ov_move rfl) ?_
  refine wt 2 17 7 rfl z (ov_gtr rfl rfl) ?_
  refine wa_set 20 (v' := .bool true) rfl (congrArg Value.bool (decide_eq_true (by omega))) ?_
  refine wt 3 17 15 rfl z (ov_move rfl) ?_
  refine wto 4 17 31 rfl rfl rfl z (ov_move rfl) ?_
  refine wto 5 17 63 rfl rfl rfl z (ov_move rfl) ?_
  refine wto 6 17 127 rfl rfl rfl z (ov_move rfl) ?_
  refine wto 7 17 255 rfl rfl rfl z (ov_index (j := (j + 1)) es47 rfl rfl (by omega)) ?_
  refine wto 8 17 511 rfl rfl rfl z (ov_elem (vs := [.int .i64 x0, .string x1, .string x2, .int .i64 x3, .string x4]) rz74 rfl (fun _ hm => (RowK.get (hm.1) ev_len hm1)) hx rfl rfl) ?_
  refine wto 9 17 1023 rfl rfl rfl z (ov_move rfl) ?_
  refine wto 10 17 2047 rfl rfl rfl z (ov_move rfl) ?_
  refine wto 11 17 4095 rfl rfl rfl z (ov_sub rfl rfl (by omega) (by omega)) ?_
  refine wa_set 29 (v' := .int .i64 ((j : Nat) : Int)) rfl (congrArg (Value.int .i64) (by omega)) ?_
  refine wto 12 17 8191 rfl rfl rfl z (ov_index (j := j) es47 rfl rfl (by omega)) ?_
  refine wto 13 17 16383 rfl rfl rfl z (ov_elem (vs := [.int .i64 y0, .string y1, .string y2, .int .i64 y3, .string y4]) rz74 rfl (fun _ hm => (RowK.get (hm.1) ev_len hm1)) hy rfl rfl) ?_
  refine wa1 14 rfl ?_
  refine wl_guard_on rfl rfl rfl ?_
  refine wl_callv (v := .int .i64 (evOrd ⟨x0, x1, x2, x3, x4⟩ ⟨y0, y1, y2, y3, y4⟩)) rfl cb79 rfl rfl (fun wx hm => (byTime_any x0 x1 x2 x3 x4 y0 y1 y2 y3 y4 wx)) ?_
  refine wl_nil ?_
  refine nw 17 32767 (fun _ hm => ⟨hm.k, trivial⟩) fun z => ?_
  refine wto 15 17 65535 rfl rfl rfl z (ov_lss rfl rfl) ?_
  refine wt 16 17 131071 rfl z (ov_pick_t rfl rfl) ?_
  refine wa_done (by kernel_rfl) ?_
  refine nx_then ?_
  refine gw_cond rfl (fun hh => ?_) (fun hh => ?_)
  ·have hlt : evOrd ⟨x0, x1, x2, x3, x4⟩ ⟨y0, y1, y2, y3, y4⟩ < 0 := by simpa using hh
   clear hh
   refine gw_skip (nx_then (gw_seq (gw_block ?_)))
   have hlt2 : (evLt) ⟨x0, x1, x2, x3, x4⟩ ⟨y0, y1, y2, y3, y4⟩ = true := decide_eq_true (show evOrd ⟨x0, x1, x2, x3, x4⟩ ⟨y0, y1, y2, y3, y4⟩ < 0 from hlt)
   have hS2 := (sink_yes hx hy hlt2).symm.trans hS1
   refine gd (fun wz => True) mixed (fun _ _ => trivial) fun z => ?_
   refine wt 0 18 1 rfl z (ov_move rfl) ?_
   refine wt 1 18 3 rfl z (ov_move rfl) ?_
   refine wt 2 18 7 rfl z (ov_move rfl) ?_
   refine wt 3 18 15 rfl z (ov_move rfl) ?_
   refine wt 4 18 31 rfl z (ov_sub rfl rfl (by omega) (by omega)) ?_
   refine wa_set 41 (v' := .int .i64 ((j : Nat) : Int)) rfl (congrArg (Value.int .i64) (by omega)) ?_
   refine wt 5 18 63 rfl z (ov_move rfl) ?_
   refine wt 6 18 127 rfl z (ov_move rfl) ?_
   refine wt 7 18 255 rfl z (ov_sub rfl rfl (by omega) (by omega)) ?_
   refine wa_set 44 (v' := .int .i64 ((j : Nat) : Int)) rfl (congrArg (Value.int .i64) (by omega)) ?_
   refine wt 8 18 511 rfl z (ov_index (j := j) es47 rfl rfl (by omega)) ?_
   refine wt 10 18 1535 rfl z (ov_move rfl) ?_
   refine wt 11 18 3583 rfl z (ov_move rfl) ?_
   refine wt 12 18 7679 rfl z (ov_index (j := (j + 1)) es47 rfl rfl (by omega)) ?_
   refine wa_all [9, 13] (by kernel_rfl) rfl ⟨⟨_, rfl, ?_⟩, ⟨_, rfl, ?_⟩, trivial⟩
   ·refine wl_ov (ov_elem (vs := [.int .i64 y0, .string y1, .string y2, .int .i64 y3, .string y4]) rz74 rfl (fun _ hm => (RowK.get hm.k ev_len hm1)) hy rfl rfl) rfl ?_
    refine wl_nil ?_
    refine nw 18 8191 (fun _ _ => trivial) fun z => ?_
    refine wa1 13 rfl ?_
    refine wl_ov (ov_elem (vs := [.int .i64 x0, .string x1, .string x2, .int .i64 x3, .string x4]) rz74 rfl (fun _ hm => (RowK.get hm.k ev_len hm1)) hx rfl rfl) rfl ?_
    refine wl_nil ?_
    refine nw 18 16383 (fun _ _ => trivial) fun z => ?_
    refine wt 14 18 32767 rfl z (ov_index (j := (j + 1)) es47 rfl rfl (by omega)) ?_
    refine wa1 15 rfl ?_
    refine wl_storesRow (l := m) (j := j + 1) (r := 0) (el := ⟨x0, x1, x2, x3, x4⟩) (el' := ⟨y0, y1, y2, y3, y4⟩) rfl rz74 rfl rfl rfl rfl ev_len rfl hx hm1 (by decide) rfl rfl ?_
    refine wl_nil ?_
    refine nw 18 65535 (fun _ _ => trivial) fun z => ?_
    refine wt 16 18 131071 rfl z (ov_index (j := j) es47 rfl rfl (by omega)) ?_
    refine wa1 17 rfl ?_
    refine wl_storesRow (l := m.set (j + 1) ⟨y0, y1, y2, y3, y4⟩) (j := j) (r := 0) (el := ⟨y0, y1, y2, y3, y4⟩) (el' := ⟨x0, x1, x2, x3, x4⟩) rfl rz74 rfl rfl rfl rfl ev_len rfl (by rw [List.getElem?_set_ne (by omega)]; exact hy) (by rw [List.length_set]; exact hm1) (by decide) rfl rfl ?_
    refine wl_nil ?_
    refine nw 18 262143 (fun _ _ => trivial) fun z => ?_
    refine wa_done (by kernel_rfl) ?_
    refine nx_blk_nrm (nx_then (gw_region (mv_ rfl ?_)))
    refine wl_ov (ov_sub rfl rfl (by omega) (by omega)) rfl ?_
    refine wl_set 36 (v' := .int .i64 ((j : Nat) : Int)) rfl (congrArg (Value.int .i64) (by omega)) ?_
    refine sg_ rfl (wl_nil ?_)
    exact nx_round (j, (m.set (j + 1) ⟨y0, y1, y2, y3, y4⟩).set j ⟨x0, x1, x2, x3, x4⟩) ⟨by dsimp only; omega, by simp [hm1], hS2⟩ (by dsimp only; omega) ⟨rfl, rfl, rfl, rfl, rfl, (some_int (by omega)), trivial⟩ (fun _ hm => hm.pick [] [] [] rfl rfl)
   refine wl_ov (ov_elem (vs := [.int .i64 x0, .string x1, .string x2, .int .i64 x3, .string x4]) rz74 rfl (fun _ hm => (RowK.get hm.k ev_len hm1)) hx rfl rfl) rfl ?_
   refine wl_nil ?_
   refine nw 18 15871 (fun _ _ => trivial) fun z => ?_
   refine wa1 9 rfl ?_
   refine wl_ov (ov_elem (vs := [.int .i64 y0, .string y1, .string y2, .int .i64 y3, .string y4]) rz74 rfl (fun _ hm => (RowK.get hm.k ev_len hm1)) hy rfl rfl) rfl ?_
   refine wl_nil ?_
   refine nw 18 16383 (fun _ _ => trivial) fun z => ?_
   refine wt 14 18 32767 rfl z (ov_index (j := (j + 1)) es47 rfl rfl (by omega)) ?_
   refine wa1 15 rfl ?_
   refine wl_storesRow (l := m) (j := j + 1) (r := 0) (el := ⟨x0, x1, x2, x3, x4⟩) (el' := ⟨y0, y1, y2, y3, y4⟩) rfl rz74 rfl rfl rfl rfl ev_len rfl hx hm1 (by decide) rfl rfl ?_
   refine wl_nil ?_
   refine nw 18 65535 (fun _ _ => trivial) fun z => ?_
   refine wt 16 18 131071 rfl z (ov_index (j := j) es47 rfl rfl (by omega)) ?_
   refine wa1 17 rfl ?_
   refine wl_storesRow (l := m.set (j + 1) ⟨y0, y1, y2, y3, y4⟩) (j := j) (r := 0) (el := ⟨y0, y1, y2, y3, y4⟩) (el' := ⟨x0, x1, x2, x3, x4⟩) rfl rz74 rfl rfl rfl rfl ev_len rfl (by rw [List.getElem?_set_ne (by omega)]; exact hy) (by rw [List.length_set]; exact hm1) (by decide) rfl rfl ?_
   refine wl_nil ?_
   refine nw 18 262143 (fun _ _ => trivial) fun z => ?_
   refine wa_done (by kernel_rfl) ?_
   refine nx_blk_nrm (nx_then (gw_region (mv_ rfl ?_)))
   refine wl_ov (ov_sub rfl rfl (by omega) (by omega)) rfl ?_
   refine wl_set 36 (v' := .int .i64 ((j : Nat) : Int)) rfl (congrArg (Value.int .i64) (by omega)) ?_
   refine sg_ rfl (wl_nil ?_)
   exact nx_round (j, (m.set (j + 1) ⟨y0, y1, y2, y3, y4⟩).set j ⟨x0, x1, x2, x3, x4⟩) ⟨by dsimp only; omega, by simp [hm1], hS2⟩ (by dsimp only; omega) ⟨rfl, rfl, rfl, rfl, rfl, (some_int (by omega)), trivial⟩ (fun _ hm => hm.pick [] [] [] rfl rfl)
  have hlt : ¬ (evOrd ⟨x0, x1, x2, x3, x4⟩ ⟨y0, y1, y2, y3, y4⟩ < 0) := by simpa using hh
  clear hh
  refine gw_exit ?_
  refine nx_then_exit (nx_then_exit ?_)
  refine nx_blk_here ?_
  refine nx_blk_nrm (nx_then (gw_region ?_))
  have hlt2 : (evLt) ⟨x0, x1, x2, x3, x4⟩ ⟨y0, y1, y2, y3, y4⟩ = false := decide_eq_false (show ¬ evOrd ⟨x0, x1, x2, x3, x4⟩ ⟨y0, y1, y2, y3, y4⟩ < 0 from hlt)
  have hS2 := (sink_no hx hy hlt2).symm.trans hS1
  refine mv_ rfl (ad_ rfl rfl (sg_ rfl (wl_nil ?_)))
  have hm2 : m = S := hS2
  exact nx_round (i + 1, m) ⟨⟨by dsimp only; omega, by dsimp only; omega⟩, by rw [hm2]; exact hSl, by rw [hm2]; exact hRi⟩ (by dsimp only; omega) ⟨rfl, rfl, rfl, rfl, (some_int (by omega)), trivial⟩ (fun _ hm => hm.pick [] [] [] rfl rfl)
 have hi : ¬ (((i : Nat) : Int) < ((n : Nat) : Int)) := by simpa using hh
 clear hh
 refine gw_exit ?_
 refine nx_then_exit (nx_then_exit ?_)
 refine nx_blk_here ?_
 obtain rfl : l = R := by rw [← hR1, show n - i = 0 by omega]; rfl
 refine nx_ret0 rfl fun wx hm => ?_
 exact ⟨rfl, fin_row hm.k hm.g⟩
theorem stb_bt (l0 : List Ev) (br n cap base : Nat) (w : World) (h : w.ownsRow base 74 5 (.slice (some ⟨br, 0, none⟩) n cap) n (l0.flatMap evEnc)) (hl0 : l0.length = n) (hn : n ≤ 19)  :
  Calls Tryz.prog 120 #[.slice (some ⟨br, 0, none⟩) n cap, .int .i64 ((n : Nat) : Int), .func (.func 79) #[] #[]] w (fun e w' => e = .returned (.tuple #[]) ∧ w'.ownsRow base 74 5 (.slice (some ⟨br, 0, none⟩) n cap) n ((isort evLt l0).flatMap evEnc) ∧ w.grownBy w' (some br)) := by
 refine gw_enter ⟨63, w, (some br), []⟩ Tryz.func120 rfl Tryz.ntmps120 rfl (memR (X := []) h allF_nil allL_nil) ?_
 refine sr_ (sg_ rfl (nn_ (sr_ (mv_ rfl (sg_ rfl (sg_ rfl (nn_ (gw_seq (gw_block ?_)))))))))
 refine gw_rounds 1 ?_
 refine gr_next ?_
 refine gw_seq (sr_ (mv_ rfl (mv_ rfl (wl_ov (ov_leq rfl rfl) rfl ?_))))
 refine wl_set 13 (v' := .bool false) rfl (congrArg Value.bool (decide_eq_false (by omega))) ?_
 refine nn_ (cf_ rfl ?_)
 refine gw_exit ?_
 refine nx_then_exit (nx_then_exit ?_)
 refine nx_blk_here ?_
 refine nx_then (sr_ (mv_ rfl (mv_ rfl (mv_ rfl (mv_ rfl ?_)))))
 refine wl_callK rfl rfl rfl cb185 rfl rfl (fun wx hm => (ins_bt l0 br n cap base wx hm.k hl0 (by omega) )) ?_
 refine nn_ (gw_block ?_)
 refine gw_rounds 1 ?_
 refine gr_next ?_
 refine gw_seq (sr_ (mv_ rfl (mv_ rfl (wl_ov (ov_lss rfl rfl) rfl ?_))))
 refine wl_set 30 (v' := .bool false) rfl (congrArg Value.bool (decide_eq_false (by omega))) ?_
 refine nn_ (cf_ rfl ?_)
 refine gw_exit ?_
 refine nx_then_exit (nx_then_exit ?_)
 refine nx_blk_here ?_
 refine nx_ret0 rfl fun wx hm => ?_
 exact ⟨rfl, fin_row hm.k hm.g⟩
theorem ins0_bt (A : Option Addr) (cap : Nat) (w : World) : Calls Tryz.prog 185 #[.slice A 0 cap, .int .i64 0, .int .i64 0, .func (.func 79) #[] #[]] w (fun e w' => e = .returned (.tuple #[]) ∧ w.grownBy w' none) := by
 refine gw_enter ⟨53, w, none, []⟩ Tryz.func185 rfl Tryz.ntmps185 rfl (mem0 (X := []) allF_nil allL_nil) ?_
 refine sr_ (mv_ rfl (ad_ rfl rfl ?_))
 refine wl_set 11 (v' := .int .i64 1) rfl rfl ?_
 refine sg_ rfl (nn_ (gw_block ?_))
 refine gw_rounds 1 ?_
 refine gr_next ?_
 refine gw_seq (sr_ (mv_ rfl (mv_ rfl (wl_ov (ov_lss rfl rfl) rfl ?_))))
 refine wl_set 14 (v' := .bool false) rfl (congrArg Value.bool (by decide)) ?_
 refine nn_ (cf_ rfl ?_)
 refine gw_exit ?_
 refine nx_then_exit (nx_then_exit ?_)
 refine nx_blk_here ?_
 refine nx_ret0 rfl fun wx hm => ?_
 exact ⟨rfl, hm.g⟩
theorem stb0_bt (A : Option Addr) (cap : Nat) (w : World) : Calls Tryz.prog 120 #[.slice A 0 cap, .int .i64 0, .func (.func 79) #[] #[]] w (fun e w' => e = .returned (.tuple #[]) ∧ w.grownBy w' none) := by
 refine gw_enter ⟨63, w, none, []⟩ Tryz.func120 rfl Tryz.ntmps120 rfl (mem0 (X := []) allF_nil allL_nil) ?_
 refine sr_ (sg_ rfl (nn_ (sr_ (mv_ rfl (sg_ rfl (sg_ rfl (nn_ (gw_seq (gw_block ?_)))))))))
 refine gw_rounds 1 ?_
 refine gr_next ?_
 refine gw_seq (sr_ (mv_ rfl (mv_ rfl (wl_ov (ov_leq rfl rfl) rfl ?_))))
 refine wl_set 13 (v' := .bool false) rfl (congrArg Value.bool (by decide)) ?_
 refine nn_ (cf_ rfl ?_)
 refine gw_exit ?_
 refine nx_then_exit (nx_then_exit ?_)
 refine nx_blk_here ?_
 refine nx_then (sr_ (mv_ rfl (mv_ rfl (mv_ rfl (mv_ rfl ?_)))))
 refine wl_callv rfl cb185 rfl rfl (fun wx hm => (ins0_bt A cap wx)) ?_
 refine nn_ (gw_block ?_)
 refine gw_rounds 1 ?_
 refine gr_next ?_
 refine gw_seq (sr_ (mv_ rfl (mv_ rfl (wl_ov (ov_lss rfl rfl) rfl ?_))))
 refine wl_set 30 (v' := .bool false) rfl (congrArg Value.bool (by decide)) ?_
 refine nn_ (cf_ rfl ?_)
 refine gw_exit ?_
 refine nx_then_exit (nx_then_exit ?_)
 refine nx_blk_here ?_
 refine nx_ret0 rfl fun wx hm => ?_
 exact ⟨rfl, hm.g⟩
set_option maxRecDepth 100000 in
set_option maxHeartbeats 400000 in
theorem stable0_bt (A : Option Addr) (cap : Nat) (w : World) : Calls Tryz.prog 48 #[.slice A 0 cap, .func (.func 79) #[] #[]] w (fun e w' => e = .returned (.tuple #[]) ∧ w.grownBy w' none) := by
  refine gw_enter ⟨9, w, none, []⟩ Tryz.func48 rfl Tryz.ntmps48 rfl (mem0 (X := []) allF_nil allL_nil) ?_
  refine gw_region ?_
  refine wl_ov (ov_move rfl) rfl ?_
  refine wl_ov (ov_move rfl) rfl ?_
  refine wl_ov (ov_len es47 rfl) rfl ?_
  refine wl_set 6 (v' := .int .i64 0) rfl rfl ?_
  refine wl_ov (ov_move rfl) rfl ?_
  refine wl_callv rfl cb120 rfl rfl (fun wx hm => (stb0_bt A cap wx)) ?_
  refine wl_nil ?_
  refine nx_ret0 rfl fun wx hm => ?_
  exact ⟨rfl, hm.g⟩
def evQ (x y : Ev) : Bool := decide (x.at_ = y.at_) && (x.veh.toList == y.veh.toList && (x.sta.toList == y.sta.toList && (decide (x.kd = y.kd) && x.to_.toList == y.to_.toList)))
theorem evQ_iff {x y : Ev} : evQ x y = true ↔ x = y := by
  obtain ⟨x0, x1, x2, x3, x4⟩ := x
  obtain ⟨y0, y1, y2, y3, y4⟩ := y
  unfold evQ
  simp only [Bool.and_eq_true, decide_eq_true_eq, bytes_eqb, Ev.mk.injEq]
set_option maxRecDepth 100000 in
theorem ev_eql (x0 : Int) (x1 x2 : ByteArray) (x3 : Int) (x4 : ByteArray) (y0 : Int) (y1 y2 : ByteArray) (y3 : Int) (y4 : ByteArray) (w : World) : (binOp .eql 74 (.agg #[.int .i64 x0, .string x1, .string x2, .int .i64 x3, .string x4]) (.agg #[.int .i64 y0, .string y1, .string y2, .int .i64 y3, .string y4])).run Tryz.prog w = .ok (.bool (evQ ⟨x0, x1, x2, x3, x4⟩ ⟨y0, y1, y2, y3, y4⟩)) w := by
  have hS : Tryz.prog.underlying 74 = some (.struct (Tryz.prog.fieldsOf 74)) := by kernel_rfl
  have hp : Tryz.prog.stoodInHeld 74 = false := by kernel_rfl
  rw [run_eql_struct, show (10000 : Nat) = 9999 + 1 from rfl, run_equalIn_agg w 9999 74 _ _ hS hp]
  simp only [Program.fieldsOf, Tryz.underlying74]
  have u3 := Tryz.underlying3
  have u9 := Tryz.underlying9
  clear hS hp
  go_simp
  unfold evQ
  dsimp only
  repeat' split
  all_goals simp_all
set_option maxRecDepth 100000 in
theorem ev_neq (x0 : Int) (x1 x2 : ByteArray) (x3 : Int) (x4 : ByteArray) (y0 : Int) (y1 y2 : ByteArray) (y3 : Int) (y4 : ByteArray) (w : World) : (binOp .neq 74 (.agg #[.int .i64 x0, .string x1, .string x2, .int .i64 x3, .string x4]) (.agg #[.int .i64 y0, .string y1, .string y2, .int .i64 y3, .string y4])).run Tryz.prog w = .ok (.bool (!evQ ⟨x0, x1, x2, x3, x4⟩ ⟨y0, y1, y2, y3, y4⟩)) w := by
  have hS : Tryz.prog.underlying 74 = some (.struct (Tryz.prog.fieldsOf 74)) := by kernel_rfl
  have hp : Tryz.prog.stoodInHeld 74 = false := by kernel_rfl
  rw [run_neq_struct, show (10000 : Nat) = 9999 + 1 from rfl, run_equalIn_agg w 9999 74 _ _ hS hp]
  simp only [Program.fieldsOf, Tryz.underlying74]
  have u3 := Tryz.underlying3
  have u9 := Tryz.underlying9
  clear hS hp
  go_simp
  unfold evQ
  dsimp only
  repeat' split
  all_goals simp_all
theorem guard_event : Tryz.prog.eqGuardType Tryz.prog.depth 74 = false := by kernel_rfl
def compF : Ev → List Ev → List Ev
  | _, [] => []
  | p, y :: r => if evQ y p = true then compF y r else y :: compF y r
def compactF : List Ev → List Ev
  | [] => []
  | x :: r => x :: compF x r
theorem compF_snoc : ∀ (r : List Ev) (p x : Ev), compF p (r ++ [x]) = compF p r ++ (if evQ x (r.getLast?.getD p) = true then [] else [x])
  | [], p, x => by
    show (if evQ x p = true then [] else [x]) = [] ++ (if evQ x p = true then [] else [x])
    rw [List.nil_append]
  | y :: r, p, x => by
    have ih := compF_snoc r y x
    have e : (y :: r).getLast?.getD p = r.getLast?.getD y := by
      cases r with
      | nil => rfl
      | cons z t =>
        rw [List.getLast?_cons_cons]
        cases hq : (z :: t).getLast? with
        | none => simp at hq
        | some u => rfl
    rw [e]
    show (if evQ y p = true then compF y (r ++ [x]) else y :: compF y (r ++ [x])) = (if evQ y p = true then compF y r else y :: compF y r) ++ _
    rw [ih]
    by_cases h : evQ y p = true
    · rw [if_pos h, if_pos h]
    · rw [if_neg h, if_neg h]; rfl
theorem compact_at {l : List Ev} {j : Nat} {x y : Ev} (hx : l[j]? = some x) (hy : l[j - 1]? = some y) (h0 : 0 < j) : compactF (l.take (j + 1)) = compactF (l.take j) ++ (if evQ x y = true then [] else [x]) := by
  have hj := (List.getElem?_eq_some_iff.1 hx).1
  rw [List.take_add_one, hx, Option.toList_some]
  obtain ⟨z, r, hz⟩ : ∃ z r, l.take j = z :: r := by
    cases h : l.take j with
    | nil =>
      have := congrArg List.length h
      rw [List.length_take] at this
      have h3 : min j l.length = 0 := this
      omega
    | cons z r => exact ⟨z, r, rfl⟩
  have hlast : (l.take j).getLast? = some y := by
    rw [List.getLast?_eq_getElem?, List.length_take, Nat.min_eq_left (by omega), List.getElem?_take, if_pos (by omega)]; exact hy
  rw [hz] at hlast ⊢
  show z :: compF z (r ++ [x]) = z :: compF z r ++ _
  rw [compF_snoc]
  have e : r.getLast?.getD z = y := by
    cases r with
    | nil => simpa using hlast
    | cons u t =>
      rw [List.getLast?_cons_cons] at hlast
      rw [hlast]; rfl
  rw [e]; rfl
theorem compact_short {l : List Ev} (h : l.length < 2) : compactF l = l := by
  match l, h with
  | [], _ => rfl
  | [x], _ => rfl
theorem flat_takeE : ∀ (l : List Ev) (i : Nat), (l.flatMap evEnc).take (i * 5) = (l.take i).flatMap evEnc
  | [], i => by simp
  | x :: r, 0 => by simp
  | x :: r, i + 1 => by
    rw [List.flatMap_cons, List.take_succ_cons, List.flatMap_cons, ← flat_takeE r i, show (i + 1) * 5 = (evEnc x).length + i * 5 by rw [ev_len]; omega, List.take_length_add_append]
theorem row_drop {w : World} {br n lo : Nat} {l : List Ev} (h : SlT evEnc 5 74 w (some ⟨br, 0, none⟩) n l) (hlo : lo ≤ n) : SlT evEnc 5 74 w (some ⟨br, lo * 5, none⟩) (n - lo) (l.drop lo) := by
  have hd := h.dropS (c := n + 1) lo hlo (by omega)
  rw [if_neg (by omega)] at hd
  simpa [Option.map, add_addr] using hd
theorem compact_any (l0 : List Ev) (br n cap base : Nat) (w : World) (h : w.ownsRow base 74 5 (.slice (some ⟨br, 0, none⟩) n cap) n (l0.flatMap evEnc)) (hl0 : l0.length = n) (hn : n ≤ 100000) (hcap : n ≤ cap) :
  Calls Tryz.prog 80 #[.slice (some ⟨br, 0, none⟩) n cap] w (fun e w' => ∃ (k : Nat) (ls : List Ev), e = .returned (.slice (some ⟨br, 0, none⟩) k cap) ∧ ls = compactF l0 ∧ ls.length = k ∧ w'.ownsRow base 74 5 (.slice (some ⟨br, 0, none⟩) k cap) k (ls.flatMap evEnc) ∧ w.grownBy w' (some br)) := by
 refine gw_enter ⟨61, w, (some br), []⟩ Tryz.func80 rfl Tryz.ntmps80 rfl (memR (X := []) h allF_nil allL_nil) ?_
 refine sr_ (sg_ rfl (nn_ (gw_seq (sr_ (mv_ rfl (wl_ov (ov_len es47 rfl) rfl (wl_ov (ov_lss rfl rfl) rfl (nn_ ?_))))))))
 refine gw_cond rfl (fun hh => ?_) (fun hh => ?_)
 ·have h2 : ((n : Nat) : Int) < 2 := by simpa using hh
  clear hh
  refine sr_ (mv_ rfl (sg_ rfl (nn_ ?_)))
  refine gw_ret ?_
  refine nx_then_ret ?_
  have hcs : compactF l0 = l0 := compact_short (by omega)
  rw [hcs]
  refine nx_ret1 rfl rfl fun wx hm => ?_
  exact ⟨n, l0, rfl, rfl, hl0, (fin_row hm.k hm.g).1, (fin_row hm.k hm.g).2⟩
 have h2 : ¬ (((n : Nat) : Int) < 2) := by simpa using hh
 clear hh
 refine gw_skip (nx_then (gw_seq (sr_ (sg_ rfl (nn_ (gw_block ?_))))))
 refine gw_loop (γ := Nat) (fun (k : Nat) => (1 ≤ k ∧ k ≤ n) ∧ compactF (l0.take k) = l0.take k) (fun (k : Nat) => [(0, .slice (some ⟨br, 0, none⟩) n cap), (3, .int .i64 ((k : Nat) : Int))]) (fun (k : Nat) => RowK base 74 5 n cap br ((l0).flatMap evEnc)) (fun (k : Nat) => []) (fun (k : Nat) => []) (fun (k : Nat) => []) (fun (k : Nat) => n - k) 1 ⟨⟨Nat.le_refl _, by omega⟩, compact_short (by rw [List.length_take]; omega)⟩ ⟨rfl, rfl, trivial⟩ (fun _ hm => hm.pick [] [] [] rfl rfl) ?_
 intro k hinv
 replace hinv : (1 ≤ k ∧ k ≤ n) ∧ compactF (l0.take k) = l0.take k := hinv
 refine gw_seq (sr_ ?_)
 obtain ⟨⟨hk1, hkn⟩, hck⟩ := hinv
 refine mv_ rfl (mv_ rfl (wl_ov (ov_len es47 rfl) rfl (wl_ov (ov_lss rfl rfl) rfl (nn_ ?_))))
 refine gw_cond rfl (fun hh => ?_) (fun hh => ?_)
 ·have hk : ((k : Nat) : Int) < ((n : Nat) : Int) := by simpa using hh
  clear hh
  refine gw_skip (nx_then (gw_seq (gw_block (gw_seq ?_))))
  obtain ⟨xx, hx⟩ : ∃ x, l0[k]? = some x := ⟨_, List.getElem?_eq_getElem (by omega)⟩
  obtain ⟨x0, x1, x2, x3, x4⟩ := xx
  obtain ⟨yy, hy⟩ : ∃ x, l0[k - 1]? = some x := ⟨_, List.getElem?_eq_getElem (by omega)⟩
  obtain ⟨y0, y1, y2, y3, y4⟩ := yy
  have hk1n : k - 1 < n := by omega
  have hca := compact_at hx hy (by omega)
  refine gd (fun wz => (RowK base 74 5 n cap br ((l0).flatMap evEnc)) wz ∧ True) mixed (fun _ hm => ⟨hm.k, trivial⟩) fun z => ?_
  refine wt 0 10 1 rfl z (ov_move rfl) ?_
  refine wt 1 10 3 rfl z (ov_move rfl) ?_
  refine wt 2 10 7 rfl z (ov_index (j := k) es47 rfl rfl (by omega)) ?_
  refine wt 3 10 15 rfl z (ov_elem (vs := [.int .i64 x0, .string x1, .string x2, .int .i64 x3, .string x4]) rz74 rfl (fun _ hm => (RowK.get (hm.1) ev_len hl0)) hx rfl rfl) ?_
  refine wt 4 10 31 rfl z (ov_move rfl) ?_
  refine wt 5 10 63 rfl z (ov_move rfl) ?_
  refine wt 6 10 127 rfl z (ov_sub rfl rfl (by omega) (by omega)) ?_
  refine wa_set 22 (v' := .int .i64 (((k - 1) : Nat) : Int)) rfl (congrArg (Value.int .i64) (by omega)) ?_
  refine wt 7 10 255 rfl z (ov_index (j := (k - 1)) es47 rfl rfl (by omega)) ?_
  refine wt 8 10 511 rfl z (ov_elem (vs := [.int .i64 y0, .string y1, .string y2, .int .i64 y3, .string y4]) rz74 rfl (fun _ hm => (RowK.get (hm.1) ev_len hl0)) hy rfl rfl) ?_
  refine wt 9 10 1023 rfl z (ov_bin rfl rfl (cmp_agg guard_event (fun wx => ev_eql x0 x1 x2 x3 x4 y0 y1 y2 y3 y4 wx))) ?_
  refine wa_done (by kernel_rfl) ?_
  refine nx_then ?_
  refine gw_cond rfl (fun hh => ?_) (fun hh => ?_)
  ·have hq : (evQ ⟨x0, x1, x2, x3, x4⟩ ⟨y0, y1, y2, y3, y4⟩) = true := by simpa using hh
   clear hh
   refine sr_ ?_
   have hnc : n ≤ cap := hcap
   refine mv_ rfl (mv_ rfl ?_)
   refine wl_ov (ov_sliceLo (lo := k) es47 rfl rfl rfl (by omega)) rfl ?_
   refine wl_set 28 (v' := .slice (some ⟨br, k * 5, none⟩) (n - k) (cap - k)) rfl (by rw [if_neg (by omega)]; simp [Option.map, add_addr]) ?_
   refine sg_ rfl (nn_ (gw_seq (sr_ (sg_ rfl (nn_ (gw_block ?_))))))
   refine gw_loop (γ := Nat × Nat × List Ev) (fun gg => (1 ≤ gg.2.1 ∧ gg.2.1 ≤ n - k) ∧ (k ≤ gg.1 ∧ gg.1 + 1 ≤ k + gg.2.1) ∧ gg.2.2.length = n ∧ gg.2.2.drop (k + gg.2.1 - 1) = l0.drop (k + gg.2.1 - 1) ∧ gg.2.2.take gg.1 = compactF (l0.take (k + gg.2.1))) (fun gg => [(0, .slice (some ⟨br, 0, none⟩) n cap), (3, .int .i64 ((gg.1 : Nat) : Int)), (4, .slice (some ⟨br, k * 5, none⟩) (n - k) (cap - k)), (5, .int .i64 ((gg.2.1 : Nat) : Int))]) (fun gg => RowK base 74 5 n cap br ((gg.2.2).flatMap evEnc)) (fun gg => []) (fun gg => []) (fun gg => []) (fun gg => n - k - gg.2.1) (k, 1, l0) ⟨⟨Nat.le_refl _, by dsimp only; omega⟩, ⟨Nat.le_refl _, Nat.le_refl _⟩, hl0, rfl, by dsimp only; rw [hca, if_pos hq, List.append_nil, hck]⟩ ⟨rfl, rfl, rfl, rfl, trivial⟩ (fun _ hm => hm.pick [] [] [] rfl rfl) ?_
   rintro ⟨k1, k2, cur⟩ hinv
   replace hinv : (1 ≤ k2 ∧ k2 ≤ n - k) ∧ (k ≤ k1 ∧ k1 + 1 ≤ k + k2) ∧ cur.length = n ∧ cur.drop (k + k2 - 1) = l0.drop (k + k2 - 1) ∧ cur.take k1 = compactF (l0.take (k + k2)) := hinv
   dsimp only
   refine gw_seq (sr_ ?_)
   obtain ⟨⟨hk21, hk2n⟩, ⟨hkk1, hk1k⟩, hcl, hdr, htk⟩ := hinv
   refine mv_ rfl (mv_ rfl (wl_ov (ov_len es47 rfl) rfl (wl_ov (ov_lss rfl rfl) rfl (nn_ ?_))))
   refine gw_cond rfl (fun hh => ?_) (fun hh => ?_)
   ·have hk2 : ((k2 : Nat) : Int) < ((n - k : Nat) : Int) := by simpa using hh
    clear hh
    refine gw_skip (nx_then (gw_seq (gw_block (gw_seq ?_))))
    obtain ⟨x, hx2⟩ : ∃ x, (cur.drop k)[k2]? = some x := ⟨_, List.getElem?_eq_getElem (by rw [List.length_drop]; omega)⟩
    obtain ⟨y, hy2⟩ : ∃ y, (cur.drop k)[k2 - 1]? = some y := ⟨_, List.getElem?_eq_getElem (by rw [List.length_drop]; omega)⟩
    have hxl : l0[k + k2]? = some x := by
     have := congrArg (fun z => z[1]?) hdr
     simp only [List.getElem?_drop] at this hx2
     rw [show k + k2 - 1 + 1 = k + k2 by omega] at this
     rw [← this]; exact hx2
    have hyl : l0[k + k2 - 1]? = some y := by
     have := congrArg (fun z => z[0]?) hdr
     simp only [List.getElem?_drop, Nat.add_zero] at this hy2
     rw [← this, show k + k2 - 1 = k + (k2 - 1) by omega]; exact hy2
    have hcb := compact_at hxl hyl (by omega)
    obtain ⟨zz, hz⟩ : ∃ z, cur[k1]? = some z := ⟨_, List.getElem?_eq_getElem (by omega)⟩
    obtain ⟨u0, u1, u2, u3, u4⟩ := x
    obtain ⟨v0, v1, v2, v3, v4⟩ := y
    refine gd (fun wz => (RowK base 74 5 n cap br ((cur).flatMap evEnc)) wz ∧ True) mixed (fun _ hm => ⟨hm.k, trivial⟩) fun z => ?_
    refine wt 0 10 1 rfl z (ov_move rfl) ?_
    refine wt 1 10 3 rfl z (ov_move rfl) ?_
    refine wt 2 10 7 rfl z (ov_index (j := k2) es47 rfl rfl (by omega)) ?_
    refine wt 3 10 15 rfl z (ov_elem (vs := [.int .i64 u0, .string u1, .string u2, .int .i64 u3, .string u4]) rz74 rfl (fun _ hm => (row_drop (RowK.get (hm.1) ev_len hcl) (by omega))) hx2 rfl rfl) ?_
    refine wt 4 10 31 rfl z (ov_move rfl) ?_
    refine wt 5 10 63 rfl z (ov_move rfl) ?_
    refine wt 6 10 127 rfl z (ov_sub rfl rfl (by omega) (by omega)) ?_
    refine wa_set 41 (v' := .int .i64 (((k2 - 1) : Nat) : Int)) rfl (congrArg (Value.int .i64) (by omega)) ?_
    refine wt 7 10 255 rfl z (ov_index (j := (k2 - 1)) es47 rfl rfl (by omega)) ?_
    refine wt 8 10 511 rfl z (ov_elem (vs := [.int .i64 v0, .string v1, .string v2, .int .i64 v3, .string v4]) rz74 rfl (fun _ hm => (row_drop (RowK.get (hm.1) ev_len hcl) (by omega))) hy2 rfl rfl) ?_
    refine wt 9 10 1023 rfl z (ov_bin rfl rfl (cmp_agg guard_event (fun wx => ev_neq u0 u1 u2 u3 u4 v0 v1 v2 v3 v4 wx))) ?_
    refine wa_done (by kernel_rfl) ?_
    refine nx_then ?_
    refine gw_cond rfl (fun hh => ?_) (fun hh => ?_)
    ·have hq2 : evQ ⟨u0, u1, u2, u3, u4⟩ ⟨v0, v1, v2, v3, v4⟩ = false := by simpa using hh
     clear hh
     refine sr_ (mv_ rfl (mv_ rfl (mv_ rfl (mv_ rfl ?_))))
     refine wl_ov (ov_index (j := k2) es47 rfl rfl (by omega)) rfl ?_
     refine wl_ov (ov_elem (vs := [.int .i64 u0, .string u1, .string u2, .int .i64 u3, .string u4]) rz74 rfl (fun _ hm => (row_drop (RowK.get hm.k ev_len hcl) (by omega))) hx2 rfl rfl) rfl ?_
     refine wl_ov (ov_index (j := k1) es47 rfl rfl (by omega)) rfl ?_
     refine wl_storesRow (l := cur) (j := k1) (r := 0) (el := zz) (el' := ⟨u0, u1, u2, u3, u4⟩) rfl rz74 rfl rfl rfl rfl ev_len rfl hz hcl (by decide) rfl rfl ?_
     refine nn_ (gw_region (mv_ rfl (ad_ rfl rfl (sg_ rfl (wl_nil (nx_blk_nrm (nx_then (gw_region (mv_ rfl (ad_ rfl rfl (sg_ rfl (wl_nil ?_))))))))))))
     have hq3 : ¬ evQ ⟨u0, u1, u2, u3, u4⟩ ⟨v0, v1, v2, v3, v4⟩ = true := by rw [hq2]; decide
     exact nx_round (k1 + 1, k2 + 1, cur.set k1 ⟨u0, u1, u2, u3, u4⟩) ⟨⟨by dsimp only; omega, by dsimp only; omega⟩, ⟨by dsimp only; omega, by dsimp only; omega⟩, by rw [List.length_set]; exact hcl, by dsimp only; rw [show k + (k2 + 1) - 1 = k + k2 - 1 + 1 by omega, List.drop_set_of_lt (by omega), ← List.drop_drop, ← List.drop_drop, hdr], by dsimp only; rw [show k + (k2 + 1) = k + k2 + 1 by omega, hcb, if_neg hq3, ← htk, List.take_add_one, List.getElem?_set_self (by omega), List.take_set_of_le (Nat.le_refl _)]; rfl⟩ (by dsimp only; omega) ⟨rfl, (some_int (by dsimp only; omega)), rfl, (some_int (by dsimp only; omega)), trivial⟩ (fun _ hm => hm.pick [] [] [] rfl rfl)
    have hq2 : evQ ⟨u0, u1, u2, u3, u4⟩ ⟨v0, v1, v2, v3, v4⟩ = true := by simpa using hh
    clear hh
    refine gw_skip (nx_blk_nrm (nx_then (gw_region (mv_ rfl (ad_ rfl rfl (sg_ rfl (wl_nil ?_)))))))
    have hq3 : evQ ⟨u0, u1, u2, u3, u4⟩ ⟨v0, v1, v2, v3, v4⟩ = true := by simpa using hq2
    exact nx_round (k1, k2 + 1, cur) ⟨⟨by dsimp only; omega, by dsimp only; omega⟩, ⟨by dsimp only; omega, by dsimp only; omega⟩, hcl, by dsimp only; rw [show k + (k2 + 1) - 1 = k + k2 - 1 + 1 by omega, ← List.drop_drop, ← List.drop_drop, hdr], by dsimp only; rw [show k + (k2 + 1) = k + k2 + 1 by omega, hcb, if_pos hq3, List.append_nil, htk]⟩ (by dsimp only; omega) ⟨rfl, rfl, rfl, (some_int (by dsimp only; omega)), trivial⟩ (fun _ hm => hm.pick [] [] [] rfl rfl)
   have hk2 : ¬ (((k2 : Nat) : Int) < ((n - k : Nat) : Int)) := by simpa using hh
   clear hh
   refine gw_exit ?_
   refine nx_then_exit (nx_then_exit ?_)
   refine nx_blk_here ?_
   refine nx_then (sr_ ?_)
   have hall : l0.take (k + k2) = l0 := List.take_of_length_le (by omega)
   rw [hall] at htk
   refine mv_ rfl (mv_ rfl ?_)
   refine wl_ov (ov_sliceLo (lo := k1) es47 rfl rfl rfl (by omega)) rfl ?_
   refine wl_set 56 (v' := .slice (some ⟨br, k1 * 5, none⟩) (n - k1) (cap - k1)) rfl (by rw [if_neg (by omega)]; simp [Option.map, add_addr]) ?_
   refine wl_clearRow (m := k1) rfl es47 zc74 rfl rfl rfl rfl (by omega) rfl ?_
   rw [flat_takeE, htk]
   refine nn_ (sr_ (mv_ rfl (mv_ rfl ?_)))
   refine wl_ov (ov_sliceHi (hi := k1) es47 rfl rfl rfl (by omega)) rfl ?_
   refine sg_ rfl (nn_ ?_)
   refine gw_ret ?_
   refine nx_blk_ret (nx_then_ret (nx_then_ret (nx_blk_ret (nx_then_ret ?_))))
   have hfl : (compactF l0).length = k1 := by rw [← htk, List.length_take]; omega
   refine nx_ret1 rfl rfl fun wx hm => ?_
   exact ⟨k1, _, rfl, rfl, hfl, (fin_row hm.k hm.g).1, (fin_row hm.k hm.g).2⟩
  have hq : (evQ ⟨x0, x1, x2, x3, x4⟩ ⟨y0, y1, y2, y3, y4⟩) = false := by simpa using hh
  clear hh
  refine gw_skip (nx_blk_nrm (nx_then (gw_region (mv_ rfl (ad_ rfl rfl (sg_ rfl (wl_nil ?_)))))))
  exact nx_round (k + 1) ⟨⟨by omega, by omega⟩, by rw [hca, hck, if_neg (by rw [hq]; decide), List.take_add_one, hx]; rfl⟩ (by omega) ⟨rfl, (some_int (by omega)), trivial⟩ (fun _ hm => hm.pick [] [] [] rfl rfl)
 have hk : ¬ (((k : Nat) : Int) < ((n : Nat) : Int)) := by simpa using hh
 clear hh
 refine gw_exit ?_
 refine nx_then_exit (nx_then_exit ?_)
 refine nx_blk_here ?_
 refine nx_then (sr_ ?_)
 have hcs : compactF l0 = l0 := by rw [show l0.take k = l0 from List.take_of_length_le (by omega)] at hck; exact hck
 rw [hcs]
 refine mv_ rfl (sg_ rfl (nn_ ?_))
 refine gw_ret ?_
 refine nx_ret1 rfl rfl fun wx hm => ?_
 exact ⟨n, l0, rfl, rfl, hl0, (fin_row hm.k hm.g).1, (fin_row hm.k hm.g).2⟩
theorem compact0_any (A : Option Addr) (cap : Nat) (w : World) : Calls Tryz.prog 80 #[.slice A 0 cap] w (fun e w' => e = .returned (.slice A 0 cap) ∧ w.grownBy w' none) := by
 refine gw_enter ⟨61, w, none, []⟩ Tryz.func80 rfl Tryz.ntmps80 rfl (mem0 (X := []) allF_nil allL_nil) ?_
 refine sr_ (sg_ rfl (nn_ (gw_seq (sr_ (mv_ rfl (wl_ov (ov_len es47 rfl) rfl ?_))))))
 refine wl_set 7 (v' := .int .i64 0) rfl rfl ?_
 refine wl_ov (ov_lss rfl rfl) rfl ?_
 refine wl_set 8 (v' := .bool true) rfl (congrArg Value.bool (by decide)) ?_
 refine nn_ (ct_ rfl (sr_ (mv_ rfl (sg_ rfl (nn_ ?_)))))
 refine gw_ret ?_
 refine nx_then_ret ?_
 refine nx_ret1 rfl rfl fun wx hm => ?_
 exact ⟨rfl, hm.g⟩
theorem equal_evs (l : List Ev) (A1 A2 : Option Addr) (n c1 c2 : Nat) (w : World) (h1 : SlT evEnc 5 74 w A1 n l) (h2 : SlT evEnc 5 74 w A2 n l) (hn : n ≤ 1000000) :
  Calls Tryz.prog 25 #[.slice A1 n c1, .slice A2 n c2] w (fun e w' => e = .returned (.bool true) ∧ w.grownBy w' none) := by
 refine gw_enter ⟨26, w, none, []⟩ Tryz.func25 rfl Tryz.ntmps25 rfl (mem0 (X := [SlOld evEnc 5 74 w.heap.size none A1 n l, SlOld evEnc 5 74 w.heap.size none A2 n l]) (allF_cons h1.old (allF_cons h2.old allF_nil)) (allL_cons SlOld.lasts (allL_cons SlOld.lasts allL_nil))) ?_
 refine sr_ ?_
 have hlen := h1.len
 refine sg_ rfl (nn_ (gw_seq (sr_ (mv_ rfl (wl_ov (ov_len es47 rfl) rfl (mv_ rfl (wl_ov (ov_len es47 rfl) rfl (wl_ov (ov_neq rfl rfl) rfl ?_))))))))
 refine wl_set 10 (v' := .bool false) rfl (congrArg Value.bool (by simp)) ?_
 refine nn_ (cf_ rfl (gw_skip (nx_then (gw_seq (sr_ (mv_ rfl (wl_ov (ov_len es47 rfl) rfl (mv_ rfl (nn_ (gw_block ?_))))))))))
 refine gw_loop (γ := Nat) (fun (k : Nat) => k ≤ n) (fun (k : Nat) => [(0, .slice A1 n c1), (1, .slice A2 n c2), (12, .int .i64 ((n : Nat) : Int)), (13, .int .i64 ((k : Nat) : Int))]) (fun (k : Nat) => fun _ => True) (fun (k : Nat) => []) (fun (k : Nat) => []) (fun (k : Nat) => [SlOld evEnc 5 74 w.heap.size none A1 n l, SlOld evEnc 5 74 w.heap.size none A2 n l]) (fun (k : Nat) => n - k) 0 (Nat.zero_le _) ⟨rfl, rfl, rfl, rfl, trivial⟩ (fun _ hm => hm.pick [] [] [0, 1] rfl rfl) ?_
 intro k hinv
 replace hinv : k ≤ n := hinv
 refine sr_ (wl_ov (ov_lss rfl rfl) rfl (nn_ (gw_seq ?_)))
 refine gw_cond rfl (fun hh => ?_) (fun hh => ?_)
 ·have hk : ((k : Nat) : Int) < ((n : Nat) : Int) := by simpa using hh
  clear hh
  refine gw_skip (nx_then (gw_seq (gw_block (sr_ ?_))))
  obtain ⟨b1, o1, hA, _, _⟩ := h1.get (by omega)
  subst hA
  obtain ⟨b2, o2, hA, _, _⟩ := h2.get (by omega)
  subst hA
  obtain ⟨x, hx⟩ : ∃ x, l[k]? = some x := ⟨_, List.getElem?_eq_getElem (by omega)⟩
  obtain ⟨x0, x1, x2, x3, x4⟩ := x
  refine mv_ rfl (sg_ rfl (nn_ (gw_seq ?_)))
  refine gd (fun wz => (SlOld evEnc 5 74 w.heap.size none (some ⟨b1, o1, none⟩) n l) wz ∧ (SlOld evEnc 5 74 w.heap.size none (some ⟨b2, o2, none⟩) n l) wz ∧ True) mixed (fun _ hm => ⟨hm.fa 0, hm.fa 1, trivial⟩) fun z => ?_
  refine wt 0 9 1 rfl z (ov_move rfl) ?_
  refine wt 1 9 3 rfl z (ov_move rfl) ?_
  refine wt 2 9 7 rfl z (ov_index (j := k) es47 rfl rfl (by omega)) ?_
  refine wt 3 9 15 rfl z (ov_elem (vs := [.int .i64 x0, .string x1, .string x2, .int .i64 x3, .string x4]) rz74 rfl (fun _ hm => (hm.1).1) hx rfl rfl) ?_
  refine wt 4 9 31 rfl z (ov_move rfl) ?_
  refine wt 5 9 63 rfl z (ov_move rfl) ?_
  refine wt 6 9 127 rfl z (ov_index (j := k) es47 rfl rfl (by omega)) ?_
  refine wt 7 9 255 rfl z (ov_elem (vs := [.int .i64 x0, .string x1, .string x2, .int .i64 x3, .string x4]) rz74 rfl (fun _ hm => (hm.2.1).1) hx rfl rfl) ?_
  refine wt 8 9 511 rfl z (ov_bin rfl rfl (cmp_agg guard_event (fun wx => ev_neq x0 x1 x2 x3 x4 x0 x1 x2 x3 x4 wx))) ?_
  refine wa_set 24 (v' := .bool false) rfl (congrArg Value.bool (by rw [evQ_iff.2 rfl]; rfl)) ?_
  refine wa_done (by kernel_rfl) ?_
  refine nx_then (cf_ rfl (gw_skip (nx_blk_nrm (nx_then (gw_region (ad_ rfl rfl (mv_ rfl (wl_nil ?_))))))))
  exact nx_round (k + 1) (by omega) (by omega) ⟨rfl, rfl, rfl, (some_int (by omega)), trivial⟩ (fun _ hm => hm.pick [] [] [0, 1] rfl rfl)
 have hk : ¬ (((k : Nat) : Int) < ((n : Nat) : Int)) := by simpa using hh
 clear hh
 refine gw_exit ?_
 refine nx_then_exit (nx_then_exit ?_)
 refine nx_blk_here ?_
 refine nx_then (sr_ (sg_ rfl (nn_ ?_)))
 refine gw_ret ?_
 refine nx_ret1 rfl rfl fun wx hm => ?_
 exact ⟨rfl, hm.g⟩
end Go.Proofs.YtiendebcdicjnaaGreatDoor
namespace Go.Proofs.YtiendebcdicjnaaGreatDoor
open Go.RowKit
def mergeM (l1 l2 : List Ev) : List Ev := compactF (isort evLt (l1 ++ l2))
def adjL : List Ev → Bool
  | x :: y :: r => decide (evOrd x y = 0) || adjL (y :: r)
  | _ => false
def mergeE (l : List Ev) : Int := if adjL l = true then 13 else 0
theorem adj_iff : ∀ {l : List Ev}, adjL l = true ↔ ∃ (i : Nat) (x y : Ev), l[i]? = some x ∧ l[i + 1]? = some y ∧ evOrd x y = 0
  | [] => ⟨fun h => (by cases h), fun ⟨i, x, y, h, _⟩ => by simp at h⟩
  | [z] => ⟨fun h => (by cases h), fun ⟨i, x, y, _, h, _⟩ => by simp at h⟩
  | x :: y :: r => by
    have ih := adj_iff (l := y :: r)
    show (decide (evOrd x y = 0) || adjL (y :: r)) = true ↔ _
    rw [Bool.or_eq_true, ih, decide_eq_true_eq]
    constructor
    · rintro (h | ⟨i, u, v, h1, h2, h3⟩)
      · exact ⟨0, x, y, rfl, rfl, h⟩
      · exact ⟨i + 1, u, v, by simpa using h1, by simpa using h2, h3⟩
    · rintro ⟨i, u, v, h1, h2, h3⟩
      cases i with
      | zero =>
        simp at h1 h2
        subst h1 h2
        exact .inl h3
      | succ i => exact .inr ⟨i, u, v, by simpa using h1, by simpa using h2, h3⟩
def adjU (l : List Ev) (k : Nat) : Prop := ∀ j, j + 1 < k → ∀ x y, l[j]? = some x → l[j + 1]? = some y → evOrd x y ≠ 0
theorem merge_bad {l : List Ev} {i : Nat} {x y : Ev} (hx : l[i]? = some x) (hy : l[i + 1]? = some y) (h : evOrd x y = 0) : mergeE l = 13 := by
  unfold mergeE
  rw [if_pos (adj_iff.2 ⟨i, x, y, hx, hy, h⟩)]
theorem merge_good {l : List Ev} (h : ∀ j x y, l[j]? = some x → l[j + 1]? = some y → evOrd x y ≠ 0) : mergeE l = 0 := by
  unfold mergeE
  rw [if_neg (fun hc => by
    obtain ⟨i, x, y, h1, h2, h3⟩ := adj_iff.1 hc
    exact h i x y h1 h2 h3)]
theorem adj_all {l : List Ev} {k : Nat} (h : adjU l k) (hk : l.length ≤ k) : ∀ j x y, l[j]? = some x → l[j + 1]? = some y → evOrd x y ≠ 0 := fun j x y h1 h2 => h j (by
  have := (List.getElem?_eq_some_iff.1 h2).1
  omega) x y h1 h2
theorem adj_next {l : List Ev} {i : Nat} {x y : Ev} (h : adjU l i) (hx : l[i - 1]? = some x) (hy : l[i - 1 + 1]? = some y) (hn : ¬ evOrd x y = 0) (h0 : 0 < i) : adjU l (i + 1) := fun j hj u v hu hv => by
  by_cases hji : j + 1 = i
  · obtain rfl : j = i - 1 := by omega
    rw [hx] at hu
    rw [hy] at hv
    cases hu; cases hv
    exact hn
  · exact h j (by omega) u v hu hv
theorem compF_len : ∀ (r : List Ev) (p : Ev), (compF p r).length ≤ r.length
  | [], _ => Nat.le_refl _
  | y :: r, p => by
    have := compF_len r y
    unfold compF
    split
    · rw [List.length_cons]; omega
    · rw [List.length_cons, List.length_cons]; omega
theorem compact_len : ∀ (l : List Ev), (compactF l).length ≤ l.length
  | [] => Nat.le_refl _
  | x :: r => by
    have := compF_len r x
    show (x :: compF x r).length ≤ _
    rw [List.length_cons, List.length_cons]; omega
theorem compF_mem : ∀ {r : List Ev} {p x : Ev}, x ∈ compF p r → x ∈ r
  | [], _, _, h => by cases h
  | y :: r, p, x, h => by
    unfold compF at h
    split at h
    · exact List.mem_cons_of_mem _ (compF_mem h)
    · rcases List.mem_cons.1 h with rfl | h
      · exact List.mem_cons_self ..
      · exact List.mem_cons_of_mem _ (compF_mem h)
theorem compact_mem : ∀ {l : List Ev} {x : Ev}, x ∈ compactF l → x ∈ l
  | [], _, h => by cases h
  | y :: r, x, h => by
    rcases List.mem_cons.1 (show x ∈ y :: compF y r from h) with rfl | h
    · exact List.mem_cons_self ..
    · exact List.mem_cons_of_mem _ (compF_mem h)
def mgE (sl : List St) (cl : List Cs) (vl : List Vh) (pl : List Pl) (l1 l2 : List Ev) : Int := firstE [fleetE sl cl vl pl, logE sl vl l1, logE sl vl l2, mergeE (mergeM l1 l2)]
end Go.Proofs.YtiendebcdicjnaaGreatDoor
namespace Go.Proofs.YtiendebcdicjnaaGreatDoor
open Go.RowKit
section
variable {α : Type}
/-- One is put into a list that is sorted from behind. -/
def insR (lt : α → α → Bool) (x : α) : List α → List α
  | [] => [x]
  | y :: r => if lt x y = true then y :: insR lt x r else x :: y :: r
theorem insR_mem {lt : α → α → Bool} {x z : α} : ∀ {l : List α}, z ∈ insR lt x l → z = x ∨ z ∈ l
  | [], h => .inl (List.mem_singleton.1 h)
  | y :: r, h => by
    unfold insR at h
    split at h
    · rcases List.mem_cons.1 h with rfl | h
      · exact .inr (List.mem_cons_self ..)
      · rcases insR_mem h with h | h
        · exact .inl h
        · exact .inr (List.mem_cons_of_mem _ h)
    · rcases List.mem_cons.1 h with h | h
      · exact .inl h
      · exact .inr h
theorem insR_len {lt : α → α → Bool} {x : α} : ∀ {l : List α}, (insR lt x l).length = l.length + 1
  | [] => rfl
  | y :: r => by
    have := insR_len (lt := lt) (x := x) (l := r)
    unfold insR
    split
    · rw [List.length_cons, this, List.length_cons]
    · rw [List.length_cons]
theorem sink_ins {lt : α → α → Bool} : ∀ {j : Nat} {l : List α} {x : α}, l[j]? = some x → sink lt j l = (insR lt x (l.take j).reverse).reverse ++ l.drop (j + 1)
  | 0, l, x, h => by
    obtain ⟨h1, rfl⟩ := List.getElem?_eq_some_iff.1 h
    show l = [l[0]] ++ l.drop 1
    rw [List.singleton_append, ← List.drop_eq_getElem_cons h1, List.drop_zero]
  | j + 1, l, x, h => by
    obtain ⟨h1, hx⟩ := List.getElem?_eq_some_iff.1 h
    obtain ⟨y, hy⟩ : ∃ y, l[j]? = some y := ⟨_, List.getElem?_eq_getElem (by omega)⟩
    have ht : (l.take (j + 1)).reverse = y :: (l.take j).reverse := by
      rw [List.take_add_one, hy]; simp
    rw [ht]
    by_cases hl : lt x y = true
    · have hs : ((l.set (j + 1) y).set j x)[j]? = some x := List.getElem?_set_self (by rw [List.length_set]; omega)
      rw [sink_yes h hy hl, sink_ins hs]
      have e1 : ((l.set (j + 1) y).set j x).take j = l.take j := by
        rw [List.take_set_of_le (by omega), List.take_set_of_le (by omega)]
      have e2 : ((l.set (j + 1) y).set j x).drop (j + 1) = y :: l.drop (j + 2) := by
        rw [List.drop_set_of_lt (by omega), List.drop_eq_getElem_cons (by rw [List.length_set]; omega), List.getElem_set_self, List.drop_set_of_lt (by omega)]
      rw [e1, e2]
      unfold insR
      rw [if_pos hl]; simp
      cases (l.take j).reverse <;> rfl
    · have hl2 : lt x y = false := by simpa using hl
      rw [sink_no h hy hl2]
      unfold insR
      rw [if_neg hl]
      obtain ⟨h2, hy2⟩ := List.getElem?_eq_some_iff.1 hy
      conv => lhs; rw [← List.take_append_drop j l, List.drop_eq_getElem_cons h2, List.drop_eq_getElem_cons h1, hx, hy2]
      simp
theorem isortF_fold {lt : α → α → Bool} : ∀ (f i : Nat) (l : List α), i + f = l.length → isortF lt f i l = ((l.drop i).foldl (fun a x => insR lt x a) (l.take i).reverse).reverse
  | 0, i, l, h => by
    rw [List.drop_eq_nil_of_le (by omega), List.take_of_length_le (by omega)]
    show l = l.reverse.reverse
    rw [List.reverse_reverse]
  | f + 1, i, l, h => by
    obtain ⟨x, hx⟩ : ∃ x, l[i]? = some x := ⟨_, List.getElem?_eq_getElem (by omega)⟩
    obtain ⟨h1, hx1⟩ := List.getElem?_eq_some_iff.1 hx
    have hlen : (insR lt x (l.take i).reverse).reverse.length = i + 1 := by
      rw [List.length_reverse, insR_len, List.length_reverse, List.length_take]; omega
    show isortF lt f (i + 1) (sink lt i l) = _
    rw [isortF_fold f (i + 1) (sink lt i l) (by rw [sink_len]; omega), sink_ins hx]
    rw [show i + 1 = (insR lt x (l.take i).reverse).reverse.length from hlen.symm, List.drop_left, List.take_left, List.reverse_reverse, hlen, List.drop_eq_getElem_cons h1, hx1]
    rfl
theorem isort_fold {lt : α → α → Bool} (l : List α) : isort lt l = (l.foldl (fun a x => insR lt x a) []).reverse := by
  cases l with
  | nil => rfl
  | cons x r =>
    unfold isort
    rw [isortF_fold _ _ _ (by rw [List.length_cons]; omega)]
    rfl
theorem insR_pair {lt : α → α → Bool} {R : α → α → Prop} (tr : ∀ a b c, R a b → R b c → R a c) {x : α} : ∀ {l : List α}, l.Pairwise (fun a b => R b a) → (∀ y ∈ l, (lt x y = true → R x y) ∧ (lt x y = false → R y x)) → (insR lt x l).Pairwise (fun a b => R b a)
  | [], _, _ => List.pairwise_singleton _ _
  | y :: r, hp, hc => by
    obtain ⟨hp1, hp2⟩ := List.pairwise_cons.1 hp
    have hy := hc y (List.mem_cons_self ..)
    unfold insR
    split
    · rename_i h
      refine List.pairwise_cons.2 ⟨fun z hz => ?_, insR_pair (R := R) tr hp2 fun z hz => hc z (List.mem_cons_of_mem _ hz)⟩
      rcases insR_mem hz with rfl | hz
      · exact hy.1 h
      · exact hp1 z hz
    · rename_i h
      have h2 := hy.2 (by simpa using h)
      refine List.pairwise_cons.2 ⟨fun z hz => ?_, hp⟩
      rcases List.mem_cons.1 hz with rfl | hz
      · exact h2
      · exact tr _ _ _ (hp1 z hz) h2
theorem fold_pair {lt : α → α → Bool} {R : α → α → Prop} (tr : ∀ a b c, R a b → R b c → R a c) : ∀ {l acc : List α}, acc.Pairwise (fun a b => R b a) → (∀ y ∈ acc, ∀ x ∈ l, (lt x y = true → R x y) ∧ (lt x y = false → R y x)) → l.Pairwise (fun y x => (lt x y = true → R x y) ∧ (lt x y = false → R y x)) → (l.foldl (fun a x => insR lt x a) acc).Pairwise (fun a b => R b a)
  | [], _, h, _, _ => h
  | x :: r, acc, h, hc, hp => by
    obtain ⟨hp1, hp2⟩ := List.pairwise_cons.1 hp
    refine fold_pair (R := R) tr (l := r) (acc := insR lt x acc) (insR_pair (R := R) tr h fun y hy => hc y hy x (List.mem_cons_self ..)) (fun y hy z hz => ?_) hp2
    rcases insR_mem hy with rfl | hy
    · exact hp1 z hz
    · exact hc y hy z (List.mem_cons_of_mem _ hz)
/-- Sorting by insertion is stable, and sorts. -/
theorem isort_pair {lt : α → α → Bool} {R : α → α → Prop} (tr : ∀ a b c, R a b → R b c → R a c) {l : List α} (hp : l.Pairwise (fun y x => (lt x y = true → R x y) ∧ (lt x y = false → R y x))) : (isort lt l).Pairwise R := by
  rw [isort_fold, List.pairwise_reverse]
  exact fold_pair (R := R) tr List.Pairwise.nil (fun _ h => by cases h) hp
end
end Go.Proofs.YtiendebcdicjnaaGreatDoor
namespace Go.Proofs.YtiendebcdicjnaaGreatDoor
open Go.RowKit
theorem evLt_iff {x y : Ev} : evLt x y = true ↔ evOrd x y < 0 := by unfold evLt; exact decide_eq_true_iff
theorem evLt_no {x y : Ev} : evLt x y = false ↔ ¬ evOrd x y < 0 := by unfold evLt; exact decide_eq_false_iff_not
theorem evLt_ord : OrdR evLt := ⟨fun {x y z} h1 h2 => by
  rw [evLt_no] at *
  intro h
  by_cases h3 : evOrd x y < 0
  · exact h2 (evOrd_trans h h3)
  · by_cases h0 : evOrd y x = 0
    · rw [evOrd_zero] at h0
      refine h2 ?_
      rw [evOrd_neg] at h ⊢
      rw [h0.1, h0.2]; exact h
    · exact h3 (evOrd_total h1 h0), fun {x y} h => by
  rw [evLt_iff] at h
  rw [evLt_no]
  exact fun h2 => evOrd_irrefl (evOrd_trans h h2)⟩
/-- No two of a list's elements that are alike in order differ. -/
def TieEq (l : List Ev) : Prop := ∀ x ∈ l, ∀ y ∈ l, evOrd x y = 0 → x = y
theorem srt_eq : ∀ {l m : List Ev}, Srt evLt l → Srt evLt m → l.Perm m → TieEq l → l = m
  | [], m, _, _, h, _ => (List.nil_perm.1 h).symm
  | x :: r, m, hl, hm, h, ht => by
    cases m with
    | nil => exact absurd h.length_eq (by simp)
    | cons y t =>
      have hxy : x = y := by
        have hx : x ∈ y :: t := h.mem_iff.1 (List.mem_cons_self ..)
        have hy : y ∈ x :: r := h.mem_iff.2 (List.mem_cons_self ..)
        rcases List.mem_cons.1 hx with rfl | hx
        · rfl
        · rcases List.mem_cons.1 hy with rfl | hy
          · rfl
          · have h1 := (List.pairwise_cons.1 hl).1 y hy
            have h2 := (List.pairwise_cons.1 hm).1 x hx
            rw [evLt_no] at h1 h2
            refine ht x (List.mem_cons_self ..) y (List.mem_cons_of_mem _ hy) ?_
            by_cases h0 : evOrd x y = 0
            · exact h0
            · exact absurd (evOrd_total h2 h0) h1
      subst hxy
      rw [srt_eq (List.pairwise_cons.1 hl).2 (List.pairwise_cons.1 hm).2 (List.Perm.cons_inv h) fun u hu v hv => ht u (List.mem_cons_of_mem _ hu) v (List.mem_cons_of_mem _ hv)]
theorem isort_srt (l : List Ev) : Srt evLt (isort evLt l) :=
  isort_pair (R := fun x y => evLt y x = false) (fun _ _ _ h1 h2 => evLt_ord.tr h1 h2) (List.pairwise_iff_getElem.2 fun _ _ _ _ _ => ⟨fun h => evLt_ord.asy h, fun h => h⟩)
/-- A sorted list without two that are alike but different: without its doubles it rises. -/
theorem compF_rise : ∀ {r : List Ev} {p : Ev}, Srt evLt (p :: r) → TieEq (p :: r) → ESort (compF p r) ∧ (∀ y ∈ compF p r, evOrd p y < 0) ∧ ∀ y ∈ r, y = p ∨ y ∈ compF p r
  | [], _, _, _ => ⟨List.Pairwise.nil, (fun _ h => by cases h), (fun _ h => by cases h)⟩
  | y :: r, p, hs, ht => by
    have ht2 : TieEq (y :: r) := fun u hu v hv => ht u (List.mem_cons_of_mem _ hu) v (List.mem_cons_of_mem _ hv)
    obtain ⟨h1, h2, h3⟩ := compF_rise (List.pairwise_cons.1 hs).2 ht2
    have hpy := (List.pairwise_cons.1 hs).1 y (List.mem_cons_self ..)
    unfold compF
    by_cases hq : evQ y p = true
    · rw [if_pos hq]
      rw [evQ_iff] at hq
      subst hq
      exact ⟨h1, h2, fun z hz => by
        rcases List.mem_cons.1 hz with rfl | hz
        · exact .inl rfl
        · exact h3 z hz⟩
    · rw [if_neg hq]
      have hlt : evOrd p y < 0 := by
        rw [evLt_no] at hpy
        by_cases h0 : evOrd p y = 0
        · exact absurd (evQ_iff.2 (ht p (List.mem_cons_self ..) y (List.mem_cons_of_mem _ (List.mem_cons_self ..)) h0).symm) hq
        · by_cases hlt : evOrd p y < 0
          · exact hlt
          · exact absurd (evOrd_total hlt h0) hpy
      refine ⟨List.Pairwise.cons h2 h1, fun z hz => ?_, fun z hz => ?_⟩
      · rcases List.mem_cons.1 hz with rfl | hz
        · exact hlt
        · exact evOrd_trans hlt (h2 z hz)
      · rcases List.mem_cons.1 hz with rfl | hz
        · exact .inr (List.mem_cons_self ..)
        · rcases h3 z hz with rfl | h
          · exact .inr (List.mem_cons_self ..)
          · exact .inr (List.mem_cons_of_mem _ h)
theorem compact_rise {l : List Ev} (hs : Srt evLt l) (ht : TieEq l) : ESort (compactF l) ∧ ∀ y, y ∈ compactF l ↔ y ∈ l := by
  cases l with
  | nil => exact ⟨List.Pairwise.nil, fun _ => Iff.rfl⟩
  | cons x r =>
    obtain ⟨h1, h2, h3⟩ := compF_rise hs ht
    refine ⟨List.Pairwise.cons h2 h1, fun y => ⟨compact_mem, fun h => ?_⟩⟩
    show y ∈ x :: compF x r
    rcases List.mem_cons.1 h with rfl | h
    · exact List.mem_cons_self ..
    · rcases h3 y h with rfl | h
      · exact List.mem_cons_self ..
      · exact List.mem_cons_of_mem _ h
theorem esort_eq : ∀ {l m : List Ev}, ESort l → ESort m → (∀ x, x ∈ l ↔ x ∈ m) → l = m
  | [], [], _, _, _ => rfl
  | [], y :: t, _, _, h => absurd ((h y).2 (List.mem_cons_self ..)) (by simp)
  | x :: r, [], _, _, h => absurd ((h x).1 (List.mem_cons_self ..)) (by simp)
  | x :: r, y :: t, hl, hm, h => by
    have hxy : x = y := by
      rcases List.mem_cons.1 ((h x).1 (List.mem_cons_self ..)) with e | hx
      · exact e
      · rcases List.mem_cons.1 ((h y).2 (List.mem_cons_self ..)) with e | hy
        · exact e.symm
        · exact absurd (evOrd_trans ((List.pairwise_cons.1 hl).1 y hy) ((List.pairwise_cons.1 hm).1 x hx)) evOrd_irrefl
    subst hxy
    rw [esort_eq (List.pairwise_cons.1 hl).2 (List.pairwise_cons.1 hm).2 fun z => ⟨fun hz => ?_, fun hz => ?_⟩]
    · rcases List.mem_cons.1 ((h z).1 (List.mem_cons_of_mem _ hz)) with rfl | hz2
      · exact absurd ((List.pairwise_cons.1 hl).1 z hz) evOrd_irrefl
      · exact hz2
    · rcases List.mem_cons.1 ((h z).2 (List.mem_cons_of_mem _ hz)) with rfl | hz2
      · exact absurd ((List.pairwise_cons.1 hm).1 z hz) evOrd_irrefl
      · exact hz2
theorem esort_tie {x : List Ev} (h : ESort x) : TieEq x := fun a ha b hb h0 => by
  obtain ⟨i, hi⟩ := List.getElem?_of_mem ha
  obtain ⟨j, hj⟩ := List.getElem?_of_mem hb
  obtain ⟨hi1, rfl⟩ := List.getElem?_eq_some_iff.1 hi
  obtain ⟨hj1, rfl⟩ := List.getElem?_eq_some_iff.1 hj
  have hp := List.pairwise_iff_getElem.1 h
  rcases Nat.lt_trichotomy i j with hlt | rfl | hlt
  · have := hp i j hi1 hj1 hlt; omega
  · rfl
  · have h1 := hp j i hj1 hi1 hlt
    rw [evOrd_zero] at h0
    rw [evOrd_neg, h0.1, h0.2] at h1
    rcases h1 with h1 | h1
    · omega
    · rw [bl_irrefl] at h1; cases h1.2
/-- Two parts that hold all. -/
theorem parts_tie {x la lb : List Ev} (hs : ESort x) (ha : ∀ e ∈ la, e ∈ x) (hb : ∀ e ∈ lb, e ∈ x) : TieEq (la ++ lb) := fun u hu v hv => by
  have h : ∀ e ∈ la ++ lb, e ∈ x := fun e he => by
    rcases List.mem_append.1 he with h | h
    · exact ha e h
    · exact hb e h
  exact esort_tie hs u (h u hu) v (h v hv)
theorem merge_parts {x la lb : List Ev} (hs : ESort x) (ha : ∀ e ∈ la, e ∈ x) (hb : ∀ e ∈ lb, e ∈ x) (hall : ∀ e ∈ x, e ∈ la ∨ e ∈ lb) : mergeM la lb = x ∧ mergeE (mergeM la lb) = 0 := by
  have ht : TieEq (isort evLt (la ++ lb)) := fun u hu v hv => parts_tie hs ha hb u (isort_mem.1 hu) v (isort_mem.1 hv)
  obtain ⟨h1, h2⟩ := compact_rise (isort_srt (la ++ lb)) ht
  have e : mergeM la lb = x := esort_eq h1 hs fun z => by
    show z ∈ compactF (isort evLt (la ++ lb)) ↔ _
    rw [h2, isort_mem, List.mem_append]
    exact ⟨fun h => by
      rcases h with h | h
      · exact ha z h
      · exact hb z h, hall z⟩
  refine ⟨e, ?_⟩
  rw [e]
  refine merge_good fun j a b hj hj1 h0 => ?_
  obtain ⟨hi1, rfl⟩ := List.getElem?_eq_some_iff.1 hj
  obtain ⟨hi2, rfl⟩ := List.getElem?_eq_some_iff.1 hj1
  have := List.pairwise_iff_getElem.1 hs j (j + 1) hi1 hi2 (by omega)
  omega
theorem evE_split {ss : List St} {vs : List Vh} {p : Option Ev} {x : Ev} : evE ss vs p x = 0 ↔ evE ss vs none x = 0 ∧ evO p x = false := by
  constructor
  · intro h
    refine ⟨?_, (evE_zero h).2⟩
    have h2 := (evE_zero h).2
    unfold evE at h ⊢
    rw [h2] at h
    exact h
  · rintro ⟨h, h2⟩
    unfold evE at h ⊢
    rw [h2]; exact h
theorem scan_evs {ss : List St} {vs : List Vh} : ∀ {l : List Ev} {p : Option Ev}, ESort l → (∀ q, p = some q → ∀ x ∈ l, evOrd q x < 0) → (∀ x ∈ l, evE ss vs none x = 0) → scanE (evE ss vs) p l = 0
  | [], _, _, _, _ => rfl
  | x :: r, p, hs, hp, hf => by
    unfold scanE
    have hx : evE ss vs p x = 0 := evE_split.2 ⟨hf x (List.mem_cons_self ..), by
      cases p with
      | none => rfl
      | some q =>
        have := hp q rfl x (List.mem_cons_self ..)
        exact decide_eq_false (by omega)⟩
    rw [if_pos hx]
    exact scan_evs (List.pairwise_cons.1 hs).2 (fun q hq y hy => by cases hq; exact (List.pairwise_cons.1 hs).1 y hy) fun y hy => hf y (List.mem_cons_of_mem _ hy)
theorem log_sub {ss : List St} {vs : List Vh} {l m : List Ev} (h : logE ss vs l = 0) (hm : m.Sublist l) : logE ss vs m = 0 := by
  unfold logE at h ⊢
  have hl := hm.length_le
  split at h
  · cases h
  · rw [if_neg (by omega)]
    have hf := scan_each h
    exact scan_evs ((log_fine h).1.sublist hm) (fun _ hq => by cases hq) fun x hx => by
      obtain ⟨q, hq⟩ := hf x (hm.subset hx)
      exact (evE_split.1 hq).1
end Go.Proofs.YtiendebcdicjnaaGreatDoor
