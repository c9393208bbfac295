/- The best divisions of all rests of a hire. -/
import Derived.Test.YtcggbojhalbkjaaTj
namespace Go.Proofs.Ytcggbojhalbkjaa
open Go.RowKit

structure Dv where
  cost : Int
  pieces : Int
  kind : Int
  days : Int
  cents : Int
  fine : Bool
def dvEnc (x : Dv) : List Value := [.int .i64 x.cost, .int .i64 x.pieces, .int .i64 x.kind, .int .i64 x.days, .int .i64 x.cents, .bool x.fine]
theorem dv_len (x : Dv) : (dvEnc x).length = 6 := rfl
def dvZ : Dv := ⟨0, 0, 0, 0, 0, false⟩
def DvIs (x : Dv) : Option (List Pc) → Prop
  | none => x.fine = false
  | some ps => x.fine = true ∧ x.cost = pcSum ps ∧ x.pieces = ps.length ∧ ∀ p r, ps = p :: r → x.kind = p.kind ∧ x.days = p.days ∧ x.cents = p.cents
theorem DvIs.none_ {x : Dv} {s : Option (List Pc)} (h : DvIs x s) (hf : x.fine = false) : s = none := by
  cases s with
  | none => rfl
  | some ps => exact absurd (hf.symm.trans h.1) (by decide)
theorem DvIs.some_ {x : Dv} {s : Option (List Pc)} (h : DvIs x s) (hf : x.fine = true) : ∃ ps, s = some ps := by
  cases s with
  | none => rw [show x.fine = false from h] at hf; cases hf
  | some ps => exact ⟨ps, rfl⟩
/-- All rests from i on are known; of the rest at i those whose first piece came up. -/
def DvOk (pr : Int → Nat → Int → Option Int) (n j : Nat) (x : Dv) : Prop := ∃ s, RestOk pr n j s ∧ DvIs x s
def DvRow (pr : Int → Nat → Int → Option Int) (n i : Nat) (k m : Int) (ds : List Dv) : Prop := ds.length = n + 1 ∧ (∀ j x, i < j → ds[j]? = some x → DvOk pr n j x) ∧ (∀ j x, j < i → ds[j]? = some x → x = dvZ) ∧ ∃ x s, ds[i]? = some x ∧ Cur pr n i k m s ∧ DvIs x s
section
variable {pr : Int → Nat → Int → Option Int} {n i : Nat} {k m : Int} {ds : List Dv}
theorem chain_sum (hb : ∀ k i m c, pr k i m = some c → 0 ≤ c ∧ c ≤ 24000000) : ∀ {ps : List Pc} {i j : Nat}, Chain pr i j ps → 0 ≤ pcSum ps ∧ pcSum ps ≤ 24000000 * (ps.length : Int)
  | [], _, _, _ => by simp [pcSum]
  | p :: r, i, j, h => by
    have h1 := hb _ _ _ _ h.1.2.2.2.2
    have h2 := chain_sum hb h.2
    simp only [pcSum, List.length_cons]
    omega
theorem dv_bound {j : Nat} {x : Dv} (hb : ∀ k i m c, pr k i m = some c → 0 ≤ c ∧ c ≤ 24000000) (hn : n ≤ 120) (h : DvOk pr n j x) (hf : x.fine = true) : (0 ≤ x.cost ∧ x.cost ≤ 3000000000) ∧ 0 ≤ x.pieces ∧ x.pieces ≤ 120 := by
  obtain ⟨s, h1, h2⟩ := h
  obtain ⟨ps, rfl⟩ := h2.some_ hf
  have h3 := chain_sum hb h1.1
  have h4 := chain_le h1.1
  obtain ⟨_, e1, e2, _⟩ := h2
  rw [e1, e2]
  omega
theorem dv_step {mm : Nat} (h : DvRow pr n i k mm ds) (hc : ∀ s, Cur pr n i k mm s → Cur pr n i k (mm + 1) s) : DvRow pr n i k ((mm + 1 : Nat) : Int) ds := by
  obtain ⟨h1, h2, h3, x, s, hx, hs, hd⟩ := h
  exact ⟨h1, h2, h3, x, s, hx, by simpa using hc s hs, hd⟩
theorem dv_none {mm : Nat} (h : DvRow pr n i k mm ds) (hno : pr k i mm = none) : DvRow pr n i k ((mm + 1 : Nat) : Int) ds := dv_step h fun _ hs => cur_none hs hno
theorem dv_dead {mm : Nat} {y : Dv} (h : DvRow pr n i k mm ds) (hy : ds[i + mm]? = some y) (hm : 0 < mm) (hf : y.fine = false) : DvRow pr n i k ((mm + 1 : Nat) : Int) ds := dv_step h fun _ hs => by
  obtain ⟨s, h1, h2⟩ := h.2.1 (i + mm) y (by omega) hy
  rw [h2.none_ hf] at h1
  exact cur_dead hs (by simpa using h1)
theorem dv_set {mm : Nat} {y : Dv} {c : Int} {rest : List Pc} (h : DvRow pr n i k mm ds) (hd : DvIs y (some rest)) (hc : Cur pr n i k (mm + 1) (some (⟨k, mm, c⟩ :: rest))) : DvRow pr n i k ((mm + 1 : Nat) : Int) (ds.set i ⟨c + y.cost, 1 + y.pieces, k, mm, c, true⟩) := by
  obtain ⟨h1, h2, h3, x, s, hx, hs, _⟩ := h
  have hi : i < ds.length := (List.getElem?_eq_some_iff.1 hx).1
  obtain ⟨_, e1, e2, _⟩ := hd
  refine ⟨by simp [h1], fun j z hj hz => h2 j z hj (by rw [List.getElem?_set_ne (by omega)] at hz; exact hz), fun j z hj hz => h3 j z hj (by rw [List.getElem?_set_ne (by omega)] at hz; exact hz), _, some (⟨k, mm, c⟩ :: rest), List.getElem?_set_self hi, by simpa using hc, rfl, ?_, ?_, fun p r e => ?_⟩
  · simp only [pcSum, e1]
  · simp only [List.length_cons, e2]; omega
  · injection e with e _; subst e; exact ⟨rfl, rfl, rfl⟩
theorem dv_rest {mm : Nat} {y : Dv} (h : DvRow pr n i k mm ds) (hy : ds[i + mm]? = some y) (hm : 0 < mm) (hf : y.fine = true) : ∃ rest, Best pr (i + mm) n rest ∧ DvIs y (some rest) := by
  obtain ⟨s, h1, h2⟩ := h.2.1 (i + mm) y (by omega) hy
  obtain ⟨rest, rfl⟩ := h2.some_ hf
  exact ⟨rest, h1, h2⟩
theorem dv_first {mm : Nat} {x y : Dv} {c : Int} (h : DvRow pr n i k mm ds) (hk : 1 ≤ k ∧ k ≤ 4) (hm : 1 ≤ mm ∧ mm ≤ 7) (hp : pr k i mm = some c) (hy : ds[i + mm]? = some y) (hf : y.fine = true) (hx : ds[i]? = some x) (hxf : x.fine = false) : DvRow pr n i k ((mm + 1 : Nat) : Int) (ds.set i ⟨c + y.cost, 1 + y.pieces, k, mm, c, true⟩) := by
  obtain ⟨rest, hr, hd⟩ := dv_rest h hy (by omega) hf
  refine dv_set h hd ?_
  obtain ⟨h1, h2, h3, x', s, hx', hs, hd'⟩ := h
  obtain rfl : x = x' := Option.some.inj (hx.symm.trans hx')
  rw [hd'.none_ hxf] at hs
  exact cur_first hs hk (by omega) hp (by simpa using hr)
theorem cmp_dv {a b c d : Int} : firstE [cmpI a b, cmpI c d] < 0 ↔ a < b ∨ (a = b ∧ c < d) := by
  rw [firstE_pair]
  unfold cmpI
  by_cases h1 : a < b
  · rw [if_pos h1]; simp [h1]
  · rw [if_neg h1]
    by_cases h2 : b < a
    · rw [if_pos h2]
      simp
      omega
    · rw [if_neg h2, if_pos rfl]
      by_cases h3 : c < d
      · rw [if_pos h3]; simp; omega
      · rw [if_neg h3]
        by_cases h4 : d < c
        · rw [if_pos h4]; simp; omega
        · rw [if_neg h4]; simp; omega
theorem dv_better {mm : Nat} {x y : Dv} {c : Int} (h : DvRow pr n i k mm ds) (hk : 1 ≤ k ∧ k ≤ 4) (hm : 1 ≤ mm ∧ mm ≤ 7) (hp : pr k i mm = some c) (hy : ds[i + mm]? = some y) (hf : y.fine = true) (hx : ds[i]? = some x) (hxf : x.fine = true) (hl : firstE [cmpI (c + y.cost) x.cost, cmpI (1 + y.pieces) x.pieces] < 0) : DvRow pr n i k ((mm + 1 : Nat) : Int) (ds.set i ⟨c + y.cost, 1 + y.pieces, k, mm, c, true⟩) := by
  obtain ⟨rest, hr, hd⟩ := dv_rest h hy (by omega) hf
  refine dv_set h hd ?_
  obtain ⟨h1, h2, h3, x', s, hx', hs, hd'⟩ := h
  obtain rfl : x = x' := Option.some.inj (hx.symm.trans hx')
  obtain ⟨ps, rfl⟩ := hd'.some_ hxf
  obtain ⟨_, e1, e2, _⟩ := hd
  obtain ⟨_, f1, f2, _⟩ := hd'
  rw [cmp_dv, e1, e2, f1, f2] at hl
  exact cur_better hs hk (by omega) hp (by simpa using hr) (by omega)
theorem dv_keep {mm : Nat} {x y : Dv} {c : Int} (h : DvRow pr n i k mm ds) (hk : 1 ≤ k ∧ k ≤ 4) (hm : 1 ≤ mm ∧ mm ≤ 7) (hp : pr k i mm = some c) (hy : ds[i + mm]? = some y) (hf : y.fine = true) (hx : ds[i]? = some x) (hxf : x.fine = true) (hl : ¬ firstE [cmpI (c + y.cost) x.cost, cmpI (1 + y.pieces) x.pieces] < 0) : DvRow pr n i k ((mm + 1 : Nat) : Int) ds := by
  obtain ⟨rest, hr, hd⟩ := dv_rest h hy (by omega) hf
  obtain ⟨h1, h2, h3, x', s, hx', hs, hd'⟩ := h
  obtain rfl : x = x' := Option.some.inj (hx.symm.trans hx')
  refine ⟨h1, h2, h3, x, s, hx, ?_, hd'⟩
  obtain ⟨ps, rfl⟩ := hd'.some_ hxf
  obtain ⟨_, e1, e2, _⟩ := hd
  obtain ⟨_, f1, f2, _⟩ := hd'
  rw [cmp_dv, e1, e2, f1, f2] at hl
  have := cur_keep hs hk (by omega) hp (by simpa using hr) (by omega)
  simpa using this
theorem dv_kind (h : DvRow pr n i k m ds) (hm : 7 < m ∨ (n : Int) - i < m) : DvRow pr n i (k + 1) 1 ds := by
  obtain ⟨h1, h2, h3, x, s, hx, hs, hd⟩ := h
  exact ⟨h1, h2, h3, x, s, hx, cur_kind hs hm, hd⟩
/-- The rests from r on are known. -/
def DvFrom (pr : Int → Nat → Int → Option Int) (n r : Nat) (ds : List Dv) : Prop := ds.length = n + 1 ∧ (∀ j x, r ≤ j → ds[j]? = some x → DvOk pr n j x) ∧ (∀ j x, j < r → ds[j]? = some x → x = dvZ)
theorem dv_done (h : DvRow pr n i 5 1 ds) (hi : i < n) : DvFrom pr n i ds := by
  obtain ⟨h1, h2, h3, x, s, hx, hs, hd⟩ := h
  refine ⟨h1, fun j z hj hz => ?_, h3⟩
  by_cases hji : j = i
  · subst hji
    obtain rfl : x = z := Option.some.inj (hx.symm.trans hz)
    exact ⟨s, cur_done hs hi, hd⟩
  · exact h2 j z (by omega) hz
theorem dv_begin (h : DvFrom pr n (i + 1) ds) (hi : i < n) : DvRow pr n i 1 1 ds := by
  obtain ⟨h1, h2, h3⟩ := h
  have hx : ds[i]? = some dvZ := by
    obtain ⟨x, hx⟩ : ∃ x, ds[i]? = some x := ⟨_, List.getElem?_eq_getElem (by omega)⟩
    rw [hx, h3 i x (by omega) hx]
  exact ⟨h1, fun j x hj hx => h2 j x (by omega) hx, fun j x hj hx => h3 j x (by omega) hx, dvZ, none, hx, cur_start, rfl⟩
theorem dv_start : DvFrom pr n n ((List.replicate (n + 1) dvZ).set n ⟨0, 0, 0, 0, 0, true⟩) := by
  refine ⟨by simp, fun j x hj hx => ?_, fun j x hj hx => ?_⟩
  · have hjn : j = n := by
      have := (List.getElem?_eq_some_iff.1 hx).1
      simp at this; omega
    subst hjn
    rw [List.getElem?_set_self (by simp)] at hx
    injection hx with hx
    subst hx
    exact ⟨some [], best_end j, rfl, rfl, rfl, fun p r e => by cases e⟩
  · rw [List.getElem?_set_ne (by omega), List.getElem?_replicate] at hx
    split at hx
    · exact (Option.some.inj hx).symm
    · cases hx
end
theorem price_all {l : List Rt} {sea : List Int} {fr tt : Int} (hr : ∀ r ∈ l, RateOk r) (hend : ∀ i, i < sea.length → begV fr i ≤ tt) : ∀ k i m c, priceO l sea fr tt k i m = some c → 0 ≤ c ∧ c ≤ 24000000 := fun k i m c h => by
  obtain ⟨h1, h2, _⟩ := price_some h
  exact price_bound hr (hend i (by omega)) h

set_option maxRecDepth 100000 in
set_option maxHeartbeats 2000000 in
theorem tdivide_any (l : List Rt) (A : Option Addr) (n c0 : Nat) (fr tt : Int) (sea : List Int) (A2 : Option Addr) (n2 c2 : Nat) (w : World) (hl : SlT rtEnc 7 47 w A n l) (hs : SlT itEnc 1 3 w A2 n2 sea) (hc2 : n2 ≤ c2) (hn2 : n2 ≤ 120) (hsea : ∀ k ∈ sea, -1 ≤ k ∧ k < (l.length : Int)) (hr : ∀ r ∈ l, RateOk r) (h0 : 0 ≤ fr) (h00 : fr ≤ 5761439) (ht0 : 0 ≤ tt) (ht1 : tt ≤ 5761439) (hend : ∀ i, i < n2 → begV fr i ≤ tt) :
    Calls Try.prog 19 #[.agg #[.slice A n c0, .int .i64 fr, .int .i64 tt, .slice A2 n2 c2]] w (fun e w' => ∃ A3 c3 ds, e = .returned (.slice A3 (n2 + 1) c3) ∧ w.grownBy w' none ∧ w'.ownsRow w.heap.size 60 6 (.slice A3 (n2 + 1) c3) (n2 + 1) (ds.flatMap dvEnc) ∧ DvFrom (priceO l sea fr tt) n2 0 ds) := by
  refine gw_enter ⟨105, w, none, []⟩ Try.func19 rfl Try.ntmps19 rfl (mem0 (X := [SlOld rtEnc 7 47 w.heap.size none A n l, SlOld itEnc 1 3 w.heap.size none A2 n2 sea]) (allF_cons hl.old (allF_cons hs.old allF_nil)) (allL_cons SlOld.lasts (allL_cons SlOld.lasts allL_nil))) ?_
  refine gw_seq ?_
  refine gw_region ?_
  have hlen := hl.len
  have hslen := hs.len
  have hpb := price_all (l := l) (sea := sea) (fr := fr) (tt := tt) hr (fun i hi => hend i (by omega))
  refine wl_box rfl rfl rfl fun g1 => ?_
  refine wl_ov (ov_assign rfl) rfl ?_
  refine wl_nil ?_
  refine nx_then ?_
  refine gw_seq ?_
  refine gw_region ?_
  refine wl_ov (ov_field fo54_2 rfl rfl) rfl ?_
  refine wl_ov (ov_load sc22 rfl (fun _ hm => hm.blkI 0 rfl) rfl) rfl ?_
  refine wl_ov (ov_len es22 rfl) rfl ?_
  refine wl_ov (ov_assign rfl) rfl ?_
  refine wl_nil ?_
  refine nx_then ?_
  refine gw_seq ?_
  refine gw_region ?_
  refine wl_ov (ov_move rfl) rfl ?_
  refine wl_ov (ov_add rfl rfl (by omega) (by omega)) rfl ?_
  refine wl_makeO (n := (n2 + 1)) (sz := 6) (e := 60) (by_ := 48) (z := .agg #[.int .i64 0, .int .i64 0, .int .i64 0, .int .i64 0, .int .i64 0, .bool false]) (by kernel_rfl) (by kernel_rfl) rfl rfl (by omega) (by omega) (by omega) (by unfold maxLen; omega) (made_flat (enc := dvEnc) (x := dvZ) rfl rfl (by decide) (n2 + 1)) rfl fun g2 => ?_
  refine wl_ov (ov_assign rfl) rfl ?_
  refine wl_nil ?_
  refine nx_then ?_
  refine gw_seq ?_
  refine gw_region ?_
  refine wl_ov (ov_move rfl) rfl ?_
  refine wl_ov (ov_move rfl) rfl ?_
  refine wl_ov (ov_index (j := n2) es52 rfl rfl (by omega)) rfl ?_
  refine wl_ov (ov_field fo60_3 rfl rfl) rfl ?_
  refine wl_storeE (l := (List.replicate (n2 + 1) dvZ)) (j := n2) (r := 5) (el := dvZ) (el' := ⟨0, 0, 0, 0, 0, true⟩) 0 sc4 rfl rfl rfl rfl dv_len rfl (by rw [List.getElem?_replicate, if_pos (by omega)]) List.length_replicate (by decide) rfl rfl ?_
  refine wl_nil ?_
  refine nx_then ?_
  refine gw_seq ?_
  refine gw_seq ?_
  refine gw_region ?_
  refine wl_ov (ov_move rfl) rfl ?_
  refine wl_ov (ov_sub rfl rfl (by omega) (by omega)) rfl ?_
  refine wl_ov (ov_assign rfl) rfl ?_
  refine wl_nil ?_
  refine nx_then ?_
  refine gw_block ?_
  refine gw_loop (γ := Nat × List Dv) (fun (g : Nat × List Dv) => g.1 ≤ n2 ∧ DvFrom (priceO l sea fr tt) n2 g.1 g.2) (fun (g : Nat × List Dv) => [(1, .pointer (some ⟨g1, 0, none⟩)), (2, .slice none 0 0), (3, .int .i64 ((n2 : Nat) : Int)), (4, .slice (some ⟨g2, 0, none⟩) (n2 + 1) (n2 + 1)), (5, .int .i64 (((g.1 : Nat) : Int) - 1))]) (fun (g : Nat × List Dv) => fun _ => True) (fun (g : Nat × List Dv) => [(g1, 54, [.slice A n c0, .int .i64 fr, .int .i64 tt, .slice A2 n2 c2])]) (fun (g : Nat × List Dv) => [⟨.slice (some ⟨g2, 0, none⟩) (n2 + 1) (n2 + 1), 60, 6, (n2 + 1), g.2.flatMap dvEnc⟩]) (fun (g : Nat × List Dv) => [SlOld rtEnc 7 47 w.heap.size none A n l, SlOld itEnc 1 3 w.heap.size none A2 n2 sea]) (fun (g : Nat × List Dv) => g.1) (n2, (List.replicate (n2 + 1) dvZ).set n2 ⟨0, 0, 0, 0, 0, true⟩) ⟨Nat.le_refl _, dv_start⟩ ⟨rfl, rfl, rfl, rfl, rfl, trivial⟩ (fun _ hm => hm.pick [0] [0] [0, 1] rfl rfl) ?_
  rintro ⟨r, ds⟩ hinv
  replace hinv : r ≤ n2 ∧ DvFrom (priceO l sea fr tt) n2 r ds := hinv
  dsimp only
  refine gw_seq ?_
  refine gw_seq ?_
  refine gw_region ?_
  obtain ⟨hr0, hr1⟩ := hinv
  refine wl_ov (ov_move rfl) rfl ?_
  refine wl_ov (ov_geq rfl rfl) rfl ?_
  refine wl_nil ?_
  refine nx_then ?_
  refine gw_cond rfl (fun hh => ?_) (fun hh => ?_)
  · have hk : 0 ≤ ((r : Nat) : Int) - 1 := by simpa using hh
    clear hh
    refine gw_skip ?_
    refine nx_then ?_
    refine gw_seq ?_
    refine gw_block ?_
    refine gw_seq ?_
    refine gw_region ?_
    obtain ⟨i, hi⟩ : ∃ i, r = i + 1 := ⟨r - 1, by omega⟩
    subst hi
    have hin : i < n2 := by omega
    have hrow := dv_begin hr1 hin
    refine wl_set 5 (v' := .int .i64 ((i : Nat) : Int)) rfl (congrArg (Value.int .i64) (by omega)) ?_
    refine wl_ov (ov_assign rfl) rfl ?_
    refine wl_nil ?_
    refine nx_then ?_
    refine gw_block ?_
    refine gw_loop (γ := Int × List Dv) (fun (g : Int × List Dv) => (1 ≤ g.1 ∧ g.1 ≤ 5) ∧ DvRow (priceO l sea fr tt) n2 i g.1 1 g.2) (fun (g : Int × List Dv) => [(1, .pointer (some ⟨g1, 0, none⟩)), (2, .slice none 0 0), (3, .int .i64 ((n2 : Nat) : Int)), (4, .slice (some ⟨g2, 0, none⟩) (n2 + 1) (n2 + 1)), (5, .int .i64 ((i : Nat) : Int)), (6, .int .i64 g.1)]) (fun (g : Int × List Dv) => fun _ => True) (fun (g : Int × List Dv) => [(g1, 54, [.slice A n c0, .int .i64 fr, .int .i64 tt, .slice A2 n2 c2])]) (fun (g : Int × List Dv) => [⟨.slice (some ⟨g2, 0, none⟩) (n2 + 1) (n2 + 1), 60, 6, (n2 + 1), g.2.flatMap dvEnc⟩]) (fun (g : Int × List Dv) => [SlOld rtEnc 7 47 w.heap.size none A n l, SlOld itEnc 1 3 w.heap.size none A2 n2 sea]) (fun (g : Int × List Dv) => (5 - g.1).toNat) (1, ds) ⟨⟨by dsimp only; omega, by dsimp only; omega⟩, hrow⟩ ⟨rfl, rfl, rfl, rfl, rfl, rfl, trivial⟩ (fun _ hm => hm.pick [0] [0] [0, 1] rfl rfl) ?_
    rintro ⟨kd, ds2⟩ hinv
    replace hinv : (1 ≤ kd ∧ kd ≤ 5) ∧ DvRow (priceO l sea fr tt) n2 i kd 1 ds2 := hinv
    dsimp only
    refine gw_seq ?_
    refine gw_seq ?_
    refine gw_region ?_
    obtain ⟨⟨hk1, hk2⟩, hrw⟩ := hinv
    refine wl_ov (ov_move rfl) rfl ?_
    refine wl_ov (ov_leq rfl rfl) rfl ?_
    refine wl_nil ?_
    refine nx_then ?_
    refine gw_cond rfl (fun hh => ?_) (fun hh => ?_)
    · have hk4 : kd ≤ 4 := by simpa using hh
      clear hh
      refine gw_skip ?_
      refine nx_then ?_
      refine gw_seq ?_
      refine gw_block ?_
      refine gw_seq ?_
      refine gw_region ?_
      refine wl_ov (ov_assign rfl) rfl ?_
      refine wl_nil ?_
      refine nx_then ?_
      refine gw_block ?_
      refine gw_loop (γ := Nat × List Dv) (fun (g : Nat × List Dv) => (1 ≤ g.1 ∧ g.1 ≤ 8) ∧ DvRow (priceO l sea fr tt) n2 i kd ((g.1 : Nat) : Int) g.2) (fun (g : Nat × List Dv) => [(1, .pointer (some ⟨g1, 0, none⟩)), (2, .slice none 0 0), (3, .int .i64 ((n2 : Nat) : Int)), (4, .slice (some ⟨g2, 0, none⟩) (n2 + 1) (n2 + 1)), (5, .int .i64 ((i : Nat) : Int)), (6, .int .i64 kd), (7, .int .i64 ((g.1 : Nat) : Int))]) (fun (g : Nat × List Dv) => fun _ => True) (fun (g : Nat × List Dv) => [(g1, 54, [.slice A n c0, .int .i64 fr, .int .i64 tt, .slice A2 n2 c2])]) (fun (g : Nat × List Dv) => [⟨.slice (some ⟨g2, 0, none⟩) (n2 + 1) (n2 + 1), 60, 6, (n2 + 1), g.2.flatMap dvEnc⟩]) (fun (g : Nat × List Dv) => [SlOld rtEnc 7 47 w.heap.size none A n l, SlOld itEnc 1 3 w.heap.size none A2 n2 sea]) (fun (g : Nat × List Dv) => 8 - g.1) (1, ds2) ⟨⟨by dsimp only; omega, by dsimp only; omega⟩, hrw⟩ ⟨rfl, rfl, rfl, rfl, rfl, rfl, rfl, trivial⟩ (fun _ hm => hm.pick [0] [0] [0, 1] rfl rfl) ?_
      rintro ⟨mm, ds3⟩ hinv
      replace hinv : (1 ≤ mm ∧ mm ≤ 8) ∧ DvRow (priceO l sea fr tt) n2 i kd ((mm : Nat) : Int) ds3 := hinv
      dsimp only
      refine gw_seq ?_
      refine gw_seq ?_
      refine gw_region ?_
      obtain ⟨⟨hm1, hm2⟩, hrm⟩ := hinv
      refine wl_ov (ov_move rfl) rfl ?_
      refine wl_ov (ov_move rfl) rfl ?_
      refine wl_ov (ov_move rfl) rfl ?_
      refine wl_ov (ov_sub rfl rfl (by omega) (by omega)) rfl ?_
      refine wl_ov (ov_min rfl rfl) rfl ?_
      refine wl_ov (ov_leq rfl rfl) rfl ?_
      refine wl_nil ?_
      refine nx_then ?_
      refine gw_cond rfl (fun hh => ?_) (fun hh => ?_)
      · have hmc : ((mm : Nat) : Int) ≤ min 7 (((n2 : Nat) : Int) - ((i : Nat) : Int)) := by simpa using hh
        clear hh
        refine gw_skip ?_
        refine nx_then ?_
        refine gw_seq ?_
        refine gw_block ?_
        refine gw_seq ?_
        refine gw_region ?_
        have hm7 : mm ≤ 7 := by omega
        have himn : i + mm ≤ n2 := by omega
        have hdl := hrm.1
        obtain ⟨y, hy⟩ : ∃ y, ds3[i + mm]? = some y := ⟨_, List.getElem?_eq_getElem (by omega)⟩
        obtain ⟨x, hx⟩ : ∃ x, ds3[i]? = some x := ⟨_, List.getElem?_eq_getElem (by omega)⟩
        have hyo := hrm.2.1 (i + mm) y (by omega) hy
        have hbd := dv_bound hpb hn2 hyo
        obtain ⟨x0, x1, x2, x3, x4, x5⟩ := x
        obtain ⟨y0, y1, y2, y3, y4, y5⟩ := y
        refine wl_ov (ov_loads rz54 rfl (fun _ hm => hm.blkI 0 rfl) rfl rfl) rfl ?_
        refine wl_ov (ov_move rfl) rfl ?_
        refine wl_ov (ov_move rfl) rfl ?_
        refine wl_ov (ov_move rfl) rfl ?_
        rcases hpo : priceO l sea fr tt kd i ((mm : Nat) : Int) with _ | cc
        · refine wl_callv (v := .tuple #[.int .i64 0, .bool false]) rfl cb21 rfl rfl (fun wx hm => (by have h := tprice_any l A n c0 fr tt sea A2 n2 c2 kd i ((mm : Nat) : Int) wx (hm.fact 0 rfl).1 (hm.fact 1 rfl).1 hc2 hn2 hin hsea hr h0 h00 ht0 ht1 (hend i hin); rw [hpo] at h; exact h)) ?_
          refine wl_ov (ov_move rfl) rfl ?_
          refine wl_ov (ov_extract rfl rfl) rfl ?_
          refine wl_ov (ov_extract rfl rfl) rfl ?_
          refine wl_ov (ov_assign rfl) rfl ?_
          refine wl_ov (ov_assign rfl) rfl ?_
          refine wl_nil ?_
          refine nx_then ?_
          refine gw_seq ?_
          refine gw_region ?_
          refine wl_ov (ov_move rfl) rfl ?_
          refine wl_ov (ov_move rfl) rfl ?_
          refine wl_ov (ov_move rfl) rfl ?_
          refine wl_ov (ov_add rfl rfl (by omega) (by omega)) rfl ?_
          refine wl_set 51 (v' := .int .i64 ((i + mm : Nat) : Int)) rfl (congrArg (Value.int .i64) (by omega)) ?_
          refine wl_ov (ov_index (j := i + mm) es52 rfl rfl (by omega)) rfl ?_
          refine wl_ov (ov_elem (vs := [.int .i64 y0, .int .i64 y1, .int .i64 y2, .int .i64 y3, .int .i64 y4, .bool y5]) rz60 rfl (fun _ hm => (SlT.ofOwn dv_len (hm.ownI 0 rfl) hdl)) hy rfl rfl) rfl ?_
          refine wl_alloc zc60 rfl fun g3 => ?_
          refine wl_stores (cs' := [.int .i64 y0, .int .i64 y1, .int .i64 y2, .int .i64 y3, .int .i64 y4, .bool y5]) 0 rz60 rfl rfl rfl rfl rfl rfl rfl rfl ?_
          refine wl_nil ?_
          refine nx_then ?_
          refine gw_seq ?_
          refine gw_seq ?_
          refine gw_region ?_
          refine wl_ov (ov_move rfl) rfl ?_
          refine wl_ov (ov_un_not rfl) rfl ?_
          refine wl_set 55 (v' := .bool true) rfl (congrArg Value.bool (by decide)) ?_
          refine wl_ov (ov_move rfl) rfl ?_
          refine wl_guard_off rfl rfl rfl (by decide) rfl ?_
          refine wl_guard_off rfl rfl rfl (by decide) rfl ?_
          refine wl_guard_off rfl rfl rfl (by decide) rfl ?_
          refine wl_ov (ov_pick_t rfl rfl) rfl ?_
          refine wl_nil ?_
          refine nx_then ?_
          refine gw_cond rfl (fun _ => ?_) (fun hh => by cases hh)
          refine gw_exit ?_
          refine nx_then_exit ?_
          refine nx_blk_here ?_
          refine nx_then ?_
          refine gw_region ?_
          refine wl_ov (ov_move rfl) rfl ?_
          refine wl_ov (ov_add rfl rfl (by omega) (by omega)) rfl ?_
          refine wl_ov (ov_assign rfl) rfl ?_
          refine wl_nil ?_
          exact nx_round (mm + 1, ds3) ⟨⟨by dsimp only; omega, by dsimp only; omega⟩, dv_none hrm hpo⟩ (by dsimp only; omega) ⟨rfl, rfl, rfl, rfl, rfl, rfl, (some_int (by omega)), trivial⟩ (fun _ hm => hm.pick [1] [0] [0, 1] rfl rfl)
        · refine wl_callv (v := .tuple #[.int .i64 cc, .bool true]) rfl cb21 rfl rfl (fun wx hm => (by have h := tprice_any l A n c0 fr tt sea A2 n2 c2 kd i ((mm : Nat) : Int) wx (hm.fact 0 rfl).1 (hm.fact 1 rfl).1 hc2 hn2 hin hsea hr h0 h00 ht0 ht1 (hend i hin); rw [hpo] at h; exact h)) ?_
          have hcc := hpb _ _ _ _ hpo
          have hcc0 := hcc.1
          have hcc1 := hcc.2
          refine wl_ov (ov_move rfl) rfl ?_
          refine wl_ov (ov_extract rfl rfl) rfl ?_
          refine wl_ov (ov_extract rfl rfl) rfl ?_
          refine wl_ov (ov_assign rfl) rfl ?_
          refine wl_ov (ov_assign rfl) rfl ?_
          refine wl_nil ?_
          refine nx_then ?_
          refine gw_seq ?_
          refine gw_region ?_
          refine wl_ov (ov_move rfl) rfl ?_
          refine wl_ov (ov_move rfl) rfl ?_
          refine wl_ov (ov_move rfl) rfl ?_
          refine wl_ov (ov_add rfl rfl (by omega) (by omega)) rfl ?_
          refine wl_set 51 (v' := .int .i64 ((i + mm : Nat) : Int)) rfl (congrArg (Value.int .i64) (by omega)) ?_
          refine wl_ov (ov_index (j := i + mm) es52 rfl rfl (by omega)) rfl ?_
          refine wl_ov (ov_elem (vs := [.int .i64 y0, .int .i64 y1, .int .i64 y2, .int .i64 y3, .int .i64 y4, .bool y5]) rz60 rfl (fun _ hm => (SlT.ofOwn dv_len (hm.ownI 0 rfl) hdl)) hy rfl rfl) rfl ?_
          refine wl_alloc zc60 rfl fun g4 => ?_
          refine wl_stores (cs' := [.int .i64 y0, .int .i64 y1, .int .i64 y2, .int .i64 y3, .int .i64 y4, .bool y5]) 0 rz60 rfl rfl rfl rfl rfl rfl rfl rfl ?_
          refine wl_nil ?_
          refine nx_then ?_
          refine gw_seq ?_
          refine gw_seq ?_
          refine gw_region ?_
          refine wl_ov (ov_move rfl) rfl ?_
          refine wl_ov (ov_un_not rfl) rfl ?_
          refine wl_set 55 (v' := .bool false) rfl (congrArg Value.bool (by decide)) ?_
          refine wl_ov (ov_move rfl) rfl ?_
          refine wl_guard_on rfl rfl rfl ?_
          refine wl_ov (ov_field fo60_3 rfl rfl) rfl ?_
          refine wl_guard_on rfl rfl rfl ?_
          refine wl_ov (ov_load sc4 rfl (fun _ hm => hm.blkI 0 rfl) rfl) rfl ?_
          refine wl_guard_on rfl rfl rfl ?_
          refine wl_ov (ov_un_not rfl) rfl ?_
          refine wl_ov (ov_pick_f rfl rfl) rfl ?_
          refine wl_nil ?_
          refine nx_then ?_
          refine gw_cond rfl (fun hh => ?_) (fun hh => ?_)
          · have hf : y5 = false := by simpa using hh
            clear hh
            refine gw_exit ?_
            refine nx_then_exit ?_
            refine nx_blk_here ?_
            refine nx_then ?_
            refine gw_region ?_
            have hf : y5 = false := by simpa using hf
            refine wl_ov (ov_move rfl) rfl ?_
            refine wl_ov (ov_add rfl rfl (by omega) (by omega)) rfl ?_
            refine wl_ov (ov_assign rfl) rfl ?_
            refine wl_nil ?_
            exact nx_round (mm + 1, ds3) ⟨⟨by dsimp only; omega, by dsimp only; omega⟩, dv_dead hrm hy (by omega) hf⟩ (by dsimp only; omega) ⟨rfl, rfl, rfl, rfl, rfl, rfl, (some_int (by omega)), trivial⟩ (fun _ hm => hm.pick [1] [0] [0, 1] rfl rfl)
          · have hf : y5 = true := by simpa using hh
            clear hh
            refine gw_skip ?_
            refine nx_then ?_
            refine gw_seq ?_
            refine gw_region ?_
            have hf : y5 = true := by simpa using hf
            subst hf
            obtain ⟨⟨hb0, hb1⟩, hb2, hb3⟩ := hbd rfl
            dsimp only at hb0 hb1 hb2 hb3
            refine wl_ov (ov_move rfl) rfl ?_
            refine wl_ov (ov_field fo60_0 rfl rfl) rfl ?_
            refine wl_ov (ov_load sc3 rfl (fun _ hm => hm.blkI 0 rfl) rfl) rfl ?_
            refine wl_ov (ov_add rfl rfl (by omega) (by omega)) rfl ?_
            refine wl_ov (ov_field fo60_1 rfl rfl) rfl ?_
            refine wl_ov (ov_load sc3 rfl (fun _ hm => hm.blkI 0 rfl) rfl) rfl ?_
            refine wl_ov (ov_add rfl rfl (by omega) (by omega)) rfl ?_
            refine wl_ov (ov_move rfl) rfl ?_
            refine wl_ov (ov_move rfl) rfl ?_
            refine wl_ov (ov_move rfl) rfl ?_
            refine wl_ov (ov_build (cs := [.int .i64 kd, .int .i64 ((mm : Nat) : Int), .int .i64 cc]) rfl (by kernel_rfl)) rfl ?_
            refine wl_ov (ov_build (cs := [.int .i64 (cc + y0), .int .i64 (1 + y1), .int .i64 kd, .int .i64 ((mm : Nat) : Int), .int .i64 cc, .bool true]) rfl (by kernel_rfl)) rfl ?_
            refine wl_alloc zc60 rfl fun g5 => ?_
            refine wl_stores (cs' := [.int .i64 (cc + y0), .int .i64 (1 + y1), .int .i64 kd, .int .i64 ((mm : Nat) : Int), .int .i64 cc, .bool true]) 0 rz60 rfl rfl rfl rfl rfl rfl rfl rfl ?_
            refine wl_nil ?_
            refine nx_then ?_
            refine gw_seq ?_
            refine gw_draw (fun wz => Blk wz g5 60 [.int .i64 (cc + y0), .int .i64 (1 + y1), .int .i64 kd, .int .i64 ((mm : Nat) : Int), .int .i64 cc, .bool true] ∧ Blk wz g4 60 [.int .i64 y0, .int .i64 y1, .int .i64 y2, .int .i64 y3, .int .i64 y4, .bool true] ∧ Blk wz g1 54 [.slice A n c0, .int .i64 fr, .int .i64 tt, .slice A2 n2 c2] ∧ (SlOld rtEnc 7 47 w.heap.size none A n l) wz ∧ (SlOld itEnc 1 3 w.heap.size none A2 n2 sea) wz ∧ wz.ownsRow w.heap.size 60 6 (.slice (some ⟨g2, 0, none⟩) (n2 + 1) (n2 + 1)) (n2 + 1) (ds3.flatMap dvEnc) ∧ True) mixed ?_
            refine wa_take 0 rfl (by kernel_rfl) (by kernel_rfl) (by kernel_rfl) (listed' := #[true, false, false, false, false, false, false, false, false, false, false, false, false, false, false, false, false, false, false, false, false, false, false, false, false, false, false]) rfl (fun _ _ _ h => h) (fun _ hm => ⟨hm.blkI 0 rfl, hm.blkI 1 rfl, hm.blkI 2 rfl, hm.fact 0 rfl, hm.fact 1 rfl, hm.ownI 0 rfl, trivial⟩) (ov_move rfl) rfl ?_
            refine wa_take 1 rfl (by kernel_rfl) (by kernel_rfl) (by kernel_rfl) (listed' := #[true, true, false, false, false, false, false, false, false, false, false, false, false, false, false, false, false, false, false, false, false, false, false, false, false, false, false]) rfl (fun _ _ _ h => h) (fun _ hm => ⟨hm.blkI 0 rfl, hm.blkI 1 rfl, hm.blkI 2 rfl, hm.fact 0 rfl, hm.fact 1 rfl, hm.ownI 0 rfl, trivial⟩) (ov_move rfl) rfl ?_
            refine wa_take 2 rfl (by kernel_rfl) (by kernel_rfl) (by kernel_rfl) (listed' := #[true, true, true, false, false, false, false, false, false, false, false, false, false, false, false, false, false, false, false, false, false, false, false, false, false, false, false]) rfl (fun _ _ _ h => h) (fun _ hm => ⟨hm.blkI 0 rfl, hm.blkI 1 rfl, hm.blkI 2 rfl, hm.fact 0 rfl, hm.fact 1 rfl, hm.ownI 0 rfl, trivial⟩) (ov_index (j := i) es52 rfl rfl (by omega)) rfl ?_
            refine wa_take 3 rfl (by kernel_rfl) (by kernel_rfl) (by kernel_rfl) (listed' := #[true, true, true, true, false, false, false, false, false, false, false, false, false, false, false, false, false, false, false, false, false, false, false, false, false, false, false]) rfl (fun _ _ _ h => h) (fun _ hm => ⟨hm.blkI 0 rfl, hm.blkI 1 rfl, hm.blkI 2 rfl, hm.fact 0 rfl, hm.fact 1 rfl, hm.ownI 0 rfl, trivial⟩) (ov_field fo60_3 rfl rfl) rfl ?_
            refine wa_take 4 rfl (by kernel_rfl) (by kernel_rfl) (by kernel_rfl) (listed' := #[true, true, true, true, true, false, false, false, false, false, false, false, false, false, false, false, false, false, false, false, false, false, false, false, false, false, false]) rfl (fun _ _ _ h => h) (fun _ hm => ⟨hm.blkI 0 rfl, hm.blkI 1 rfl, hm.blkI 2 rfl, hm.fact 0 rfl, hm.fact 1 rfl, hm.ownI 0 rfl, trivial⟩) (ov_elem1 (k := 5) (v := .bool x5) sc4 rfl (fun _ hm => (SlT.ofOwn dv_len (hm.2.2.2.2.2.1) hdl)) hx rfl rfl) rfl ?_
            refine wa_take 5 rfl (by kernel_rfl) (by kernel_rfl) (by kernel_rfl) (listed' := #[true, true, true, true, true, true, false, false, false, false, false, false, false, false, false, false, false, false, false, false, false, false, false, false, false, false, false]) rfl (fun _ _ _ h => h) (fun _ hm => ⟨hm.blkI 0 rfl, hm.blkI 1 rfl, hm.blkI 2 rfl, hm.fact 0 rfl, hm.fact 1 rfl, hm.ownI 0 rfl, trivial⟩) (ov_un_not rfl) rfl ?_
            refine wa_take 6 rfl (by kernel_rfl) (by kernel_rfl) (by kernel_rfl) (listed' := #[true, true, true, true, true, true, true, false, false, false, false, false, false, false, false, false, false, false, false, false, false, false, false, false, false, false, false]) rfl (fun _ _ _ h => h) (fun _ hm => ⟨hm.blkI 0 rfl, hm.blkI 1 rfl, hm.blkI 2 rfl, hm.fact 0 rfl, hm.fact 1 rfl, hm.ownI 0 rfl, trivial⟩) (ov_move rfl) rfl ?_
            rcases Bool.eq_false_or_eq_true (!x5) with hxf | hxf
            · refine wa_set 79 rfl (congrArg Value.bool hxf) ?_
              have hxf : x5 = false := by simpa using hxf
              refine wa_take_off 7 rfl rfl rfl (by decide) (by kernel_rfl) (by kernel_rfl) (by kernel_rfl) (listed' := #[true, true, true, true, true, true, true, true, false, false, false, false, false, false, false, false, false, false, false, false, false, false, false, false, false, false, false]) rfl (fun _ _ _ h => h) (fun _ hm => ⟨hm.blkI 0 rfl, hm.blkI 1 rfl, hm.blkI 2 rfl, hm.fact 0 rfl, hm.fact 1 rfl, hm.ownI 0 rfl, trivial⟩) rfl ?_
              refine wa_take_off 8 rfl rfl rfl (by decide) (by kernel_rfl) (by kernel_rfl) (by kernel_rfl) (listed' := #[true, true, true, true, true, true, true, true, true, false, false, false, false, false, false, false, false, false, false, false, false, false, false, false, false, false, false]) rfl (fun _ _ _ h => h) (fun _ hm => ⟨hm.blkI 0 rfl, hm.blkI 1 rfl, hm.blkI 2 rfl, hm.fact 0 rfl, hm.fact 1 rfl, hm.ownI 0 rfl, trivial⟩) rfl ?_
              refine wa_take_off 9 rfl rfl rfl (by decide) (by kernel_rfl) (by kernel_rfl) (by kernel_rfl) (listed' := #[true, true, true, true, true, true, true, true, true, true, false, false, false, false, false, false, false, false, false, false, false, false, false, false, false, false, false]) rfl (fun _ _ _ h => h) (fun _ hm => ⟨hm.blkI 0 rfl, hm.blkI 1 rfl, hm.blkI 2 rfl, hm.fact 0 rfl, hm.fact 1 rfl, hm.ownI 0 rfl, trivial⟩) rfl ?_
              refine wa_take_off 10 rfl rfl rfl (by decide) (by kernel_rfl) (by kernel_rfl) (by kernel_rfl) (listed' := #[true, true, true, true, true, true, true, true, true, true, true, false, false, false, false, false, false, false, false, false, false, false, false, false, false, false, false]) rfl (fun _ _ _ h => h) (fun _ hm => ⟨hm.blkI 0 rfl, hm.blkI 1 rfl, hm.blkI 2 rfl, hm.fact 0 rfl, hm.fact 1 rfl, hm.ownI 0 rfl, trivial⟩) rfl ?_
              refine wa_take_off 11 rfl rfl rfl (by decide) (by kernel_rfl) (by kernel_rfl) (by kernel_rfl) (listed' := #[true, true, true, true, true, true, true, true, true, true, true, true, false, false, false, false, false, false, false, false, false, false, false, false, false, false, false]) rfl (fun _ _ _ h => h) (fun _ hm => ⟨hm.blkI 0 rfl, hm.blkI 1 rfl, hm.blkI 2 rfl, hm.fact 0 rfl, hm.fact 1 rfl, hm.ownI 0 rfl, trivial⟩) rfl ?_
              refine wa_take_off 12 rfl rfl rfl (by decide) (by kernel_rfl) (by kernel_rfl) (by kernel_rfl) (listed' := #[true, true, true, true, true, true, true, true, true, true, true, true, true, false, false, false, false, false, false, false, false, false, false, false, false, false, false]) rfl (fun _ _ _ h => h) (fun _ hm => ⟨hm.blkI 0 rfl, hm.blkI 1 rfl, hm.blkI 2 rfl, hm.fact 0 rfl, hm.fact 1 rfl, hm.ownI 0 rfl, trivial⟩) rfl ?_
              refine wa_take_off 13 rfl rfl rfl (by decide) (by kernel_rfl) (by kernel_rfl) (by kernel_rfl) (listed' := #[true, true, true, true, true, true, true, true, true, true, true, true, true, true, false, false, false, false, false, false, false, false, false, false, false, false, false]) rfl (fun _ _ _ h => h) (fun _ hm => ⟨hm.blkI 0 rfl, hm.blkI 1 rfl, hm.blkI 2 rfl, hm.fact 0 rfl, hm.fact 1 rfl, hm.ownI 0 rfl, trivial⟩) rfl ?_
              refine wa_take_off 14 rfl rfl rfl (by decide) (by kernel_rfl) (by kernel_rfl) (by kernel_rfl) (listed' := #[true, true, true, true, true, true, true, true, true, true, true, true, true, true, true, false, false, false, false, false, false, false, false, false, false, false, false]) rfl (fun _ _ _ h => h) (fun _ hm => ⟨hm.blkI 0 rfl, hm.blkI 1 rfl, hm.blkI 2 rfl, hm.fact 0 rfl, hm.fact 1 rfl, hm.ownI 0 rfl, trivial⟩) rfl ?_
              refine wa_take_off 15 rfl rfl rfl (by decide) (by kernel_rfl) (by kernel_rfl) (by kernel_rfl) (listed' := #[true, true, true, true, true, true, true, true, true, true, true, true, true, true, true, true, false, false, false, false, false, false, false, false, false, false, false]) rfl (fun _ _ _ h => h) (fun _ hm => ⟨hm.blkI 0 rfl, hm.blkI 1 rfl, hm.blkI 2 rfl, hm.fact 0 rfl, hm.fact 1 rfl, hm.ownI 0 rfl, trivial⟩) rfl ?_
              refine wa_take_off 16 rfl rfl rfl (by decide) (by kernel_rfl) (by kernel_rfl) (by kernel_rfl) (listed' := #[true, true, true, true, true, true, true, true, true, true, true, true, true, true, true, true, true, false, false, false, false, false, false, false, false, false, false]) rfl (fun _ _ _ h => h) (fun _ hm => ⟨hm.blkI 0 rfl, hm.blkI 1 rfl, hm.blkI 2 rfl, hm.fact 0 rfl, hm.fact 1 rfl, hm.ownI 0 rfl, trivial⟩) rfl ?_
              refine wa_take_off 17 rfl rfl rfl (by decide) (by kernel_rfl) (by kernel_rfl) (by kernel_rfl) (listed' := #[true, true, true, true, true, true, true, true, true, true, true, true, true, true, true, true, true, true, false, false, false, false, false, false, false, false, false]) rfl (fun _ _ _ h => h) (fun _ hm => ⟨hm.blkI 0 rfl, hm.blkI 1 rfl, hm.blkI 2 rfl, hm.fact 0 rfl, hm.fact 1 rfl, hm.ownI 0 rfl, trivial⟩) rfl ?_
              refine wa_take_off 18 rfl rfl rfl (by decide) (by kernel_rfl) (by kernel_rfl) (by kernel_rfl) (listed' := #[true, true, true, true, true, true, true, true, true, true, true, true, true, true, true, true, true, true, true, false, false, false, false, false, false, false, false]) rfl (fun _ _ _ h => h) (fun _ hm => ⟨hm.blkI 0 rfl, hm.blkI 1 rfl, hm.blkI 2 rfl, hm.fact 0 rfl, hm.fact 1 rfl, hm.ownI 0 rfl, trivial⟩) rfl ?_
              refine wa_take_off 19 rfl rfl rfl (by decide) (by kernel_rfl) (by kernel_rfl) (by kernel_rfl) (listed' := #[true, true, true, true, true, true, true, true, true, true, true, true, true, true, true, true, true, true, true, true, false, false, false, false, false, false, false]) rfl (fun _ _ _ h => h) (fun _ hm => ⟨hm.blkI 0 rfl, hm.blkI 1 rfl, hm.blkI 2 rfl, hm.fact 0 rfl, hm.fact 1 rfl, hm.ownI 0 rfl, trivial⟩) rfl ?_
              refine wa_take_off 20 rfl rfl rfl (by decide) (by kernel_rfl) (by kernel_rfl) (by kernel_rfl) (listed' := #[true, true, true, true, true, true, true, true, true, true, true, true, true, true, true, true, true, true, true, true, true, false, false, false, false, false, false]) rfl (fun _ _ _ h => h) (fun _ hm => ⟨hm.blkI 0 rfl, hm.blkI 1 rfl, hm.blkI 2 rfl, hm.fact 0 rfl, hm.fact 1 rfl, hm.ownI 0 rfl, trivial⟩) rfl ?_
              refine wa_take_off 21 rfl rfl rfl (by decide) (by kernel_rfl) (by kernel_rfl) (by kernel_rfl) (listed' := #[true, true, true, true, true, true, true, true, true, true, true, true, true, true, true, true, true, true, true, true, true, true, false, false, false, false, false]) rfl (fun _ _ _ h => h) (fun _ hm => ⟨hm.blkI 0 rfl, hm.blkI 1 rfl, hm.blkI 2 rfl, hm.fact 0 rfl, hm.fact 1 rfl, hm.ownI 0 rfl, trivial⟩) rfl ?_
              refine wa_take_off 22 rfl rfl rfl (by decide) (by kernel_rfl) (by kernel_rfl) (by kernel_rfl) (listed' := #[true, true, true, true, true, true, true, true, true, true, true, true, true, true, true, true, true, true, true, true, true, true, true, false, false, false, false]) rfl (fun _ _ _ h => h) (fun _ hm => ⟨hm.blkI 0 rfl, hm.blkI 1 rfl, hm.blkI 2 rfl, hm.fact 0 rfl, hm.fact 1 rfl, hm.ownI 0 rfl, trivial⟩) rfl ?_
              refine wa_take_off 23 rfl rfl rfl (by decide) (by kernel_rfl) (by kernel_rfl) (by kernel_rfl) (listed' := #[true, true, true, true, true, true, true, true, true, true, true, true, true, true, true, true, true, true, true, true, true, true, true, true, false, false, false]) rfl (fun _ _ _ h => h) (fun _ hm => ⟨hm.blkI 0 rfl, hm.blkI 1 rfl, hm.blkI 2 rfl, hm.fact 0 rfl, hm.fact 1 rfl, hm.ownI 0 rfl, trivial⟩) rfl ?_
              refine wa_take_off 24 rfl rfl rfl (by decide) (by kernel_rfl) (by kernel_rfl) (by kernel_rfl) (listed' := #[true, true, true, true, true, true, true, true, true, true, true, true, true, true, true, true, true, true, true, true, true, true, true, true, true, false, false]) rfl (fun _ _ _ h => h) (fun _ hm => ⟨hm.blkI 0 rfl, hm.blkI 1 rfl, hm.blkI 2 rfl, hm.fact 0 rfl, hm.fact 1 rfl, hm.ownI 0 rfl, trivial⟩) rfl ?_
              refine wa_take_off 25 rfl rfl rfl (by decide) (by kernel_rfl) (by kernel_rfl) (by kernel_rfl) (listed' := #[true, true, true, true, true, true, true, true, true, true, true, true, true, true, true, true, true, true, true, true, true, true, true, true, true, true, false]) rfl (fun _ _ _ h => h) (fun _ hm => ⟨hm.blkI 0 rfl, hm.blkI 1 rfl, hm.blkI 2 rfl, hm.fact 0 rfl, hm.fact 1 rfl, hm.ownI 0 rfl, trivial⟩) rfl ?_
              refine wa_take 26 rfl (by kernel_rfl) (by kernel_rfl) (by kernel_rfl) (listed' := #[true, true, true, true, true, true, true, true, true, true, true, true, true, true, true, true, true, true, true, true, true, true, true, true, true, true, true]) rfl (fun _ _ _ h => h) (fun _ hm => ⟨hm.blkI 0 rfl, hm.blkI 1 rfl, hm.blkI 2 rfl, hm.fact 0 rfl, hm.fact 1 rfl, hm.ownI 0 rfl, trivial⟩) (ov_pick_t rfl rfl) rfl ?_
              refine wa_done (by kernel_rfl) ?_
              refine nx_then ?_
              refine gw_cond rfl (fun _ => ?_) (fun hh => by cases hh)
              refine gw_region ?_
              refine wl_ov (ov_move rfl) rfl ?_
              refine wl_ov (ov_move rfl) rfl ?_
              refine wl_ov (ov_loads rz60 rfl (fun _ hm => hm.blkI 0 rfl) rfl rfl) rfl ?_
              refine wl_ov (ov_index (j := i) es52 rfl rfl (by omega)) rfl ?_
              refine wl_storesE (l := ds3) (j := i) (r := 0) (el := ⟨x0, x1, x2, x3, x4, x5⟩) (el' := ⟨cc + y0, 1 + y1, kd, ((mm : Nat) : Int), cc, true⟩) 0 rz60 rfl rfl rfl rfl rfl dv_len rfl hx hdl (by decide) rfl rfl ?_
              refine wl_nil ?_
              refine nx_blk_nrm ?_
              refine nx_then ?_
              refine gw_region ?_
              refine wl_ov (ov_move rfl) rfl ?_
              refine wl_ov (ov_add rfl rfl (by omega) (by omega)) rfl ?_
              refine wl_ov (ov_assign rfl) rfl ?_
              refine wl_nil ?_
              exact nx_round (mm + 1, ds3.set i ⟨cc + y0, 1 + y1, kd, ((mm : Nat) : Int), cc, true⟩) ⟨⟨by dsimp only; omega, by dsimp only; omega⟩, dv_first hrm ⟨hk1, hk4⟩ ⟨hm1, hm7⟩ hpo hy rfl hx hxf⟩ (by dsimp only; omega) ⟨rfl, rfl, rfl, rfl, rfl, rfl, (some_int (by omega)), trivial⟩ (fun _ hm => hm.pick [2] [0] [0, 1] rfl rfl)
            · refine wa_set 79 rfl (congrArg Value.bool hxf) ?_
              have hxf : x5 = true := by simpa using hxf
              refine wa_take_on 7 rfl rfl rfl (by kernel_rfl) (by kernel_rfl) (by kernel_rfl) (listed' := #[true, true, true, true, true, true, true, true, false, false, false, false, false, false, false, false, false, false, false, false, false, false, false, false, false, false, false]) rfl (fun _ _ _ h => h) (fun _ hm => ⟨hm.blkI 0 rfl, hm.blkI 1 rfl, hm.blkI 2 rfl, hm.fact 0 rfl, hm.fact 1 rfl, hm.ownI 0 rfl, trivial⟩) (ov_field fo60_0 rfl rfl) rfl ?_
              refine wa_take_on 8 rfl rfl rfl (by kernel_rfl) (by kernel_rfl) (by kernel_rfl) (listed' := #[true, true, true, true, true, true, true, true, true, false, false, false, false, false, false, false, false, false, false, false, false, false, false, false, false, false, false]) rfl (fun _ _ _ h => h) (fun _ hm => ⟨hm.blkI 0 rfl, hm.blkI 1 rfl, hm.blkI 2 rfl, hm.fact 0 rfl, hm.fact 1 rfl, hm.ownI 0 rfl, trivial⟩) (ov_load sc3 rfl (fun _ hm => hm.1) rfl) rfl ?_
              refine wa_take_on 9 rfl rfl rfl (by kernel_rfl) (by kernel_rfl) (by kernel_rfl) (listed' := #[true, true, true, true, true, true, true, true, true, true, false, false, false, false, false, false, false, false, false, false, false, false, false, false, false, false, false]) rfl (fun _ _ _ h => h) (fun _ hm => ⟨hm.blkI 0 rfl, hm.blkI 1 rfl, hm.blkI 2 rfl, hm.fact 0 rfl, hm.fact 1 rfl, hm.ownI 0 rfl, trivial⟩) (ov_move rfl) rfl ?_
              refine wa_take_on 10 rfl rfl rfl (by kernel_rfl) (by kernel_rfl) (by kernel_rfl) (listed' := #[true, true, true, true, true, true, true, true, true, true, true, false, false, false, false, false, false, false, false, false, false, false, false, false, false, false, false]) rfl (fun _ _ _ h => h) (fun _ hm => ⟨hm.blkI 0 rfl, hm.blkI 1 rfl, hm.blkI 2 rfl, hm.fact 0 rfl, hm.fact 1 rfl, hm.ownI 0 rfl, trivial⟩) (ov_move rfl) rfl ?_
              refine wa_take_on 11 rfl rfl rfl (by kernel_rfl) (by kernel_rfl) (by kernel_rfl) (listed' := #[true, true, true, true, true, true, true, true, true, true, true, true, false, false, false, false, false, false, false, false, false, false, false, false, false, false, false]) rfl (fun _ _ _ h => h) (fun _ hm => ⟨hm.blkI 0 rfl, hm.blkI 1 rfl, hm.blkI 2 rfl, hm.fact 0 rfl, hm.fact 1 rfl, hm.ownI 0 rfl, trivial⟩) (ov_index (j := i) es52 rfl rfl (by omega)) rfl ?_
              refine wa_take_on 12 rfl rfl rfl (by kernel_rfl) (by kernel_rfl) (by kernel_rfl) (listed' := #[true, true, true, true, true, true, true, true, true, true, true, true, true, false, false, false, false, false, false, false, false, false, false, false, false, false, false]) rfl (fun _ _ _ h => h) (fun _ hm => ⟨hm.blkI 0 rfl, hm.blkI 1 rfl, hm.blkI 2 rfl, hm.fact 0 rfl, hm.fact 1 rfl, hm.ownI 0 rfl, trivial⟩) (ov_field fo60_0 rfl rfl) rfl ?_
              refine wa_take_on 13 rfl rfl rfl (by kernel_rfl) (by kernel_rfl) (by kernel_rfl) (listed' := #[true, true, true, true, true, true, true, true, true, true, true, true, true, true, false, false, false, false, false, false, false, false, false, false, false, false, false]) rfl (fun _ _ _ h => h) (fun _ hm => ⟨hm.blkI 0 rfl, hm.blkI 1 rfl, hm.blkI 2 rfl, hm.fact 0 rfl, hm.fact 1 rfl, hm.ownI 0 rfl, trivial⟩) (ov_elem1 (k := 0) (v := .int .i64 x0) sc3 rfl (fun _ hm => (SlT.ofOwn dv_len (hm.2.2.2.2.2.1) hdl)) hx rfl rfl) rfl ?_
              refine wa_take_on 15 rfl rfl rfl (by kernel_rfl) (by kernel_rfl) (by kernel_rfl) (listed' := #[true, true, true, true, true, true, true, true, true, true, true, true, true, true, false, true, false, false, false, false, false, false, false, false, false, false, false]) rfl (fun _ _ _ h => h) (fun _ hm => ⟨hm.blkI 0 rfl, hm.blkI 1 rfl, hm.blkI 2 rfl, hm.fact 0 rfl, hm.fact 1 rfl, hm.ownI 0 rfl, trivial⟩) (ov_field fo60_1 rfl rfl) rfl ?_
              refine wa_take_on 16 rfl rfl rfl (by kernel_rfl) (by kernel_rfl) (by kernel_rfl) (listed' := #[true, true, true, true, true, true, true, true, true, true, true, true, true, true, false, true, true, false, false, false, false, false, false, false, false, false, false]) rfl (fun _ _ _ h => h) (fun _ hm => ⟨hm.blkI 0 rfl, hm.blkI 1 rfl, hm.blkI 2 rfl, hm.fact 0 rfl, hm.fact 1 rfl, hm.ownI 0 rfl, trivial⟩) (ov_load sc3 rfl (fun _ hm => hm.1) rfl) rfl ?_
              refine wa_take_on 17 rfl rfl rfl (by kernel_rfl) (by kernel_rfl) (by kernel_rfl) (listed' := #[true, true, true, true, true, true, true, true, true, true, true, true, true, true, false, true, true, true, false, false, false, false, false, false, false, false, false]) rfl (fun _ _ _ h => h) (fun _ hm => ⟨hm.blkI 0 rfl, hm.blkI 1 rfl, hm.blkI 2 rfl, hm.fact 0 rfl, hm.fact 1 rfl, hm.ownI 0 rfl, trivial⟩) (ov_move rfl) rfl ?_
              refine wa_take_on 18 rfl rfl rfl (by kernel_rfl) (by kernel_rfl) (by kernel_rfl) (listed' := #[true, true, true, true, true, true, true, true, true, true, true, true, true, true, false, true, true, true, true, false, false, false, false, false, false, false, false]) rfl (fun _ _ _ h => h) (fun _ hm => ⟨hm.blkI 0 rfl, hm.blkI 1 rfl, hm.blkI 2 rfl, hm.fact 0 rfl, hm.fact 1 rfl, hm.ownI 0 rfl, trivial⟩) (ov_move rfl) rfl ?_
              refine wa_take_on 19 rfl rfl rfl (by kernel_rfl) (by kernel_rfl) (by kernel_rfl) (listed' := #[true, true, true, true, true, true, true, true, true, true, true, true, true, true, false, true, true, true, true, true, false, false, false, false, false, false, false]) rfl (fun _ _ _ h => h) (fun _ hm => ⟨hm.blkI 0 rfl, hm.blkI 1 rfl, hm.blkI 2 rfl, hm.fact 0 rfl, hm.fact 1 rfl, hm.ownI 0 rfl, trivial⟩) (ov_index (j := i) es52 rfl rfl (by omega)) rfl ?_
              refine wa_take_on 20 rfl rfl rfl (by kernel_rfl) (by kernel_rfl) (by kernel_rfl) (listed' := #[true, true, true, true, true, true, true, true, true, true, true, true, true, true, false, true, true, true, true, true, true, false, false, false, false, false, false]) rfl (fun _ _ _ h => h) (fun _ hm => ⟨hm.blkI 0 rfl, hm.blkI 1 rfl, hm.blkI 2 rfl, hm.fact 0 rfl, hm.fact 1 rfl, hm.ownI 0 rfl, trivial⟩) (ov_field fo60_1 rfl rfl) rfl ?_
              refine wa_take_on 21 rfl rfl rfl (by kernel_rfl) (by kernel_rfl) (by kernel_rfl) (listed' := #[true, true, true, true, true, true, true, true, true, true, true, true, true, true, false, true, true, true, true, true, true, true, false, false, false, false, false]) rfl (fun _ _ _ h => h) (fun _ hm => ⟨hm.blkI 0 rfl, hm.blkI 1 rfl, hm.blkI 2 rfl, hm.fact 0 rfl, hm.fact 1 rfl, hm.ownI 0 rfl, trivial⟩) (ov_elem1 (k := 1) (v := .int .i64 x1) sc3 rfl (fun _ hm => (SlT.ofOwn dv_len (hm.2.2.2.2.2.1) hdl)) hx rfl rfl) rfl ?_
              refine wa_all [14] (by kernel_rfl) rfl ⟨⟨_, rfl, ?_⟩, trivial⟩
              refine wl_guard_on rfl rfl rfl ?_
              refine wl_callv rfl cb37 rfl rfl (fun wx hm => (cmp_int _ _ wx)) ?_
              refine wl_nil ?_
              refine nx_wa0 (listed' := #[true, true, true, true, true, true, true, true, true, true, true, true, true, true, true, true, true, true, true, true, true, true, false, false, false, false, false]) rfl (fun _ hm => ⟨hm.blkI 0 rfl, hm.blkI 1 rfl, hm.blkI 2 rfl, hm.fact 0 rfl, hm.fact 1 rfl, hm.ownI 0 rfl, trivial⟩) ?_
              refine wa_all [22] (by kernel_rfl) rfl ⟨⟨_, rfl, ?_⟩, trivial⟩
              refine wl_guard_on rfl rfl rfl ?_
              refine wl_callv rfl cb37 rfl rfl (fun wx hm => (cmp_int _ _ wx)) ?_
              refine wl_nil ?_
              refine nx_wa0 (listed' := #[true, true, true, true, true, true, true, true, true, true, true, true, true, true, true, true, true, true, true, true, true, true, true, false, false, false, false]) rfl (fun _ hm => ⟨hm.blkI 0 rfl, hm.blkI 1 rfl, hm.blkI 2 rfl, hm.fact 0 rfl, hm.fact 1 rfl, hm.ownI 0 rfl, trivial⟩) ?_
              refine wa_all [23] (by kernel_rfl) rfl ⟨⟨_, rfl, ?_⟩, trivial⟩
              refine wl_guard_on rfl rfl rfl ?_
              refine wl_buildSlice (e := 3) (cs := [.int .i64 (cmpI (cc + y0) x0), .int .i64 (cmpI (1 + y1) x1)]) rfl (by kernel_rfl) rfl fun g6 => ?_
              refine wl_nil ?_
              refine nx_wa0 (listed' := #[true, true, true, true, true, true, true, true, true, true, true, true, true, true, true, true, true, true, true, true, true, true, true, true, false, false, false]) rfl (fun _ hm => ⟨hm.blkI 1 rfl, hm.blkI 2 rfl, hm.blkI 3 rfl, hm.fact 0 rfl, hm.fact 1 rfl, hm.ownI 0 rfl, trivial⟩) ?_
              refine wa_all [24] (by kernel_rfl) rfl ⟨⟨_, rfl, ?_⟩, trivial⟩
              refine wl_guard_on rfl rfl rfl ?_
              refine wl_callv rfl cb36 rfl rfl (fun wx hm => (or_two _ _ _ _ _ wx (hm.blkI 0 rfl))) ?_
              refine wl_nil ?_
              refine nx_wa0 (listed' := #[true, true, true, true, true, true, true, true, true, true, true, true, true, true, true, true, true, true, true, true, true, true, true, true, true, false, false]) rfl (fun _ hm => ⟨hm.blkI 1 rfl, hm.blkI 2 rfl, hm.blkI 3 rfl, hm.fact 0 rfl, hm.fact 1 rfl, hm.ownI 0 rfl, trivial⟩) ?_
              refine wa_take_on 25 rfl rfl rfl (by kernel_rfl) (by kernel_rfl) (by kernel_rfl) (listed' := #[true, true, true, true, true, true, true, true, true, true, true, true, true, true, true, true, true, true, true, true, true, true, true, true, true, true, false]) rfl (fun _ _ _ h => h) (fun _ hm => ⟨hm.blkI 1 rfl, hm.blkI 2 rfl, hm.blkI 3 rfl, hm.fact 0 rfl, hm.fact 1 rfl, hm.ownI 0 rfl, trivial⟩) (ov_lss rfl rfl) rfl ?_
              refine wa_take 26 rfl (by kernel_rfl) (by kernel_rfl) (by kernel_rfl) (listed' := #[true, true, true, true, true, true, true, true, true, true, true, true, true, true, true, true, true, true, true, true, true, true, true, true, true, true, true]) rfl (fun _ _ _ h => h) (fun _ hm => ⟨hm.blkI 1 rfl, hm.blkI 2 rfl, hm.blkI 3 rfl, hm.fact 0 rfl, hm.fact 1 rfl, hm.ownI 0 rfl, trivial⟩) (ov_pick_f rfl rfl) rfl ?_
              refine wa_done (by kernel_rfl) ?_
              refine nx_then ?_
              refine gw_cond rfl (fun hh => ?_) (fun hh => ?_)
              · have hl9 : firstE [cmpI (cc + y0) x0, cmpI (1 + y1) x1] < 0 := by simpa using hh
                clear hh
                refine gw_region ?_
                refine wl_ov (ov_move rfl) rfl ?_
                refine wl_ov (ov_move rfl) rfl ?_
                refine wl_ov (ov_loads rz60 rfl (fun _ hm => hm.blkI 1 rfl) rfl rfl) rfl ?_
                refine wl_ov (ov_index (j := i) es52 rfl rfl (by omega)) rfl ?_
                refine wl_storesE (l := ds3) (j := i) (r := 0) (el := ⟨x0, x1, x2, x3, x4, x5⟩) (el' := ⟨cc + y0, 1 + y1, kd, ((mm : Nat) : Int), cc, true⟩) 0 rz60 rfl rfl rfl rfl rfl dv_len rfl hx hdl (by decide) rfl rfl ?_
                refine wl_nil ?_
                refine nx_blk_nrm ?_
                refine nx_then ?_
                refine gw_region ?_
                refine wl_ov (ov_move rfl) rfl ?_
                refine wl_ov (ov_add rfl rfl (by omega) (by omega)) rfl ?_
                refine wl_ov (ov_assign rfl) rfl ?_
                refine wl_nil ?_
                exact nx_round (mm + 1, ds3.set i ⟨cc + y0, 1 + y1, kd, ((mm : Nat) : Int), cc, true⟩) ⟨⟨by dsimp only; omega, by dsimp only; omega⟩, dv_better hrm ⟨hk1, hk4⟩ ⟨hm1, hm7⟩ hpo hy rfl hx hxf hl9⟩ (by dsimp only; omega) ⟨rfl, rfl, rfl, rfl, rfl, rfl, (some_int (by omega)), trivial⟩ (fun _ hm => hm.pick [3] [0] [0, 1] rfl rfl)
              · have hl9 : ¬ (firstE [cmpI (cc + y0) x0, cmpI (1 + y1) x1] < 0) := by simpa using hh
                clear hh
                refine gw_skip ?_
                refine nx_blk_nrm ?_
                refine nx_then ?_
                refine gw_region ?_
                refine wl_ov (ov_move rfl) rfl ?_
                refine wl_ov (ov_add rfl rfl (by omega) (by omega)) rfl ?_
                refine wl_ov (ov_assign rfl) rfl ?_
                refine wl_nil ?_
                exact nx_round (mm + 1, ds3) ⟨⟨by dsimp only; omega, by dsimp only; omega⟩, dv_keep hrm ⟨hk1, hk4⟩ ⟨hm1, hm7⟩ hpo hy rfl hx hxf hl9⟩ (by dsimp only; omega) ⟨rfl, rfl, rfl, rfl, rfl, rfl, (some_int (by omega)), trivial⟩ (fun _ hm => hm.pick [3] [0] [0, 1] rfl rfl)
      · have hmc : ¬ (((mm : Nat) : Int) ≤ min 7 (((n2 : Nat) : Int) - ((i : Nat) : Int))) := by simpa using hh
        clear hh
        refine gw_exit ?_
        refine nx_then_exit ?_
        refine nx_then_exit ?_
        refine nx_blk_here ?_
        refine nx_blk_nrm ?_
        refine nx_then ?_
        refine gw_region ?_
        refine wl_ov (ov_move rfl) rfl ?_
        refine wl_ov (ov_add rfl rfl (by omega) (by omega)) rfl ?_
        refine wl_ov (ov_assign rfl) rfl ?_
        refine wl_nil ?_
        exact nx_round (kd + 1, ds3) ⟨⟨by dsimp only; omega, by dsimp only; omega⟩, dv_kind hrm (by omega)⟩ (by dsimp only; omega) ⟨rfl, rfl, rfl, rfl, rfl, rfl, trivial⟩ (fun _ hm => hm.pick [0] [0] [0, 1] rfl rfl)
    · have hk4 : ¬ (kd ≤ 4) := by simpa using hh
      clear hh
      refine gw_exit ?_
      refine nx_then_exit ?_
      refine nx_then_exit ?_
      refine nx_blk_here ?_
      refine nx_blk_nrm ?_
      refine nx_then ?_
      refine gw_region ?_
      have hk5 : kd = 5 := by omega
      subst hk5
      refine wl_ov (ov_move rfl) rfl ?_
      refine wl_ov (ov_sub rfl rfl (by omega) (by omega)) rfl ?_
      refine wl_ov (ov_assign rfl) rfl ?_
      refine wl_nil ?_
      exact nx_round (i, ds2) ⟨by dsimp only; omega, dv_done hrw hin⟩ (by dsimp only; omega) ⟨rfl, rfl, rfl, rfl, rfl, trivial⟩ (fun _ hm => hm.pick [0] [0] [0, 1] rfl rfl)
  · have hk : ¬ (0 ≤ ((r : Nat) : Int) - 1) := by simpa using hh
    clear hh
    refine gw_exit ?_
    refine nx_then_exit ?_
    refine nx_then_exit ?_
    refine nx_blk_here ?_
    refine nx_then ?_
    refine gw_seq ?_
    refine gw_region ?_
    refine wl_ov (ov_move rfl) rfl ?_
    refine wl_ov (ov_assign rfl) rfl ?_
    refine wl_nil ?_
    refine nx_then ?_
    refine gw_ret ?_
    have hz : r = 0 := by omega
    subst hz
    refine nx_ret1 rfl rfl fun wx hm => ?_
    exact ⟨some ⟨g2, 0, none⟩, n2 + 1, ds, rfl, hm.g, hm.ownI 0 rfl, hr1⟩

end Go.Proofs.Ytcggbojhalbkjaa
