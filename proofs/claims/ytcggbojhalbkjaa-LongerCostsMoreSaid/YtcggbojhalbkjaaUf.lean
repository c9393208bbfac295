/- The cost of a division; the walk of the law DivisionsCost. -/
import Derived.Test.YtcggbojhalbkjaaTm
import Derived.Test.YtcggbojhalbkjaaTb
import Derived.Test.YtcggbojhalbkjaaSg
import Derived.Test.YtcggbojhalbkjaaGt
import Derived.Test.YtcggbojhalbkjaaRt
namespace Go.Proofs.Ytcggbojhalbkjaa
open Go.RowKit

def PcSm (p : Pc) : Prop := (0 ≤ p.kind ∧ p.kind ≤ 10) ∧ (0 ≤ p.days ∧ p.days ≤ 10)
theorem chain_small {pr : Int → Nat → Int → Option Int} : ∀ {ps : List Pc} {i j : Nat}, Chain pr i j ps → ∀ p ∈ ps, PcSm p
  | [], _, _, _, p, h => by cases h
  | q :: r, i, j, h, p, hp => by
    rcases List.mem_cons.1 hp with rfl | hp
    · have h1 := h.1
      exact ⟨⟨by have := h1.1; omega, by have := h1.2.1; omega⟩, by have := h1.2.2.1; omega, by have := h1.2.2.2.1; omega⟩
    · exact chain_small h.2 p hp
def seaB (l : List Rt) (c : ByteArray) (fr : Int) (D i : Nat) : Bool := decide (i < D ∧ 0 ≤ seaV l c fr i)
def RefIs (l : List Rt) (c : ByteArray) (fr tt : Int) (ok : Bool) (ps : List Pc) : Prop := (ok = true ∧ Best (prH l c fr tt) 0 (daysN fr tt) ps) ∨ (ok = false ∧ ps = [] ∧ ∀ qs, ¬ Chain (prH l c fr tt) 0 (daysN fr tt) qs)
/-- The value and the error of Cost. -/
def costG (pr : Int → Nat → Int → Option Int) (sb : Nat → Bool) (n : Nat) : Nat → Int → List Pc → Int × Int
  | i, t, [] => if i < n then (0, 16) else (t, 0)
  | i, t, p :: r => if inB p.kind 1 4 = false then (0, 4) else if sb i = false then (0, 8) else
    match pr p.kind i p.days with
    | none => (0, 16)
    | some v => if v = p.cents then costG pr sb n (i + p.days.toNat) (t + v) r else (0, 15)
def PcB (p : Pc) : Prop := -1000000 ≤ p.days ∧ p.days ≤ 1000000
theorem drop_at {α : Type} {l : List α} {k : Nat} {x : α} (h : l[k]? = some x) : l.drop k = x :: l.drop (k + 1) := by
  obtain ⟨hk, rfl⟩ := List.getElem?_eq_some_iff.1 h
  exact List.drop_eq_getElem_cons hk
section
variable {pr : Int → Nat → Int → Option Int} {sb : Nat → Bool} {n i : Nat} {t v : Int} {p : Pc} {r : List Pc}
theorem cg_end (h : ¬ i < n) : costG pr sb n i t [] = (t, 0) := by unfold costG; rw [if_neg h]
theorem cg_short (h : i < n) : costG pr sb n i t [] = (0, 16) := by unfold costG; rw [if_pos h]
theorem cg_kind (h : inB p.kind 1 4 = false) : costG pr sb n i t (p :: r) = (0, 4) := by unfold costG; rw [if_pos h]
theorem cg_sea (h : inB p.kind 1 4 = true) (h2 : sb i = false) : costG pr sb n i t (p :: r) = (0, 8) := by unfold costG; rw [if_neg (by rw [h]; decide), if_pos h2]
theorem cg_none (h : inB p.kind 1 4 = true) (h2 : sb i = true) (h3 : pr p.kind i p.days = none) : costG pr sb n i t (p :: r) = (0, 16) := by unfold costG; rw [if_neg (by rw [h]; decide), if_neg (by rw [h2]; decide), h3]
theorem cg_sum (h : inB p.kind 1 4 = true) (h2 : sb i = true) (h3 : pr p.kind i p.days = some v) (h4 : ¬ v = p.cents) : costG pr sb n i t (p :: r) = (0, 15) := by unfold costG; rw [if_neg (by rw [h]; decide), if_neg (by rw [h2]; decide), h3]; dsimp only; rw [if_neg h4]
theorem cg_next (h : inB p.kind 1 4 = true) (h2 : sb i = true) (h3 : pr p.kind i p.days = some v) (h4 : v = p.cents) : costG pr sb n i t (p :: r) = costG pr sb n (i + p.days.toNat) (t + v) r := by
  rw [costG, if_neg (by rw [h]; decide), if_neg (by rw [h2]; decide), h3]; dsimp only; rw [if_pos h4]
end
/-- Cost: the error of the hire, or the cost. -/
def costV (l : List Rt) (c : ByteArray) (fr tt : Int) (ps : List Pc) : Int × Int := if chkE l c fr tt = 0 then costG (prH l c fr tt) (seaB l c fr (daysN fr tt)) (daysN fr tt) 0 0 ps else (0, chkE l c fr tt)

set_option maxRecDepth 100000 in
set_option maxHeartbeats 2000000 in
theorem tCost_any (l : List Rt) (A : Option Addr) (n c0 : Nat) (c : ByteArray) (fr tt : Int) (ps : List Pc) (A2 : Option Addr) (n2 c2 : Nat) (w : World) (hl : SlT rtEnc 7 47 w A n l) (hok : ∀ b ∈ l, RtOk b) (hn : n ≤ 1000000) (hc : c.size ≤ 1000000) (hp : SlT pcEnc 3 58 w A2 n2 ps) (hn2 : n2 ≤ 1000000) (hpb0 : ∀ p ∈ ps, PcB p) :
    Calls Try.prog 9 #[.slice A n c0, .string c, .agg #[.int .i64 fr, .int .i64 tt], .slice A2 n2 c2] w (fun e w' => e = .returned (.tuple #[.int .i64 (costV l c fr tt ps).1, .int .i64 (costV l c fr tt ps).2]) ∧ w.grownBy w' none) := by
  refine gw_enter ⟨86, w, none, [3]⟩ Try.func9 rfl Try.ntmps9 rfl (mem0 (X := [SlOld rtEnc 7 47 w.heap.size none A n l, SlOld pcEnc 3 58 w.heap.size none A2 n2 ps]) (allF_cons hl.old (allF_cons hp.old allF_nil)) (allL_cons SlOld.lasts (allL_cons SlOld.lasts allL_nil))) ?_
  refine gw_seq ?_
  refine gw_region ?_
  have hpl := hp.len
  obtain ⟨CE, hCE⟩ : ∃ E, E = chkE l c fr tt := ⟨_, rfl⟩
  refine wl_box rfl rfl rfl fun g1 => ?_
  refine wl_ov (ov_assign rfl) rfl ?_
  refine wl_ov (ov_assign rfl) rfl ?_
  refine wl_nil ?_
  refine nx_then ?_
  refine gw_seq ?_
  refine gw_seq ?_
  refine gw_region ?_
  refine wl_ov (ov_move rfl) rfl ?_
  refine wl_ov (ov_move rfl) rfl ?_
  refine wl_ov (ov_loads rz30 rfl (fun _ hm => hm.blkI 0 rfl) rfl rfl) rfl ?_
  refine wl_callv (v := .int .i64 CE) rfl cb17 rfl rfl (fun wx hm => (by rw [hCE]; exact checkHire_any l A n c0 c fr tt wx (hm.fact 0 rfl).1 hok hn hc)) ?_
  refine wl_ov (ov_assign rfl) rfl ?_
  refine wl_nil ?_
  refine nx_then ?_
  refine gw_seq ?_
  refine gw_region ?_
  refine wl_ov (ov_move rfl) rfl ?_
  refine wl_ov (ov_neq rfl rfl) rfl ?_
  refine wl_nil ?_
  refine nx_then ?_
  refine gw_cond rfl (fun hh => ?_) (fun hh => ?_)
  · have h1 : ¬ (CE = 0) := by simpa using hh
    clear hh
    refine gw_seq ?_
    refine gw_region ?_
    refine wl_ov (ov_move rfl) rfl ?_
    refine wl_ov (ov_assign rfl) rfl ?_
    refine wl_ov (ov_assign rfl) rfl ?_
    refine wl_nil ?_
    refine nx_then ?_
    refine gw_ret ?_
    refine nx_then_ret ?_
    refine nx_ret2 rfl rfl rfl fun wx hm => ?_
    refine ⟨?_, hm.g⟩
    unfold costV
    rw [← hCE, if_neg h1]
  · have h1 : CE = 0 := by simpa using hh
    clear hh
    refine gw_skip ?_
    refine nx_then ?_
    refine gw_seq ?_
    refine gw_region ?_
    obtain ⟨hr0, hkc, ht⟩ := chkE_ok (hCE.symm.trans h1)
    obtain ⟨h0, hlt, htt, _⟩ := timeE_ok ht
    have hpos := rt_pos hr0
    have hro := rate_ok hr0
    have hD1 := timeE_days ht
    obtain ⟨D, hD⟩ : ∃ D, D = daysN fr tt := ⟨_, rfl⟩
    have hDv : daysV fr tt = ((D : Nat) : Int) := by rw [hD]; unfold daysN; omega
    have hD2 : 1 ≤ D ∧ D ≤ 120 := by omega
    have hD3 := hD2.1
    have hD4 := hD2.2
    have hto : ∀ j, j < D → begV fr j < tt := fun j hj => by unfold daysV at hDv; unfold begV; omega
    obtain ⟨pr, hpr⟩ : ∃ p, p = prH l c fr tt := ⟨_, rfl⟩
    have hprD : pr = priceO l (seasons l c fr D) fr tt := by rw [hpr, hD]; rfl
    have hpb : ∀ k i m c, pr k i m = some c → 0 ≤ c ∧ c ≤ 24000000 := by rw [hprD]; exact price_all hro (fun i hi => by rw [seasons_len] at hi; exact Int.le_of_lt (hto i hi))
    have hfit : ∀ k i m v, pr k i m = some v → 1 ≤ m ∧ (i : Int) + m ≤ ((D : Nat) : Int) := fun k i m v h => by
      have h2 := price_some (by rw [← hprD]; exact h)
      rw [seasons_len] at h2
      exact ⟨h2.1, h2.2.1⟩
    have hcv : costV l c fr tt ps = costG pr (seaB l c fr D) D 0 0 ps := by unfold costV; rw [← hCE, if_pos h1, ← hpr, ← hD]
    refine wl_ov (ov_move rfl) rfl ?_
    refine wl_ov (ov_move rfl) rfl ?_
    refine wl_ov (ov_loads rz30 rfl (fun _ hm => hm.blkI 0 rfl) rfl rfl) rfl ?_
    refine wl_callx (γ := Option Addr × Nat) (val := (fun (g : Option Addr × Nat) => .agg #[.slice A n c0, .int .i64 fr, .int .i64 tt, .slice g.1 D g.2])) (φ := (fun (g : Option Addr × Nat) => D ≤ g.2)) (Y := (fun (g : Option Addr × Nat) => fun wy => SlT itEnc 1 3 wy g.1 D (seasons l c fr D))) rfl cb18 rfl rfl (fun wx hm => (by have h := trent_any l A n c0 c fr tt wx (hm.fact 0 rfl).1 hn hpos ht; rw [show (daysV fr tt).toNat = D by omega] at h; exact h.mono fun _ _ ⟨A2, c2, he, hg, hs, hc⟩ => ⟨(A2, c2), he, hc, hg, hs⟩)) (fun _ => SlT.lasts2 rfl) ?_
    rintro ⟨A3, c3⟩ hDc
    dsimp only at hDc ⊢
    refine wl_look (R := ∃ b3 o3, A3 = some ⟨b3, o3, none⟩) (fun wx hm => by obtain ⟨b3, o3, h, _, _⟩ := SlT.get (hm.fact 0 rfl) (by omega); exact ⟨b3, o3, h⟩) ?_
    rintro ⟨b3, o3, rfl⟩
    refine wl_alloc zc54 rfl fun g2 => ?_
    refine wl_stores (cs' := [.slice A n c0, .int .i64 fr, .int .i64 tt, .slice (some ⟨b3, o3, none⟩) D c3]) 0 rz54 rfl rfl rfl rfl rfl rfl rfl rfl ?_
    refine wl_nil ?_
    refine nx_then ?_
    refine gw_seq ?_
    refine gw_region ?_
    refine wl_ov (ov_assign rfl) rfl ?_
    refine wl_ov (ov_assign rfl) rfl ?_
    refine wl_nil ?_
    refine nx_then ?_
    refine gw_seq ?_
    refine gw_seq ?_
    refine gw_region ?_
    refine wl_ov (ov_move rfl) rfl ?_
    refine wl_ov (ov_len es32 rfl) rfl ?_
    refine wl_ov (ov_move rfl) rfl ?_
    refine wl_nil ?_
    refine nx_then ?_
    refine gw_block ?_
    refine gw_loop (γ := Nat × Nat × Int) (fun (g : Nat × Nat × Int) => g.1 ≤ n2 ∧ g.2.1 ≤ D ∧ (0 ≤ g.2.2 ∧ g.2.2 ≤ 24000000 * ((g.2.1 : Nat) : Int)) ∧ costG pr (seaB l c fr D) D 0 0 ps = costG pr (seaB l c fr D) D g.2.1 g.2.2 (ps.drop g.1)) (fun (g : Nat × Nat × Int) => [(11, .pointer (some ⟨g2, 0, none⟩)), (12, .int .i64 ((g.2.1 : Nat) : Int)), (13, .int .i64 g.2.2), (29, .slice A2 n2 c2), (30, .int .i64 ((n2 : Nat) : Int)), (31, .int .i64 ((g.1 : Nat) : Int))]) (fun (g : Nat × Nat × Int) => fun _ => True) (fun (g : Nat × Nat × Int) => [(g2, 54, [.slice A n c0, .int .i64 fr, .int .i64 tt, .slice (some ⟨b3, o3, none⟩) D c3])]) (fun (g : Nat × Nat × Int) => []) (fun (g : Nat × Nat × Int) => [fun wy => SlT itEnc 1 3 wy (some ⟨b3, o3, none⟩) D (seasons l c fr D), SlOld rtEnc 7 47 w.heap.size none A n l, SlOld pcEnc 3 58 w.heap.size none A2 n2 ps]) (fun (g : Nat × Nat × Int) => n2 - g.1) (0, 0, 0) ⟨Nat.zero_le _, Nat.zero_le _, ⟨by dsimp only; omega, by dsimp only; omega⟩, rfl⟩ ⟨rfl, rfl, rfl, rfl, rfl, rfl, trivial⟩ (fun _ hm => hm.pick [0] [] [0, 1, 2] rfl rfl) ?_
    rintro ⟨k, i, t⟩ hinv
    replace hinv : k ≤ n2 ∧ i ≤ D ∧ (0 ≤ t ∧ t ≤ 24000000 * ((i : Nat) : Int)) ∧ costG pr (seaB l c fr D) D 0 0 ps = costG pr (seaB l c fr D) D i t (ps.drop k) := hinv
    dsimp only
    refine gw_seq ?_
    refine gw_region ?_
    obtain ⟨hk0, hi0, ⟨ht0, ht1⟩, hcg⟩ := hinv
    refine wl_ov (ov_lss rfl rfl) rfl ?_
    refine wl_nil ?_
    refine nx_then ?_
    refine gw_seq ?_
    refine gw_cond rfl (fun hh => ?_) (fun hh => ?_)
    · have hk : ((k : Nat) : Int) < ((n2 : Nat) : Int) := by simpa using hh
      clear hh
      refine gw_skip ?_
      refine nx_then ?_
      refine gw_seq ?_
      refine gw_block ?_
      refine gw_seq ?_
      refine gw_region ?_
      obtain ⟨b2, o2, hA, _, _⟩ := hp.get (by omega)
      subst hA
      obtain ⟨x, hx⟩ : ∃ x, ps[k]? = some x := ⟨_, List.getElem?_eq_getElem (by omega)⟩
      obtain ⟨x0, x1, x2⟩ := x
      rw [drop_at hx] at hcg
      obtain ⟨hb1, hb2⟩ := hpb0 _ (List.mem_of_getElem? hx)
      dsimp only at hb1 hb2
      refine wl_ov (ov_index (j := k) es32 rfl rfl (by omega)) rfl ?_
      refine wl_ov (ov_elem (vs := [.int .i64 x0, .int .i64 x1, .int .i64 x2]) rz58 rfl (fun _ hm => (hm.fact 2 rfl).1) hx rfl rfl) rfl ?_
      refine wl_alloc zc58 rfl fun g3 => ?_
      refine wl_stores (cs' := [.int .i64 x0, .int .i64 x1, .int .i64 x2]) 0 rz58 rfl rfl rfl rfl rfl rfl rfl rfl ?_
      refine wl_nil ?_
      refine nx_then ?_
      refine gw_seq ?_
      refine gw_block ?_
      refine gw_seq ?_
      refine gw_region ?_
      refine wl_ov (ov_field fo58_0 rfl rfl) rfl ?_
      refine wl_ov (ov_load sc3 rfl (fun _ hm => hm.blkI 0 rfl) rfl) rfl ?_
      refine wl_callw rfl cb20 rfl rfl (fun wx hm => (in_any _ _ _ wx)) ?_
      refine wl_ov (ov_un_not rfl) rfl ?_
      refine wl_ov (ov_assign rfl) rfl ?_
      refine wl_nil ?_
      refine nx_then ?_
      refine gw_cond rfl (fun hh => ?_) (fun hh => ?_)
      · have hkd : (inB x0 1 4) = false := by simpa using hh
        clear hh
        refine gw_seq ?_
        refine gw_region ?_
        refine wl_ov (ov_assign rfl) rfl ?_
        refine wl_ov (ov_assign rfl) rfl ?_
        refine wl_nil ?_
        refine nx_then ?_
        refine gw_ret ?_
        refine nx_blk_ret ?_
        refine nx_then_ret ?_
        refine nx_blk_ret ?_
        refine nx_then_ret ?_
        refine nx_then_ret ?_
        refine nx_blk_ret ?_
        refine nx_then_ret ?_
        refine nx_ret2 rfl rfl rfl fun wx hm => ?_
        exact ⟨by rw [hcv, hcg, cg_kind hkd], hm.g⟩
      · have hkd : (inB x0 1 4) = true := by simpa using hh
        clear hh
        refine gw_seq ?_
        refine gw_region ?_
        by_cases hiD : i = D
        · have hsb : seaB l c fr D i = false := decide_eq_false (fun h => by omega)
          refine wl_ov (ov_move rfl) rfl ?_
          refine wl_ov (ov_field fo54_2 rfl rfl) rfl ?_
          refine wl_ov (ov_load sc22 rfl (fun _ hm => hm.blkI 1 rfl) rfl) rfl ?_
          refine wl_ov (ov_len es22 rfl) rfl ?_
          refine wl_ov (ov_eql rfl rfl) rfl ?_
          refine wl_set 45 (v' := .bool true) rfl (congrArg Value.bool (decide_eq_true (by omega))) ?_
          refine wl_ov (ov_move rfl) rfl ?_
          refine wl_guard_off rfl rfl rfl (by decide) rfl ?_
          refine wl_guard_off rfl rfl rfl (by decide) rfl ?_
          refine wl_guard_off rfl rfl rfl (by decide) rfl ?_
          refine wl_guard_off rfl rfl rfl (by decide) rfl ?_
          refine wl_guard_off rfl rfl rfl (by decide) rfl ?_
          refine wl_guard_off rfl rfl rfl (by decide) rfl ?_
          refine wl_ov (ov_pick_t rfl rfl) rfl ?_
          refine wl_ov (ov_assign rfl) rfl ?_
          refine wl_nil ?_
          refine nx_then ?_
          refine gw_cond rfl (fun _ => ?_) (fun hh => by cases hh)
          refine gw_seq ?_
          refine gw_region ?_
          refine wl_ov (ov_assign rfl) rfl ?_
          refine wl_ov (ov_assign rfl) rfl ?_
          refine wl_nil ?_
          refine nx_then ?_
          refine gw_ret ?_
          refine nx_blk_ret ?_
          refine nx_then_ret ?_
          refine nx_blk_ret ?_
          refine nx_then_ret ?_
          refine nx_then_ret ?_
          refine nx_blk_ret ?_
          refine nx_then_ret ?_
          refine nx_ret2 rfl rfl rfl fun wx hm => ?_
          exact ⟨by rw [hcv, hcg, cg_sea hkd hsb], hm.g⟩
        · have hiD2 : i < D := by omega
          obtain ⟨SV, hSV⟩ : ∃ v, v = seaV l c fr i := ⟨_, rfl⟩
          have hsg : (seasons l c fr D)[i]? = some SV := by rw [seasons_get hiD2, hSV]
          refine wl_ov (ov_move rfl) rfl ?_
          refine wl_ov (ov_field fo54_2 rfl rfl) rfl ?_
          refine wl_ov (ov_load sc22 rfl (fun _ hm => hm.blkI 1 rfl) rfl) rfl ?_
          refine wl_ov (ov_len es22 rfl) rfl ?_
          refine wl_ov (ov_eql rfl rfl) rfl ?_
          refine wl_set 45 (v' := .bool false) rfl (congrArg Value.bool (decide_eq_false (by omega))) ?_
          refine wl_ov (ov_move rfl) rfl ?_
          refine wl_guard_on rfl rfl rfl ?_
          refine wl_ov (ov_field fo54_2 rfl rfl) rfl ?_
          refine wl_guard_on rfl rfl rfl ?_
          refine wl_ov (ov_load sc22 rfl (fun _ hm => hm.blkI 1 rfl) rfl) rfl ?_
          refine wl_guard_on rfl rfl rfl ?_
          refine wl_ov (ov_move rfl) rfl ?_
          refine wl_guard_on rfl rfl rfl ?_
          refine wl_ov (ov_index (j := i) es22 rfl rfl (by omega)) rfl ?_
          refine wl_guard_on rfl rfl rfl ?_
          refine wl_ov (ov_elem1 (k := 0) (v := .int .i64 SV) sc3 rfl (fun _ hm => (hm.fact 0 rfl)) hsg rfl rfl) rfl ?_
          refine wl_guard_on rfl rfl rfl ?_
          refine wl_ov (ov_lss rfl rfl) rfl ?_
          refine wl_ov (ov_pick_f rfl rfl) rfl ?_
          refine wl_ov (ov_assign rfl) rfl ?_
          refine wl_nil ?_
          refine nx_then ?_
          refine gw_cond rfl (fun hh => ?_) (fun hh => ?_)
          · have hsv : SV < 0 := by simpa using hh
            clear hh
            refine gw_seq ?_
            refine gw_region ?_
            have hsb : seaB l c fr D i = false := decide_eq_false (fun h => by omega)
            refine wl_ov (ov_assign rfl) rfl ?_
            refine wl_ov (ov_assign rfl) rfl ?_
            refine wl_nil ?_
            refine nx_then ?_
            refine gw_ret ?_
            refine nx_blk_ret ?_
            refine nx_then_ret ?_
            refine nx_blk_ret ?_
            refine nx_then_ret ?_
            refine nx_then_ret ?_
            refine nx_blk_ret ?_
            refine nx_then_ret ?_
            refine nx_ret2 rfl rfl rfl fun wx hm => ?_
            exact ⟨by rw [hcv, hcg, cg_sea hkd hsb], hm.g⟩
          · have hsv : ¬ (SV < 0) := by simpa using hh
            clear hh
            refine gw_skip ?_
            refine nx_blk_nrm ?_
            refine nx_then ?_
            refine gw_seq ?_
            refine gw_region ?_
            have hsb : seaB l c fr D i = true := decide_eq_true ⟨hiD2, by omega⟩
            rcases hpo : pr x0 i x1 with _ | v
            · refine wl_ov (ov_loads rz54 rfl (fun _ hm => hm.blkI 1 rfl) rfl rfl) rfl ?_
              refine wl_ov (ov_field fo58_0 rfl rfl) rfl ?_
              refine wl_ov (ov_load sc3 rfl (fun _ hm => hm.blkI 0 rfl) rfl) rfl ?_
              refine wl_ov (ov_move rfl) rfl ?_
              refine wl_ov (ov_field fo58_1 rfl rfl) rfl ?_
              refine wl_ov (ov_load sc3 rfl (fun _ hm => hm.blkI 0 rfl) rfl) rfl ?_
              refine wl_callv (v := .tuple #[.int .i64 0, .bool false]) rfl cb21 rfl rfl (fun wx hm => (by have h := tprice_any l A n c0 fr tt (seasons l c fr D) (some ⟨b3, o3, none⟩) D c3 x0 i x1 wx (hm.fact 1 rfl).1 (hm.fact 0 rfl) hDc hD4 hiD2 (seasons_bound l c fr D) hro h0 (by omega) (by omega) htt (Int.le_of_lt (hto i hiD2)); rw [← hprD, hpo] at h; exact h)) ?_
              refine wl_ov (ov_move rfl) rfl ?_
              refine wl_ov (ov_extract rfl rfl) rfl ?_
              refine wl_ov (ov_extract rfl rfl) rfl ?_
              refine wl_ov (ov_assign rfl) rfl ?_
              refine wl_ov (ov_assign rfl) rfl ?_
              refine wl_nil ?_
              refine nx_then ?_
              refine gw_seq ?_
              refine gw_block ?_
              refine gw_seq ?_
              refine gw_region ?_
              refine wl_ov (ov_move rfl) rfl ?_
              refine wl_ov (ov_un_not rfl) rfl ?_
              refine wl_set 66 (v' := .bool true) rfl (congrArg Value.bool (by decide)) ?_
              refine wl_ov (ov_assign rfl) rfl ?_
              refine wl_nil ?_
              refine nx_then ?_
              refine gw_cond rfl (fun _ => ?_) (fun hh => by cases hh)
              refine gw_seq ?_
              refine gw_region ?_
              refine wl_ov (ov_assign rfl) rfl ?_
              refine wl_ov (ov_assign rfl) rfl ?_
              refine wl_nil ?_
              refine nx_then ?_
              refine gw_ret ?_
              refine nx_blk_ret ?_
              refine nx_then_ret ?_
              refine nx_blk_ret ?_
              refine nx_then_ret ?_
              refine nx_then_ret ?_
              refine nx_blk_ret ?_
              refine nx_then_ret ?_
              refine nx_ret2 rfl rfl rfl fun wx hm => ?_
              exact ⟨by rw [hcv, hcg, cg_none hkd hsb hpo], hm.g⟩
            · refine wl_ov (ov_loads rz54 rfl (fun _ hm => hm.blkI 1 rfl) rfl rfl) rfl ?_
              refine wl_ov (ov_field fo58_0 rfl rfl) rfl ?_
              refine wl_ov (ov_load sc3 rfl (fun _ hm => hm.blkI 0 rfl) rfl) rfl ?_
              refine wl_ov (ov_move rfl) rfl ?_
              refine wl_ov (ov_field fo58_1 rfl rfl) rfl ?_
              refine wl_ov (ov_load sc3 rfl (fun _ hm => hm.blkI 0 rfl) rfl) rfl ?_
              refine wl_callv (v := .tuple #[.int .i64 v, .bool true]) rfl cb21 rfl rfl (fun wx hm => (by have h := tprice_any l A n c0 fr tt (seasons l c fr D) (some ⟨b3, o3, none⟩) D c3 x0 i x1 wx (hm.fact 1 rfl).1 (hm.fact 0 rfl) hDc hD4 hiD2 (seasons_bound l c fr D) hro h0 (by omega) (by omega) htt (Int.le_of_lt (hto i hiD2)); rw [← hprD, hpo] at h; exact h)) ?_
              have hvb := hpb _ _ _ _ hpo
              have hvf := hfit _ _ _ _ hpo
              have hvb0 := hvb.1
              have hvb1 := hvb.2
              refine wl_ov (ov_move rfl) rfl ?_
              refine wl_ov (ov_extract rfl rfl) rfl ?_
              refine wl_ov (ov_extract rfl rfl) rfl ?_
              refine wl_ov (ov_assign rfl) rfl ?_
              refine wl_ov (ov_assign rfl) rfl ?_
              refine wl_nil ?_
              refine nx_then ?_
              refine gw_seq ?_
              refine gw_block ?_
              refine gw_seq ?_
              refine gw_region ?_
              refine wl_ov (ov_move rfl) rfl ?_
              refine wl_ov (ov_un_not rfl) rfl ?_
              refine wl_set 66 (v' := .bool false) rfl (congrArg Value.bool (by decide)) ?_
              refine wl_ov (ov_assign rfl) rfl ?_
              refine wl_nil ?_
              refine nx_then ?_
              refine gw_cond rfl (fun hh => by cases hh) (fun _ => ?_)
              refine gw_seq ?_
              refine gw_region ?_
              refine wl_ov (ov_move rfl) rfl ?_
              refine wl_ov (ov_field fo58_2 rfl rfl) rfl ?_
              refine wl_ov (ov_load sc3 rfl (fun _ hm => hm.blkI 0 rfl) rfl) rfl ?_
              refine wl_ov (ov_neq rfl rfl) rfl ?_
              refine wl_ov (ov_assign rfl) rfl ?_
              refine wl_nil ?_
              refine nx_then ?_
              refine gw_cond rfl (fun hh => ?_) (fun hh => ?_)
              · have hcs : ¬ (v = x2) := by simpa using hh
                clear hh
                refine gw_seq ?_
                refine gw_region ?_
                refine wl_ov (ov_assign rfl) rfl ?_
                refine wl_ov (ov_assign rfl) rfl ?_
                refine wl_nil ?_
                refine nx_then ?_
                refine gw_ret ?_
                refine nx_blk_ret ?_
                refine nx_then_ret ?_
                refine nx_blk_ret ?_
                refine nx_then_ret ?_
                refine nx_then_ret ?_
                refine nx_blk_ret ?_
                refine nx_then_ret ?_
                refine nx_ret2 rfl rfl rfl fun wx hm => ?_
                exact ⟨by rw [hcv, hcg, cg_sum hkd hsb hpo hcs], hm.g⟩
              · have hcs : v = x2 := by simpa using hh
                clear hh
                refine gw_skip ?_
                refine nx_blk_nrm ?_
                refine nx_then ?_
                refine gw_seq ?_
                refine gw_region ?_
                have hcs : v = x2 := by simpa using hcs
                refine wl_ov (ov_move rfl) rfl ?_
                refine wl_ov (ov_move rfl) rfl ?_
                refine wl_ov (ov_add rfl rfl (by omega) (by omega)) rfl ?_
                refine wl_ov (ov_assign rfl) rfl ?_
                refine wl_nil ?_
                refine nx_then ?_
                refine gw_region ?_
                refine wl_ov (ov_move rfl) rfl ?_
                refine wl_ov (ov_field fo58_1 rfl rfl) rfl ?_
                refine wl_ov (ov_load sc3 rfl (fun _ hm => hm.blkI 0 rfl) rfl) rfl ?_
                refine wl_ov (ov_add rfl rfl (by omega) (by omega)) rfl ?_
                refine wl_ov (ov_assign rfl) rfl ?_
                refine wl_nil ?_
                refine nx_blk_nrm ?_
                refine nx_then ?_
                refine gw_region ?_
                refine wl_ov (ov_add rfl rfl (by omega) (by omega)) rfl ?_
                refine wl_ov (ov_move rfl) rfl ?_
                refine wl_nil ?_
                exact nx_round (k + 1, i + x1.toNat, t + v) ⟨by dsimp only; omega, by dsimp only; omega, ⟨by dsimp only; omega, by dsimp only; omega⟩, by rw [hcg, cg_next hkd hsb hpo hcs]⟩ (by dsimp only; omega) ⟨rfl, (some_int (by dsimp only; omega)), rfl, rfl, rfl, (some_int (by omega)), trivial⟩ (fun _ hm => hm.pick [1] [] [0, 1, 2] rfl rfl)
    · have hk : ¬ (((k : Nat) : Int) < ((n2 : Nat) : Int)) := by simpa using hh
      clear hh
      refine gw_exit ?_
      refine nx_then_exit ?_
      refine nx_then_exit ?_
      refine nx_blk_here ?_
      refine nx_then ?_
      refine gw_seq ?_
      refine gw_seq ?_
      refine gw_region ?_
      rw [List.drop_eq_nil_of_le (by omega)] at hcg
      refine wl_ov (ov_move rfl) rfl ?_
      refine wl_ov (ov_field fo54_2 rfl rfl) rfl ?_
      refine wl_ov (ov_load sc22 rfl (fun _ hm => hm.blkI 0 rfl) rfl) rfl ?_
      refine wl_ov (ov_len es22 rfl) rfl ?_
      refine wl_ov (ov_lss rfl rfl) rfl ?_
      refine wl_nil ?_
      refine nx_then ?_
      refine gw_cond rfl (fun hh => ?_) (fun hh => ?_)
      · have hi9 : ((i : Nat) : Int) < ((D : Nat) : Int) := by simpa using hh
        clear hh
        refine gw_seq ?_
        refine gw_region ?_
        refine wl_ov (ov_assign rfl) rfl ?_
        refine wl_ov (ov_assign rfl) rfl ?_
        refine wl_nil ?_
        refine nx_then ?_
        refine gw_ret ?_
        refine nx_then_ret ?_
        refine nx_ret2 rfl rfl rfl fun wx hm => ?_
        exact ⟨by rw [hcv, hcg, cg_short (by omega)], hm.g⟩
      · have hi9 : ¬ (((i : Nat) : Int) < ((D : Nat) : Int)) := by simpa using hh
        clear hh
        refine gw_skip ?_
        refine nx_then ?_
        refine gw_seq ?_
        refine gw_region ?_
        refine wl_ov (ov_move rfl) rfl ?_
        refine wl_ov (ov_assign rfl) rfl ?_
        refine wl_ov (ov_assign rfl) rfl ?_
        refine wl_nil ?_
        refine nx_then ?_
        refine gw_ret ?_
        refine nx_ret2 rfl rfl rfl fun wx hm => ?_
        exact ⟨by rw [hcv, hcg, cg_end (by omega)], hm.g⟩

theorem pb_snoc {l : List Pc} {x : Pc} (h : ∀ y ∈ l, PcB y) (hx : PcB x) : ∀ y ∈ l ++ [x], PcB y := fun y hy => by
  rcases List.mem_append.1 hy with hy | hy
  · exact h y hy
  · rw [List.mem_singleton.1 hy]; exact hx
theorem pb_set {l : List Pc} {x : Pc} {j : Nat} (h : ∀ y ∈ l, PcB y) (hx : PcB x) : ∀ y ∈ l.set j x, PcB y := fun y hy => by
  rcases List.mem_or_eq_of_mem_set hy with hy | rfl
  · exact h y hy
  · exact hx
theorem ref_small {l : List Rt} {c : ByteArray} {fr tt : Int} {ok : Bool} {ps : List Pc} (ht : timeE fr tt = 0) (h : RefIs l c fr tt ok ps) : (∀ p ∈ ps, PcB p) ∧ ps.length ≤ 120 := by
  rcases h with ⟨_, h⟩ | ⟨_, h, _⟩
  · have h1 := timeE_days ht
    have h2 := chain_le h.1
    refine ⟨fun p hp => ?_, by unfold daysN at h2; omega⟩
    have h3 := chain_small h.1 p hp
    exact ⟨by have := h3.2.1; omega, by have := h3.2.2; omega⟩
  · rw [h]; exact ⟨fun _ h => (by cases h), by simp⟩

end Go.Proofs.Ytcggbojhalbkjaa
