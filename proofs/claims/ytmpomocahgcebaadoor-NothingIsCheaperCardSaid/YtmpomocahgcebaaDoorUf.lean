/- The cost of a division; the walk of the law DivisionsCost. -/
import Derived.Test.YtmpomocahgcebaaDoorUd
namespace Go.Proofs.YtmpomocahgcebaaDoor
open Go.RowKit

/-- The value and the error of Cost. -/
def costG (pr : Int → Nat → Int → Option Int) (sb : Nat → Bool) (n : Nat) : Nat → Int → List Pc → Int × Int
  | i, t, [] => if i < n then (0, 16) else (t, 0)
  | i, t, p :: r => if inB p.kind 1 4 = false then (0, 4) else if sb i = false then (0, 8) else
    match pr p.kind i p.days with
    | none => (0, 16)
    | some v => if v = p.cents then costG pr sb n (i + p.days.toNat) (t + v) r else (0, 15)
def PcB (p : Pc) : Prop := -1000000 ≤ p.days ∧ p.days ≤ 1000000
theorem drop_at {α : Type} {l : List α} {k : Nat} {x : α} (h : l[k]? = some x) : l.drop k = x :: l.drop (k + 1) := by
  obtain ⟨hk, rfl⟩ := List.getElem?_eq_some_iff.1 h
  exact List.drop_eq_getElem_cons hk
section
variable {pr : Int → Nat → Int → Option Int} {sb : Nat → Bool} {n i : Nat} {t v : Int} {p : Pc} {r : List Pc}
theorem cg_end (h : ¬ i < n) : costG pr sb n i t [] = (t, 0) := by unfold costG; rw [if_neg h]
theorem cg_short (h : i < n) : costG pr sb n i t [] = (0, 16) := by unfold costG; rw [if_pos h]
theorem cg_kind (h : inB p.kind 1 4 = false) : costG pr sb n i t (p :: r) = (0, 4) := by unfold costG; rw [if_pos h]
theorem cg_sea (h : inB p.kind 1 4 = true) (h2 : sb i = false) : costG pr sb n i t (p :: r) = (0, 8) := by unfold costG; rw [if_neg (by rw [h]; decide), if_pos h2]
theorem cg_none (h : inB p.kind 1 4 = true) (h2 : sb i = true) (h3 : pr p.kind i p.days = none) : costG pr sb n i t (p :: r) = (0, 16) := by unfold costG; rw [if_neg (by rw [h]; decide), if_neg (by rw [h2]; decide), h3]
theorem cg_sum (h : inB p.kind 1 4 = true) (h2 : sb i = true) (h3 : pr p.kind i p.days = some v) (h4 : ¬ v = p.cents) : costG pr sb n i t (p :: r) = (0, 15) := by unfold costG; rw [if_neg (by rw [h]; decide), if_neg (by rw [h2]; decide), h3]; dsimp only; rw [if_neg h4]
theorem cg_next (h : inB p.kind 1 4 = true) (h2 : sb i = true) (h3 : pr p.kind i p.days = some v) (h4 : v = p.cents) : costG pr sb n i t (p :: r) = costG pr sb n (i + p.days.toNat) (t + v) r := by
  rw [costG, if_neg (by rw [h]; decide), if_neg (by rw [h2]; decide), h3]; dsimp only; rw [if_pos h4]
end
/-- Cost: the error of the hire, or the cost. -/
def costV (l : List Rt) (c : ByteArray) (fr tt : Int) (ps : List Pc) : Int × Int := if chkE l c fr tt = 0 then costG (prH l c fr tt) (seaB l c fr (daysN fr tt)) (daysN fr tt) 0 0 ps else (0, chkE l c fr tt)

set_option maxRecDepth 100000 in
set_option maxHeartbeats 2000000 in
theorem tCost_any (l : List Rt) (A : Option Addr) (n c0 : Nat) (c : ByteArray) (fr tt : Int) (ps : List Pc) (A2 : Option Addr) (n2 c2 : Nat) (w : World) (hl : SlT rtEnc 7 61 w A n l) (hok : ∀ b ∈ l, RtOk b) (hn : n ≤ 1000000) (hc : c.size ≤ 1000000) (hp : SlT pcEnc 3 79 w A2 n2 ps) (hn2 : n2 ≤ 1000000) (hpb0 : ∀ p ∈ ps, PcB p) :
    Calls Tryd.prog 48 #[.slice A n c0, .string c, .agg #[.int .i64 fr, .int .i64 tt], .slice A2 n2 c2] w (fun e w' => e = .returned (.tuple #[.int .i64 (costV l c fr tt ps).1, .int .i64 (costV l c fr tt ps).2]) ∧ w.grownBy w' none) := by
  refine gw_enter ⟨86, w, none, [3]⟩ Tryd.func48 rfl Tryd.ntmps48 rfl (mem0 (X := [SlOld rtEnc 7 61 w.heap.size none A n l, SlOld pcEnc 3 79 w.heap.size none A2 n2 ps]) (allF_cons hl.old (allF_cons hp.old allF_nil)) (allL_cons SlOld.lasts (allL_cons SlOld.lasts allL_nil))) ?_
  refine gw_seq ?_
  refine gw_region ?_
  have hpl := hp.len
  obtain ⟨CE, hCE⟩ : ∃ E, E = chkE l c fr tt := ⟨_, rfl⟩
  refine wl_box rfl rfl rfl fun g1 => ?_
  refine wl_ov (ov_assign rfl) rfl ?_
  refine wl_ov (ov_assign rfl) rfl ?_
  refine wl_nil ?_
  refine nx_then ?_
  refine gw_seq ?_
  refine gw_seq ?_
  refine gw_region ?_
  refine wl_ov (ov_move rfl) rfl ?_
  refine wl_ov (ov_move rfl) rfl ?_
  refine wl_ov (ov_loads rz56 rfl (fun _ hm => hm.blkI 0 rfl) rfl rfl) rfl ?_
  refine wl_callv (v := .int .i64 CE) rfl cb111 rfl rfl (fun wx hm => (by rw [hCE]; exact checkHire_any l A n c0 c fr tt wx (hm.fact 0 rfl).1 hok hn hc)) ?_
  refine wl_ov (ov_assign rfl) rfl ?_
  refine wl_nil ?_
  refine nx_then ?_
  refine gw_seq ?_
  refine gw_region ?_
  refine wl_ov (ov_move rfl) rfl ?_
  refine wl_ov (ov_neq rfl rfl) rfl ?_
  refine wl_nil ?_
  refine nx_then ?_
  refine gw_cond rfl (fun hh => ?_) (fun hh => ?_)
  · have h1 : ¬ (CE = 0) := by simpa using hh
    clear hh
    refine gw_seq ?_
    refine gw_region ?_
    refine wl_ov (ov_move rfl) rfl ?_
    refine wl_ov (ov_assign rfl) rfl ?_
    refine wl_ov (ov_assign rfl) rfl ?_
    refine wl_nil ?_
    refine nx_then ?_
    refine gw_ret ?_
    refine nx_then_ret ?_
    refine nx_ret2 rfl rfl rfl fun wx hm => ?_
    refine ⟨?_, hm.g⟩
    unfold costV
    rw [← hCE, if_neg h1]
  · have h1 : CE = 0 := by simpa using hh
    clear hh
    refine gw_skip ?_
    refine nx_then ?_
    refine gw_seq ?_
    refine gw_region ?_
    obtain ⟨hr0, hkc, ht⟩ := chkE_ok (hCE.symm.trans h1)
    obtain ⟨h0, hlt, htt, _⟩ := timeE_ok ht
    have hpos := rt_pos hr0
    have hro := rate_ok hr0
    have hD1 := timeE_days ht
    obtain ⟨D, hD⟩ : ∃ D, D = daysN fr tt := ⟨_, rfl⟩
    have hDv : daysV fr tt = ((D : Nat) : Int) := by rw [hD]; unfold daysN; omega
    have hD2 : 1 ≤ D ∧ D ≤ 120 := by omega
    have hD3 := hD2.1
    have hD4 := hD2.2
    have hto : ∀ j, j < D → begV fr j < tt := fun j hj => by unfold daysV at hDv; unfold begV; omega
    obtain ⟨pr, hpr⟩ : ∃ p, p = prH l c fr tt := ⟨_, rfl⟩
    have hprD : pr = priceO l (seasons l c fr D) fr tt := by rw [hpr, hD]; rfl
    have hpb : ∀ k i m c, pr k i m = some c → 0 ≤ c ∧ c ≤ 24000000 := by rw [hprD]; exact price_all hro (fun i hi => by rw [seasons_len] at hi; exact Int.le_of_lt (hto i hi))
    have hfit : ∀ k i m v, pr k i m = some v → 1 ≤ m ∧ (i : Int) + m ≤ ((D : Nat) : Int) := fun k i m v h => by
      have h2 := price_some (by rw [← hprD]; exact h)
      rw [seasons_len] at h2
      exact ⟨h2.1, h2.2.1⟩
    have hcv : costV l c fr tt ps = costG pr (seaB l c fr D) D 0 0 ps := by unfold costV; rw [← hCE, if_pos h1, ← hpr, ← hD]
    refine wl_ov (ov_move rfl) rfl ?_
    refine wl_ov (ov_move rfl) rfl ?_
    refine wl_ov (ov_loads rz56 rfl (fun _ hm => hm.blkI 0 rfl) rfl rfl) rfl ?_
    refine wl_callx (γ := Option Addr × Nat) (val := (fun (g : Option Addr × Nat) => .agg #[.slice A n c0, .int .i64 fr, .int .i64 tt, .slice g.1 D g.2])) (φ := (fun (g : Option Addr × Nat) => D ≤ g.2)) (Y := (fun (g : Option Addr × Nat) => fun wy => SlT itEnc 1 3 wy g.1 D (seasons l c fr D))) rfl cb112 rfl rfl (fun wx hm => (by have h := trent_any l A n c0 c fr tt wx (hm.fact 0 rfl).1 hn hpos ht; rw [show (daysV fr tt).toNat = D by omega] at h; exact h.mono fun _ _ ⟨A2, c2, he, hg, hs, hc⟩ => ⟨(A2, c2), he, hc, hg, hs⟩)) (fun _ => SlT.lasts2 rfl) ?_
    rintro ⟨A3, c3⟩ hDc
    dsimp only at hDc ⊢
    refine wl_look (R := ∃ b3 o3, A3 = some ⟨b3, o3, none⟩) (fun wx hm => by obtain ⟨b3, o3, h, _, _⟩ := SlT.get (hm.fact 0 rfl) (by omega); exact ⟨b3, o3, h⟩) ?_
    rintro ⟨b3, o3, rfl⟩
    refine wl_alloc zc164 rfl fun g2 => ?_
    refine wl_stores (cs' := [.slice A n c0, .int .i64 fr, .int .i64 tt, .slice (some ⟨b3, o3, none⟩) D c3]) 0 rz164 rfl rfl rfl rfl rfl rfl rfl rfl ?_
    refine wl_nil ?_
    refine nx_then ?_
    refine gw_seq ?_
    refine gw_region ?_
    refine wl_ov (ov_assign rfl) rfl ?_
    refine wl_ov (ov_assign rfl) rfl ?_
    refine wl_nil ?_
    refine nx_then ?_
    refine gw_seq ?_
    refine gw_seq ?_
    refine gw_region ?_
    refine wl_ov (ov_move rfl) rfl ?_
    refine wl_ov (ov_len es72 rfl) rfl ?_
    refine wl_ov (ov_move rfl) rfl ?_
    refine wl_nil ?_
    refine nx_then ?_
    refine gw_block ?_
    refine gw_loop (γ := Nat × Nat × Int) (fun (g : Nat × Nat × Int) => g.1 ≤ n2 ∧ g.2.1 ≤ D ∧ (0 ≤ g.2.2 ∧ g.2.2 ≤ 24000000 * ((g.2.1 : Nat) : Int)) ∧ costG pr (seaB l c fr D) D 0 0 ps = costG pr (seaB l c fr D) D g.2.1 g.2.2 (ps.drop g.1)) (fun (g : Nat × Nat × Int) => [(11, .pointer (some ⟨g2, 0, none⟩)), (12, .int .i64 ((g.2.1 : Nat) : Int)), (13, .int .i64 g.2.2), (29, .slice A2 n2 c2), (30, .int .i64 ((n2 : Nat) : Int)), (31, .int .i64 ((g.1 : Nat) : Int))]) (fun (g : Nat × Nat × Int) => fun _ => True) (fun (g : Nat × Nat × Int) => [(g2, 164, [.slice A n c0, .int .i64 fr, .int .i64 tt, .slice (some ⟨b3, o3, none⟩) D c3])]) (fun (g : Nat × Nat × Int) => []) (fun (g : Nat × Nat × Int) => [fun wy => SlT itEnc 1 3 wy (some ⟨b3, o3, none⟩) D (seasons l c fr D), SlOld rtEnc 7 61 w.heap.size none A n l, SlOld pcEnc 3 79 w.heap.size none A2 n2 ps]) (fun (g : Nat × Nat × Int) => n2 - g.1) (0, 0, 0) ⟨Nat.zero_le _, Nat.zero_le _, ⟨by dsimp only; omega, by dsimp only; omega⟩, rfl⟩ ⟨rfl, rfl, rfl, rfl, rfl, rfl, trivial⟩ (fun _ hm => hm.pick [0] [] [0, 1, 2] rfl rfl) ?_
    rintro ⟨k, i, t⟩ hinv
    replace hinv : k ≤ n2 ∧ i ≤ D ∧ (0 ≤ t ∧ t ≤ 24000000 * ((i : Nat) : Int)) ∧ costG pr (seaB l c fr D) D 0 0 ps = costG pr (seaB l c fr D) D i t (ps.drop k) := hinv
    dsimp only
    refine gw_seq ?_
    refine gw_region ?_
    obtain ⟨hk0, hi0, ⟨ht0, ht1⟩, hcg⟩ := hinv
    refine wl_ov (ov_lss rfl rfl) rfl ?_
    refine wl_nil ?_
    refine nx_then ?_
    refine gw_seq ?_
    refine gw_cond rfl (fun hh => ?_) (fun hh => ?_)
    · have hk : ((k : Nat) : Int) < ((n2 : Nat) : Int) := by simpa using hh
      clear hh
      refine gw_skip ?_
      refine nx_then ?_
      refine gw_seq ?_
      refine gw_block ?_
      refine gw_seq ?_
      refine gw_region ?_
      obtain ⟨b2, o2, hA, _, _⟩ := hp.get (by omega)
      subst hA
      obtain ⟨x, hx⟩ : ∃ x, ps[k]? = some x := ⟨_, List.getElem?_eq_getElem (by omega)⟩
      obtain ⟨x0, x1, x2⟩ := x
      rw [drop_at hx] at hcg
      obtain ⟨hb1, hb2⟩ := hpb0 _ (List.mem_of_getElem? hx)
      dsimp only at hb1 hb2
      refine wl_ov (ov_index (j := k) es72 rfl rfl (by omega)) rfl ?_
      refine wl_ov (ov_elem (vs := [.int .i64 x0, .int .i64 x1, .int .i64 x2]) rz79 rfl (fun _ hm => (hm.fact 2 rfl).1) hx rfl rfl) rfl ?_
      refine wl_alloc zc79 rfl fun g3 => ?_
      refine wl_stores (cs' := [.int .i64 x0, .int .i64 x1, .int .i64 x2]) 0 rz79 rfl rfl rfl rfl rfl rfl rfl rfl ?_
      refine wl_nil ?_
      refine nx_then ?_
      refine gw_seq ?_
      refine gw_block ?_
      refine gw_seq ?_
      refine gw_region ?_
      refine wl_ov (ov_field fo79_0 rfl rfl) rfl ?_
      refine wl_ov (ov_load sc3 rfl (fun _ hm => hm.blkI 0 rfl) rfl) rfl ?_
      refine wl_callw rfl cb99 rfl rfl (fun wx hm => (in_any _ _ _ wx)) ?_
      refine wl_ov (ov_un_not rfl) rfl ?_
      refine wl_ov (ov_assign rfl) rfl ?_
      refine wl_nil ?_
      refine nx_then ?_
      refine gw_cond rfl (fun hh => ?_) (fun hh => ?_)
      · have hkd : (inB x0 1 4) = false := by simpa using hh
        clear hh
        refine gw_seq ?_
        refine gw_region ?_
        refine wl_ov (ov_assign rfl) rfl ?_
        refine wl_ov (ov_assign rfl) rfl ?_
        refine wl_nil ?_
        refine nx_then ?_
        refine gw_ret ?_
        refine nx_blk_ret ?_
        refine nx_then_ret ?_
        refine nx_blk_ret ?_
        refine nx_then_ret ?_
        refine nx_then_ret ?_
        refine nx_blk_ret ?_
        refine nx_then_ret ?_
        refine nx_ret2 rfl rfl rfl fun wx hm => ?_
        exact ⟨by rw [hcv, hcg, cg_kind hkd], hm.g⟩
      · have hkd : (inB x0 1 4) = true := by simpa using hh
        clear hh
        refine gw_seq ?_
        refine gw_region ?_
        by_cases hiD : i = D
        · have hsb : seaB l c fr D i = false := decide_eq_false (fun h => by omega)
          refine wl_ov (ov_move rfl) rfl ?_
          refine wl_ov (ov_field fo164_2 rfl rfl) rfl ?_
          refine wl_ov (ov_load sc22 rfl (fun _ hm => hm.blkI 1 rfl) rfl) rfl ?_
          refine wl_ov (ov_len es22 rfl) rfl ?_
          refine wl_ov (ov_eql rfl rfl) rfl ?_
          refine wl_set 45 (v' := .bool true) rfl (congrArg Value.bool (decide_eq_true (by omega))) ?_
          refine wl_ov (ov_move rfl) rfl ?_
          refine wl_guard_off rfl rfl rfl (by decide) rfl ?_
          refine wl_guard_off rfl rfl rfl (by decide) rfl ?_
          refine wl_guard_off rfl rfl rfl (by decide) rfl ?_
          refine wl_guard_off rfl rfl rfl (by decide) rfl ?_
          refine wl_guard_off rfl rfl rfl (by decide) rfl ?_
          refine wl_guard_off rfl rfl rfl (by decide) rfl ?_
          refine wl_ov (ov_pick_t rfl rfl) rfl ?_
          refine wl_ov (ov_assign rfl) rfl ?_
          refine wl_nil ?_
          refine nx_then ?_
          refine gw_cond rfl (fun _ => ?_) (fun hh => by cases hh)
          refine gw_seq ?_
          refine gw_region ?_
          refine wl_ov (ov_assign rfl) rfl ?_
          refine wl_ov (ov_assign rfl) rfl ?_
          refine wl_nil ?_
          refine nx_then ?_
          refine gw_ret ?_
          refine nx_blk_ret ?_
          refine nx_then_ret ?_
          refine nx_blk_ret ?_
          refine nx_then_ret ?_
          refine nx_then_ret ?_
          refine nx_blk_ret ?_
          refine nx_then_ret ?_
          refine nx_ret2 rfl rfl rfl fun wx hm => ?_
          exact ⟨by rw [hcv, hcg, cg_sea hkd hsb], hm.g⟩
        · have hiD2 : i < D := by omega
          obtain ⟨SV, hSV⟩ : ∃ v, v = seaV l c fr i := ⟨_, rfl⟩
          have hsg : (seasons l c fr D)[i]? = some SV := by rw [seasons_get hiD2, hSV]
          refine wl_ov (ov_move rfl) rfl ?_
          refine wl_ov (ov_field fo164_2 rfl rfl) rfl ?_
          refine wl_ov (ov_load sc22 rfl (fun _ hm => hm.blkI 1 rfl) rfl) rfl ?_
          refine wl_ov (ov_len es22 rfl) rfl ?_
          refine wl_ov (ov_eql rfl rfl) rfl ?_
          refine wl_set 45 (v' := .bool false) rfl (congrArg Value.bool (decide_eq_false (by omega))) ?_
          refine wl_ov (ov_move rfl) rfl ?_
          refine wl_guard_on rfl rfl rfl ?_
          refine wl_ov (ov_field fo164_2 rfl rfl) rfl ?_
          refine wl_guard_on rfl rfl rfl ?_
          refine wl_ov (ov_load sc22 rfl (fun _ hm => hm.blkI 1 rfl) rfl) rfl ?_
          refine wl_guard_on rfl rfl rfl ?_
          refine wl_ov (ov_move rfl) rfl ?_
          refine wl_guard_on rfl rfl rfl ?_
          refine wl_ov (ov_index (j := i) es22 rfl rfl (by omega)) rfl ?_
          refine wl_guard_on rfl rfl rfl ?_
          refine wl_ov (ov_elem1 (k := 0) (v := .int .i64 SV) sc3 rfl (fun _ hm => (hm.fact 0 rfl)) hsg rfl rfl) rfl ?_
          refine wl_guard_on rfl rfl rfl ?_
          refine wl_ov (ov_lss rfl rfl) rfl ?_
          refine wl_ov (ov_pick_f rfl rfl) rfl ?_
          refine wl_ov (ov_assign rfl) rfl ?_
          refine wl_nil ?_
          refine nx_then ?_
          refine gw_cond rfl (fun hh => ?_) (fun hh => ?_)
          · have hsv : SV < 0 := by simpa using hh
            clear hh
            refine gw_seq ?_
            refine gw_region ?_
            have hsb : seaB l c fr D i = false := decide_eq_false (fun h => by omega)
            refine wl_ov (ov_assign rfl) rfl ?_
            refine wl_ov (ov_assign rfl) rfl ?_
            refine wl_nil ?_
            refine nx_then ?_
            refine gw_ret ?_
            refine nx_blk_ret ?_
            refine nx_then_ret ?_
            refine nx_blk_ret ?_
            refine nx_then_ret ?_
            refine nx_then_ret ?_
            refine nx_blk_ret ?_
            refine nx_then_ret ?_
            refine nx_ret2 rfl rfl rfl fun wx hm => ?_
            exact ⟨by rw [hcv, hcg, cg_sea hkd hsb], hm.g⟩
          · have hsv : ¬ (SV < 0) := by simpa using hh
            clear hh
            refine gw_skip ?_
            refine nx_blk_nrm ?_
            refine nx_then ?_
            refine gw_seq ?_
            refine gw_region ?_
            have hsb : seaB l c fr D i = true := decide_eq_true ⟨hiD2, by omega⟩
            rcases hpo : pr x0 i x1 with _ | v
            · refine wl_ov (ov_loads rz164 rfl (fun _ hm => hm.blkI 1 rfl) rfl rfl) rfl ?_
              refine wl_ov (ov_field fo79_0 rfl rfl) rfl ?_
              refine wl_ov (ov_load sc3 rfl (fun _ hm => hm.blkI 0 rfl) rfl) rfl ?_
              refine wl_ov (ov_move rfl) rfl ?_
              refine wl_ov (ov_field fo79_1 rfl rfl) rfl ?_
              refine wl_ov (ov_load sc3 rfl (fun _ hm => hm.blkI 0 rfl) rfl) rfl ?_
              refine wl_callv (v := .tuple #[.int .i64 0, .bool false]) rfl cb118 rfl rfl (fun wx hm => (by have h := tprice_any l A n c0 fr tt (seasons l c fr D) (some ⟨b3, o3, none⟩) D c3 x0 i x1 wx (hm.fact 1 rfl).1 (hm.fact 0 rfl) hDc hD4 hiD2 (seasons_bound l c fr D) hro h0 (by omega) (by omega) htt (Int.le_of_lt (hto i hiD2)); rw [← hprD, hpo] at h; exact h)) ?_
              refine wl_ov (ov_move rfl) rfl ?_
              refine wl_ov (ov_extract rfl rfl) rfl ?_
              refine wl_ov (ov_extract rfl rfl) rfl ?_
              refine wl_ov (ov_assign rfl) rfl ?_
              refine wl_ov (ov_assign rfl) rfl ?_
              refine wl_nil ?_
              refine nx_then ?_
              refine gw_seq ?_
              refine gw_block ?_
              refine gw_seq ?_
              refine gw_region ?_
              refine wl_ov (ov_move rfl) rfl ?_
              refine wl_ov (ov_un_not rfl) rfl ?_
              refine wl_set 66 (v' := .bool true) rfl (congrArg Value.bool (by decide)) ?_
              refine wl_ov (ov_assign rfl) rfl ?_
              refine wl_nil ?_
              refine nx_then ?_
              refine gw_cond rfl (fun _ => ?_) (fun hh => by cases hh)
              refine gw_seq ?_
              refine gw_region ?_
              refine wl_ov (ov_assign rfl) rfl ?_
              refine wl_ov (ov_assign rfl) rfl ?_
              refine wl_nil ?_
              refine nx_then ?_
              refine gw_ret ?_
              refine nx_blk_ret ?_
              refine nx_then_ret ?_
              refine nx_blk_ret ?_
              refine nx_then_ret ?_
              refine nx_then_ret ?_
              refine nx_blk_ret ?_
              refine nx_then_ret ?_
              refine nx_ret2 rfl rfl rfl fun wx hm => ?_
              exact ⟨by rw [hcv, hcg, cg_none hkd hsb hpo], hm.g⟩
            · refine wl_ov (ov_loads rz164 rfl (fun _ hm => hm.blkI 1 rfl) rfl rfl) rfl ?_
              refine wl_ov (ov_field fo79_0 rfl rfl) rfl ?_
              refine wl_ov (ov_load sc3 rfl (fun _ hm => hm.blkI 0 rfl) rfl) rfl ?_
              refine wl_ov (ov_move rfl) rfl ?_
              refine wl_ov (ov_field fo79_1 rfl rfl) rfl ?_
              refine wl_ov (ov_load sc3 rfl (fun _ hm => hm.blkI 0 rfl) rfl) rfl ?_
              refine wl_callv (v := .tuple #[.int .i64 v, .bool true]) rfl cb118 rfl rfl (fun wx hm => (by have h := tprice_any l A n c0 fr tt (seasons l c fr D) (some ⟨b3, o3, none⟩) D c3 x0 i x1 wx (hm.fact 1 rfl).1 (hm.fact 0 rfl) hDc hD4 hiD2 (seasons_bound l c fr D) hro h0 (by omega) (by omega) htt (Int.le_of_lt (hto i hiD2)); rw [← hprD, hpo] at h; exact h)) ?_
              have hvb := hpb _ _ _ _ hpo
              have hvf := hfit _ _ _ _ hpo
              have hvb0 := hvb.1
              have hvb1 := hvb.2
              refine wl_ov (ov_move rfl) rfl ?_
              refine wl_ov (ov_extract rfl rfl) rfl ?_
              refine wl_ov (ov_extract rfl rfl) rfl ?_
              refine wl_ov (ov_assign rfl) rfl ?_
              refine wl_ov (ov_assign rfl) rfl ?_
              refine wl_nil ?_
              refine nx_then ?_
              refine gw_seq ?_
              refine gw_block ?_
              refine gw_seq ?_
              refine gw_region ?_
              refine wl_ov (ov_move rfl) rfl ?_
              refine wl_ov (ov_un_not rfl) rfl ?_
              refine wl_set 66 (v' := .bool false) rfl (congrArg Value.bool (by decide)) ?_
              refine wl_ov (ov_assign rfl) rfl ?_
              refine wl_nil ?_
              refine nx_then ?_
              refine gw_cond rfl (fun hh => by cases hh) (fun _ => ?_)
              refine gw_seq ?_
              refine gw_region ?_
              refine wl_ov (ov_move rfl) rfl ?_
              refine wl_ov (ov_field fo79_2 rfl rfl) rfl ?_
              refine wl_ov (ov_load sc3 rfl (fun _ hm => hm.blkI 0 rfl) rfl) rfl ?_
              refine wl_ov (ov_neq rfl rfl) rfl ?_
              refine wl_ov (ov_assign rfl) rfl ?_
              refine wl_nil ?_
              refine nx_then ?_
              refine gw_cond rfl (fun hh => ?_) (fun hh => ?_)
              · have hcs : ¬ (v = x2) := by simpa using hh
                clear hh
                refine gw_seq ?_
                refine gw_region ?_
                refine wl_ov (ov_assign rfl) rfl ?_
                refine wl_ov (ov_assign rfl) rfl ?_
                refine wl_nil ?_
                refine nx_then ?_
                refine gw_ret ?_
                refine nx_blk_ret ?_
                refine nx_then_ret ?_
                refine nx_blk_ret ?_
                refine nx_then_ret ?_
                refine nx_then_ret ?_
                refine nx_blk_ret ?_
                refine nx_then_ret ?_
                refine nx_ret2 rfl rfl rfl fun wx hm => ?_
                exact ⟨by rw [hcv, hcg, cg_sum hkd hsb hpo hcs], hm.g⟩
              · have hcs : v = x2 := by simpa using hh
                clear hh
                refine gw_skip ?_
                refine nx_blk_nrm ?_
                refine nx_then ?_
                refine gw_seq ?_
                refine gw_region ?_
                have hcs : v = x2 := by simpa using hcs
                refine wl_ov (ov_move rfl) rfl ?_
                refine wl_ov (ov_move rfl) rfl ?_
                refine wl_ov (ov_add rfl rfl (by omega) (by omega)) rfl ?_
                refine wl_ov (ov_assign rfl) rfl ?_
                refine wl_nil ?_
                refine nx_then ?_
                refine gw_region ?_
                refine wl_ov (ov_move rfl) rfl ?_
                refine wl_ov (ov_field fo79_1 rfl rfl) rfl ?_
                refine wl_ov (ov_load sc3 rfl (fun _ hm => hm.blkI 0 rfl) rfl) rfl ?_
                refine wl_ov (ov_add rfl rfl (by omega) (by omega)) rfl ?_
                refine wl_ov (ov_assign rfl) rfl ?_
                refine wl_nil ?_
                refine nx_blk_nrm ?_
                refine nx_then ?_
                refine gw_region ?_
                refine wl_ov (ov_add rfl rfl (by omega) (by omega)) rfl ?_
                refine wl_ov (ov_move rfl) rfl ?_
                refine wl_nil ?_
                exact nx_round (k + 1, i + x1.toNat, t + v) ⟨by dsimp only; omega, by dsimp only; omega, ⟨by dsimp only; omega, by dsimp only; omega⟩, by rw [hcg, cg_next hkd hsb hpo hcs]⟩ (by dsimp only; omega) ⟨rfl, (some_int (by dsimp only; omega)), rfl, rfl, rfl, (some_int (by omega)), trivial⟩ (fun _ hm => hm.pick [1] [] [0, 1, 2] rfl rfl)
    · have hk : ¬ (((k : Nat) : Int) < ((n2 : Nat) : Int)) := by simpa using hh
      clear hh
      refine gw_exit ?_
      refine nx_then_exit ?_
      refine nx_then_exit ?_
      refine nx_blk_here ?_
      refine nx_then ?_
      refine gw_seq ?_
      refine gw_seq ?_
      refine gw_region ?_
      rw [List.drop_eq_nil_of_le (by omega)] at hcg
      refine wl_ov (ov_move rfl) rfl ?_
      refine wl_ov (ov_field fo164_2 rfl rfl) rfl ?_
      refine wl_ov (ov_load sc22 rfl (fun _ hm => hm.blkI 0 rfl) rfl) rfl ?_
      refine wl_ov (ov_len es22 rfl) rfl ?_
      refine wl_ov (ov_lss rfl rfl) rfl ?_
      refine wl_nil ?_
      refine nx_then ?_
      refine gw_cond rfl (fun hh => ?_) (fun hh => ?_)
      · have hi9 : ((i : Nat) : Int) < ((D : Nat) : Int) := by simpa using hh
        clear hh
        refine gw_seq ?_
        refine gw_region ?_
        refine wl_ov (ov_assign rfl) rfl ?_
        refine wl_ov (ov_assign rfl) rfl ?_
        refine wl_nil ?_
        refine nx_then ?_
        refine gw_ret ?_
        refine nx_then_ret ?_
        refine nx_ret2 rfl rfl rfl fun wx hm => ?_
        exact ⟨by rw [hcv, hcg, cg_short (by omega)], hm.g⟩
      · have hi9 : ¬ (((i : Nat) : Int) < ((D : Nat) : Int)) := by simpa using hh
        clear hh
        refine gw_skip ?_
        refine nx_then ?_
        refine gw_seq ?_
        refine gw_region ?_
        refine wl_ov (ov_move rfl) rfl ?_
        refine wl_ov (ov_assign rfl) rfl ?_
        refine wl_ov (ov_assign rfl) rfl ?_
        refine wl_nil ?_
        refine nx_then ?_
        refine gw_ret ?_
        refine nx_ret2 rfl rfl rfl fun wx hm => ?_
        exact ⟨by rw [hcv, hcg, cg_end (by omega)], hm.g⟩

set_option maxRecDepth 100000 in
set_option maxHeartbeats 2000000 in
theorem costOf_any (l : List Rt) (A : Option Addr) (n c0 : Nat) (c : ByteArray) (fr tt : Int) (ps : List Pc) (A2 : Option Addr) (n2 c2 : Nat) (w : World) (hl : SlT rtEnc 7 61 w A n l) (hn : n ≤ 1000000) (hp : SlT pcEnc 3 79 w A2 n2 ps) (hn2 : n2 ≤ 1000000) (hpb0 : ∀ p ∈ ps, PcB p) (hz : chkE l c fr tt = 0) :
    Calls Tryd.prog 49 #[.slice A n c0, .string c, .agg #[.int .i64 fr, .int .i64 tt], .slice A2 n2 c2] w (fun e w' => e = .returned (.tuple #[.int .i64 (costV l c fr tt ps).1, .int .i64 (costV l c fr tt ps).2]) ∧ w.grownBy w' none) := by
  refine gw_enter ⟨71, w, none, []⟩ Tryd.func49 rfl Tryd.ntmps49 rfl (mem0 (X := [SlOld rtEnc 7 61 w.heap.size none A n l, SlOld pcEnc 3 79 w.heap.size none A2 n2 ps]) (allF_cons hl.old (allF_cons hp.old allF_nil)) (allL_cons SlOld.lasts (allL_cons SlOld.lasts allL_nil))) ?_
  refine gw_seq ?_
  refine gw_region ?_
  have hpl := hp.len
  obtain ⟨CE, hCE⟩ : ∃ E, E = chkE l c fr tt := ⟨_, rfl⟩
  have h1 : CE = 0 := hCE.trans hz
  obtain ⟨hr0, hkc, ht⟩ := chkE_ok (hCE.symm.trans h1)
  obtain ⟨h0, hlt, htt, _⟩ := timeE_ok ht
  have hpos := rt_pos hr0
  have hro := rate_ok hr0
  have hD1 := timeE_days ht
  obtain ⟨D, hD⟩ : ∃ D, D = daysN fr tt := ⟨_, rfl⟩
  have hDv : daysV fr tt = ((D : Nat) : Int) := by rw [hD]; unfold daysN; omega
  have hD2 : 1 ≤ D ∧ D ≤ 120 := by omega
  have hD3 := hD2.1
  have hD4 := hD2.2
  have hto : ∀ j, j < D → begV fr j < tt := fun j hj => by unfold daysV at hDv; unfold begV; omega
  obtain ⟨pr, hpr⟩ : ∃ p, p = prH l c fr tt := ⟨_, rfl⟩
  have hprD : pr = priceO l (seasons l c fr D) fr tt := by rw [hpr, hD]; rfl
  have hpb : ∀ k i m c, pr k i m = some c → 0 ≤ c ∧ c ≤ 24000000 := by rw [hprD]; exact price_all hro (fun i hi => by rw [seasons_len] at hi; exact Int.le_of_lt (hto i hi))
  have hfit : ∀ k i m v, pr k i m = some v → 1 ≤ m ∧ (i : Int) + m ≤ ((D : Nat) : Int) := fun k i m v h => by
    have h2 := price_some (by rw [← hprD]; exact h)
    rw [seasons_len] at h2
    exact ⟨h2.1, h2.2.1⟩
  have hcv : costV l c fr tt ps = costG pr (seaB l c fr D) D 0 0 ps := by unfold costV; rw [← hCE, if_pos h1, ← hpr, ← hD]
  refine wl_box rfl rfl rfl fun g1 => ?_
  refine wl_ov (ov_assign rfl) rfl ?_
  refine wl_ov (ov_assign rfl) rfl ?_
  refine wl_nil ?_
  refine nx_then ?_
  refine gw_cut (γ := Nat) (I := (fun (gt : Nat) => True)) (S' := (fun (gt : Nat) => [(3, .slice A2 n2 c2), (8, .int .i64 0), (9, .int .i64 0), (10, .pointer (some ⟨gt, 0, none⟩))])) (K' := (fun (gt : Nat) => fun _ => True)) (L' := (fun (gt : Nat) => [(gt, 170, [.slice A n c0, .string c, .int .i64 fr, .int .i64 tt, .int .i64 ((D : Nat) : Int)])])) (O' := (fun (gt : Nat) => [])) (X' := (fun (gt : Nat) => [SlOld rtEnc 7 61 w.heap.size none A n l, SlOld pcEnc 3 79 w.heap.size none A2 n2 ps])) ?_ ?_
  · refine gw_draw (fun wz => Blk wz g1 56 [.int .i64 fr, .int .i64 tt] ∧ (SlOld rtEnc 7 61 w.heap.size none A n l) wz ∧ (SlOld pcEnc 3 79 w.heap.size none A2 n2 ps) wz ∧ True) mixed ?_
    refine wa_take 0 rfl (by kernel_rfl) (by kernel_rfl) (by kernel_rfl) (listed' := #[true, false, false, false, false, false, false, false]) rfl (fun _ _ _ h => h) (fun _ hm => ⟨hm.blkI 0 rfl, hm.fact 0 rfl, hm.fact 1 rfl, trivial⟩) (ov_move rfl) rfl ?_
    refine wa_take 1 rfl (by kernel_rfl) (by kernel_rfl) (by kernel_rfl) (listed' := #[true, true, false, false, false, false, false, false]) rfl (fun _ _ _ h => h) (fun _ hm => ⟨hm.blkI 0 rfl, hm.fact 0 rfl, hm.fact 1 rfl, trivial⟩) (ov_move rfl) rfl ?_
    refine wa_take 2 rfl (by kernel_rfl) (by kernel_rfl) (by kernel_rfl) (listed' := #[true, true, true, false, false, false, false, false]) rfl (fun _ _ _ h => h) (fun _ hm => ⟨hm.blkI 0 rfl, hm.fact 0 rfl, hm.fact 1 rfl, trivial⟩) (ov_loads rz56 rfl (fun _ hm => hm.1) rfl rfl) rfl ?_
    refine wa_take 3 rfl (by kernel_rfl) (by kernel_rfl) (by kernel_rfl) (listed' := #[true, true, true, true, false, false, false, false]) rfl (fun _ _ _ h => h) (fun _ hm => ⟨hm.blkI 0 rfl, hm.fact 0 rfl, hm.fact 1 rfl, trivial⟩) (ov_loads rz56 rfl (fun _ hm => hm.1) rfl rfl) rfl ?_
    refine wa_all [4, 6] (by kernel_rfl) rfl ⟨⟨_, rfl, ?_⟩, ⟨_, rfl, ?_⟩, trivial⟩
    · refine wl_callv (v := .int .i64 ((D : Nat) : Int)) rfl cb36 rfl rfl (fun wx hm => (by have h := daysOf_any fr tt wx h0 (by omega) htt; rw [hDv] at h; exact h)) ?_
      refine wl_nil ?_
      refine nx_wa0 (listed' := #[true, true, true, true, true, false, false, false]) rfl (fun _ hm => ⟨hm.blkI 0 rfl, hm.fact 0 rfl, hm.fact 1 rfl, trivial⟩) ?_
      refine wa_take 5 rfl (by kernel_rfl) (by kernel_rfl) (by kernel_rfl) (listed' := #[true, true, true, true, true, true, false, false]) rfl (fun _ _ _ h => h) (fun _ hm => ⟨hm.blkI 0 rfl, hm.fact 0 rfl, hm.fact 1 rfl, trivial⟩) (ov_build (cs := [.slice A n c0, .string c, .int .i64 fr, .int .i64 tt, .int .i64 ((D : Nat) : Int)]) rfl (by kernel_rfl)) rfl ?_
      refine wa_all [6] (by kernel_rfl) rfl ⟨⟨_, rfl, ?_⟩, trivial⟩
      refine wl_alloc zc170 rfl fun g2 => ?_
      refine wl_nil ?_
      refine nx_wa0 (listed' := #[true, true, true, true, true, true, true, false]) rfl (fun _ hm => ⟨hm.blkI 1 rfl, hm.fact 0 rfl, hm.fact 1 rfl, trivial⟩) ?_
      refine wa_all [7] (by kernel_rfl) rfl ⟨⟨_, rfl, ?_⟩, trivial⟩
      refine wl_stores (cs' := [.slice A n c0, .string c, .int .i64 fr, .int .i64 tt, .int .i64 ((D : Nat) : Int)]) 0 rz170 rfl rfl rfl rfl rfl rfl rfl rfl ?_
      refine wl_nil ?_
      refine nx_wa0 (listed' := #[true, true, true, true, true, true, true, true]) rfl (fun _ hm => ⟨hm.blkI 1 rfl, hm.fact 0 rfl, hm.fact 1 rfl, trivial⟩) ?_
      refine wa_done (by kernel_rfl) ?_
      exact nx_meet g2 trivial ⟨rfl, rfl, rfl, rfl, trivial⟩ (fun _ hm => hm.pick [0] [] [0, 1] rfl rfl)
    · refine wl_alloc zc170 rfl fun g3 => ?_
      refine wl_nil ?_
      refine nx_wa0 (listed' := #[true, true, true, true, false, false, true, false]) rfl (fun _ hm => ⟨hm.blkI 1 rfl, hm.fact 0 rfl, hm.fact 1 rfl, trivial⟩) ?_
      refine wa_all [4] (by kernel_rfl) rfl ⟨⟨_, rfl, ?_⟩, trivial⟩
      refine wl_callv (v := .int .i64 ((D : Nat) : Int)) rfl cb36 rfl rfl (fun wx hm => (by have h := daysOf_any fr tt wx h0 (by omega) htt; rw [hDv] at h; exact h)) ?_
      refine wl_nil ?_
      refine nx_wa0 (listed' := #[true, true, true, true, true, false, true, false]) rfl (fun _ hm => ⟨hm.blkI 1 rfl, hm.fact 0 rfl, hm.fact 1 rfl, trivial⟩) ?_
      refine wa_take 5 rfl (by kernel_rfl) (by kernel_rfl) (by kernel_rfl) (listed' := #[true, true, true, true, true, true, true, false]) rfl (fun _ _ _ h => h) (fun _ hm => ⟨hm.blkI 1 rfl, hm.fact 0 rfl, hm.fact 1 rfl, trivial⟩) (ov_build (cs := [.slice A n c0, .string c, .int .i64 fr, .int .i64 tt, .int .i64 ((D : Nat) : Int)]) rfl (by kernel_rfl)) rfl ?_
      refine wa_all [7] (by kernel_rfl) rfl ⟨⟨_, rfl, ?_⟩, trivial⟩
      refine wl_stores (cs' := [.slice A n c0, .string c, .int .i64 fr, .int .i64 tt, .int .i64 ((D : Nat) : Int)]) 0 rz170 rfl rfl rfl rfl rfl rfl rfl rfl ?_
      refine wl_nil ?_
      refine nx_wa0 (listed' := #[true, true, true, true, true, true, true, true]) rfl (fun _ hm => ⟨hm.blkI 1 rfl, hm.fact 0 rfl, hm.fact 1 rfl, trivial⟩) ?_
      refine wa_done (by kernel_rfl) ?_
      exact nx_meet g3 trivial ⟨rfl, rfl, rfl, rfl, trivial⟩ (fun _ hm => hm.pick [0] [] [0, 1] rfl rfl)
  · intro gt hinv
    replace hinv : True := hinv
    refine gw_seq ?_
    refine gw_region ?_
    clear hinv
    refine wl_ov (ov_assign rfl) rfl ?_
    refine wl_ov (ov_assign rfl) rfl ?_
    refine wl_nil ?_
    refine nx_then ?_
    refine gw_seq ?_
    refine gw_seq ?_
    refine gw_region ?_
    refine wl_ov (ov_move rfl) rfl ?_
    refine wl_ov (ov_len es72 rfl) rfl ?_
    refine wl_ov (ov_move rfl) rfl ?_
    refine wl_nil ?_
    refine nx_then ?_
    refine gw_block ?_
    refine gw_loop (γ := Nat × Nat × Int) (fun (g : Nat × Nat × Int) => g.1 ≤ n2 ∧ g.2.1 ≤ D ∧ (0 ≤ g.2.2 ∧ g.2.2 ≤ 24000000 * ((g.2.1 : Nat) : Int)) ∧ costG pr (seaB l c fr D) D 0 0 ps = costG pr (seaB l c fr D) D g.2.1 g.2.2 (ps.drop g.1)) (fun (g : Nat × Nat × Int) => [(10, .pointer (some ⟨gt, 0, none⟩)), (11, .int .i64 ((g.2.1 : Nat) : Int)), (12, .int .i64 g.2.2), (25, .slice A2 n2 c2), (26, .int .i64 ((n2 : Nat) : Int)), (27, .int .i64 ((g.1 : Nat) : Int))]) (fun (g : Nat × Nat × Int) => fun _ => True) (fun (g : Nat × Nat × Int) => [(gt, 170, [.slice A n c0, .string c, .int .i64 fr, .int .i64 tt, .int .i64 ((D : Nat) : Int)])]) (fun (g : Nat × Nat × Int) => []) (fun (g : Nat × Nat × Int) => [SlOld rtEnc 7 61 w.heap.size none A n l, SlOld pcEnc 3 79 w.heap.size none A2 n2 ps]) (fun (g : Nat × Nat × Int) => n2 - g.1) (0, 0, 0) ⟨Nat.zero_le _, Nat.zero_le _, ⟨by dsimp only; omega, by dsimp only; omega⟩, rfl⟩ ⟨rfl, rfl, rfl, rfl, rfl, rfl, trivial⟩ (fun _ hm => hm.pick [0] [] [0, 1] rfl rfl) ?_
    rintro ⟨k, i, t⟩ hinv
    replace hinv : k ≤ n2 ∧ i ≤ D ∧ (0 ≤ t ∧ t ≤ 24000000 * ((i : Nat) : Int)) ∧ costG pr (seaB l c fr D) D 0 0 ps = costG pr (seaB l c fr D) D i t (ps.drop k) := hinv
    dsimp only
    refine gw_seq ?_
    refine gw_region ?_
    obtain ⟨hk0, hi0, ⟨ht0, ht1⟩, hcg⟩ := hinv
    refine wl_ov (ov_lss rfl rfl) rfl ?_
    refine wl_nil ?_
    refine nx_then ?_
    refine gw_seq ?_
    refine gw_cond rfl (fun hh => ?_) (fun hh => ?_)
    · have hk : ((k : Nat) : Int) < ((n2 : Nat) : Int) := by simpa using hh
      clear hh
      refine gw_skip ?_
      refine nx_then ?_
      refine gw_seq ?_
      refine gw_block ?_
      refine gw_seq ?_
      refine gw_region ?_
      obtain ⟨b2, o2, hA, _, _⟩ := hp.get (by omega)
      subst hA
      obtain ⟨x, hx⟩ : ∃ x, ps[k]? = some x := ⟨_, List.getElem?_eq_getElem (by omega)⟩
      obtain ⟨x0, x1, x2⟩ := x
      rw [drop_at hx] at hcg
      obtain ⟨hb1, hb2⟩ := hpb0 _ (List.mem_of_getElem? hx)
      dsimp only at hb1 hb2
      refine wl_ov (ov_index (j := k) es72 rfl rfl (by omega)) rfl ?_
      refine wl_ov (ov_elem (vs := [.int .i64 x0, .int .i64 x1, .int .i64 x2]) rz79 rfl (fun _ hm => (hm.fact 1 rfl).1) hx rfl rfl) rfl ?_
      refine wl_alloc zc79 rfl fun g4 => ?_
      refine wl_stores (cs' := [.int .i64 x0, .int .i64 x1, .int .i64 x2]) 0 rz79 rfl rfl rfl rfl rfl rfl rfl rfl ?_
      refine wl_nil ?_
      refine nx_then ?_
      refine gw_seq ?_
      refine gw_seq ?_
      refine gw_region ?_
      refine wl_ov (ov_field fo79_0 rfl rfl) rfl ?_
      refine wl_ov (ov_load sc3 rfl (fun _ hm => hm.blkI 0 rfl) rfl) rfl ?_
      refine wl_callw rfl cb91 rfl rfl (fun wx hm => (rin_any _ _ _ wx)) ?_
      refine wl_ov (ov_un_not rfl) rfl ?_
      refine wl_nil ?_
      refine nx_then ?_
      refine gw_cond rfl (fun hh => ?_) (fun hh => ?_)
      · have hkd : (inB x0 1 4) = false := by simpa using hh
        clear hh
        refine gw_seq ?_
        refine gw_region ?_
        refine wl_ov (ov_assign rfl) rfl ?_
        refine wl_ov (ov_assign rfl) rfl ?_
        refine wl_nil ?_
        refine nx_then ?_
        refine gw_ret ?_
        refine nx_then_ret ?_
        refine nx_blk_ret ?_
        refine nx_then_ret ?_
        refine nx_then_ret ?_
        refine nx_blk_ret ?_
        refine nx_then_ret ?_
        refine nx_ret2 rfl rfl rfl fun wx hm => ?_
        exact ⟨by rw [hcv, hcg, cg_kind hkd], hm.g⟩
      · have hkd : (inB x0 1 4) = true := by simpa using hh
        clear hh
        refine gw_skip ?_
        refine nx_then ?_
        refine gw_seq ?_
        refine gw_seq ?_
        refine gw_region ?_
        obtain ⟨SB, hSB⟩ : ∃ B, B = seaB l c fr D i := ⟨_, rfl⟩
        obtain ⟨SR, hSR⟩ : ∃ R, R = seaR l c fr D i := ⟨_, rfl⟩
        obtain ⟨z0, z1, z2, z3, z4, z5, z6⟩ := SR
        refine wl_ov (ov_loads rz170 rfl (fun _ hm => hm.blkI 1 rfl) rfl rfl) rfl ?_
        refine wl_ov (ov_move rfl) rfl ?_
        refine wl_callv (v := .tuple #[.agg #[.string z0, .int .i64 z1, .int .i64 z2, .int .i64 z3, .int .i64 z4, .int .i64 z5, .int .i64 z6], .bool SB]) rfl cb119 rfl rfl (fun wx hm => (by have h := season_any l A n c0 c fr tt D i wx (hm.fact 0 rfl).1 hn hpos h0 (by omega) (by omega) (by omega); rw [← hSB, ← hSR] at h; exact h)) ?_
        refine wl_ov (ov_move rfl) rfl ?_
        refine wl_ov (ov_extract rfl rfl) rfl ?_
        refine wl_ov (ov_extract rfl rfl) rfl ?_
        refine wl_alloc zc61 rfl fun g5 => ?_
        refine wl_stores (cs' := [.string z0, .int .i64 z1, .int .i64 z2, .int .i64 z3, .int .i64 z4, .int .i64 z5, .int .i64 z6]) 0 rz61 rfl rfl rfl rfl rfl rfl rfl rfl ?_
        refine wl_ov (ov_assign rfl) rfl ?_
        refine wl_nil ?_
        refine nx_then ?_
        refine gw_seq ?_
        refine gw_region ?_
        refine wl_ov (ov_move rfl) rfl ?_
        refine wl_ov (ov_un_not rfl) rfl ?_
        refine wl_nil ?_
        refine nx_then ?_
        refine gw_cond rfl (fun hh => ?_) (fun hh => ?_)
        · have hsb : SB = false := by simpa using hh
          clear hh
          refine gw_seq ?_
          refine gw_region ?_
          have hsb : seaB l c fr D i = false := by rw [← hSB]; simpa using hsb
          refine wl_ov (ov_assign rfl) rfl ?_
          refine wl_ov (ov_assign rfl) rfl ?_
          refine wl_nil ?_
          refine nx_then ?_
          refine gw_ret ?_
          refine nx_then_ret ?_
          refine nx_blk_ret ?_
          refine nx_then_ret ?_
          refine nx_then_ret ?_
          refine nx_blk_ret ?_
          refine nx_then_ret ?_
          refine nx_ret2 rfl rfl rfl fun wx hm => ?_
          exact ⟨by rw [hcv, hcg, cg_sea hkd hsb], hm.g⟩
        · have hsb : SB = true := by simpa using hh
          clear hh
          refine gw_skip ?_
          refine nx_then ?_
          refine gw_seq ?_
          refine gw_region ?_
          have hsb : seaB l c fr D i = true := by rw [← hSB]; simpa using hsb
          rcases hpo : pr x0 i x1 with _ | v
          · refine wl_ov (ov_loads rz170 rfl (fun _ hm => hm.blkI 2 rfl) rfl rfl) rfl ?_
            refine wl_ov (ov_move rfl) rfl ?_
            refine wl_ov (ov_loads rz79 rfl (fun _ hm => hm.blkI 1 rfl) rfl rfl) rfl ?_
            refine wl_callx (γ := Int) (val := (fun (g : Int) => .tuple #[.int .i64 g, .bool false])) (φ := (fun (g : Int) => True)) (Y := (fun (g : Int) => fun _ => True)) rfl cb114 rfl rfl (fun wx hm => (by have h := rprice_any l A n c0 c fr tt D x0 i x1 x2 wx (hm.fact 0 rfl).1 hn hr0 h0 (by omega) (by omega) (by omega) hD4 (by omega) (by omega) hto; rw [← hprD, hpo] at h; exact h.mono fun _ _ ⟨v, he, hv, hg⟩ => ⟨v, he, trivial, hg, trivial⟩)) (fun _ => Lasts2.true_) ?_
            rintro v1 hphi
            clear hphi
            refine wl_ov (ov_move rfl) rfl ?_
            refine wl_ov (ov_extract rfl rfl) rfl ?_
            refine wl_ov (ov_extract rfl rfl) rfl ?_
            refine wl_ov (ov_assign rfl) rfl ?_
            refine wl_ov (ov_assign rfl) rfl ?_
            refine wl_nil ?_
            refine nx_then ?_
            refine gw_seq ?_
            refine gw_block ?_
            refine gw_seq ?_
            refine gw_region ?_
            refine wl_ov (ov_move rfl) rfl ?_
            refine wl_ov (ov_un_not rfl) rfl ?_
            refine wl_set 52 (v' := .bool true) rfl (congrArg Value.bool (by decide)) ?_
            refine wl_ov (ov_assign rfl) rfl ?_
            refine wl_nil ?_
            refine nx_then ?_
            refine gw_cond rfl (fun _ => ?_) (fun hh => by cases hh)
            refine gw_seq ?_
            refine gw_region ?_
            refine wl_ov (ov_assign rfl) rfl ?_
            refine wl_ov (ov_assign rfl) rfl ?_
            refine wl_nil ?_
            refine nx_then ?_
            refine gw_ret ?_
            refine nx_blk_ret ?_
            refine nx_then_ret ?_
            refine nx_blk_ret ?_
            refine nx_then_ret ?_
            refine nx_then_ret ?_
            refine nx_blk_ret ?_
            refine nx_then_ret ?_
            refine nx_ret2 rfl rfl rfl fun wx hm => ?_
            exact ⟨by rw [hcv, hcg, cg_none hkd hsb hpo], hm.g⟩
          · refine wl_ov (ov_loads rz170 rfl (fun _ hm => hm.blkI 2 rfl) rfl rfl) rfl ?_
            refine wl_ov (ov_move rfl) rfl ?_
            refine wl_ov (ov_loads rz79 rfl (fun _ hm => hm.blkI 1 rfl) rfl rfl) rfl ?_
            refine wl_callv (v := .tuple #[.int .i64 v, .bool true]) rfl cb114 rfl rfl (fun wx hm => (by have h := rprice_any l A n c0 c fr tt D x0 i x1 x2 wx (hm.fact 0 rfl).1 hn hr0 h0 (by omega) (by omega) (by omega) hD4 (by omega) (by omega) hto; rw [← hprD, hpo] at h; exact h.mono fun _ _ ⟨v2, he, hv, hg⟩ => ⟨by rw [he, hv v rfl]; rfl, hg⟩)) ?_
            have hvb := hpb _ _ _ _ hpo
            have hvf := hfit _ _ _ _ hpo
            have hvb0 := hvb.1
            have hvb1 := hvb.2
            refine wl_ov (ov_move rfl) rfl ?_
            refine wl_ov (ov_extract rfl rfl) rfl ?_
            refine wl_ov (ov_extract rfl rfl) rfl ?_
            refine wl_ov (ov_assign rfl) rfl ?_
            refine wl_ov (ov_assign rfl) rfl ?_
            refine wl_nil ?_
            refine nx_then ?_
            refine gw_seq ?_
            refine gw_block ?_
            refine gw_seq ?_
            refine gw_region ?_
            refine wl_ov (ov_move rfl) rfl ?_
            refine wl_ov (ov_un_not rfl) rfl ?_
            refine wl_set 52 (v' := .bool false) rfl (congrArg Value.bool (by decide)) ?_
            refine wl_ov (ov_assign rfl) rfl ?_
            refine wl_nil ?_
            refine nx_then ?_
            refine gw_cond rfl (fun hh => by cases hh) (fun _ => ?_)
            refine gw_seq ?_
            refine gw_region ?_
            refine wl_ov (ov_move rfl) rfl ?_
            refine wl_ov (ov_field fo79_2 rfl rfl) rfl ?_
            refine wl_ov (ov_load sc3 rfl (fun _ hm => hm.blkI 1 rfl) rfl) rfl ?_
            refine wl_ov (ov_neq rfl rfl) rfl ?_
            refine wl_ov (ov_assign rfl) rfl ?_
            refine wl_nil ?_
            refine nx_then ?_
            refine gw_cond rfl (fun hh => ?_) (fun hh => ?_)
            · have hcs : ¬ (v = x2) := by simpa using hh
              clear hh
              refine gw_seq ?_
              refine gw_region ?_
              refine wl_ov (ov_assign rfl) rfl ?_
              refine wl_ov (ov_assign rfl) rfl ?_
              refine wl_nil ?_
              refine nx_then ?_
              refine gw_ret ?_
              refine nx_blk_ret ?_
              refine nx_then_ret ?_
              refine nx_blk_ret ?_
              refine nx_then_ret ?_
              refine nx_then_ret ?_
              refine nx_blk_ret ?_
              refine nx_then_ret ?_
              refine nx_ret2 rfl rfl rfl fun wx hm => ?_
              exact ⟨by rw [hcv, hcg, cg_sum hkd hsb hpo hcs], hm.g⟩
            · have hcs : v = x2 := by simpa using hh
              clear hh
              refine gw_skip ?_
              refine nx_blk_nrm ?_
              refine nx_then ?_
              refine gw_region ?_
              have hcs : v = x2 := by simpa using hcs
              refine wl_ov (ov_move rfl) rfl ?_
              refine wl_ov (ov_field fo79_1 rfl rfl) rfl ?_
              refine wl_ov (ov_load sc3 rfl (fun _ hm => hm.blkI 1 rfl) rfl) rfl ?_
              refine wl_ov (ov_add rfl rfl (by omega) (by omega)) rfl ?_
              refine wl_ov (ov_move rfl) rfl ?_
              refine wl_ov (ov_move rfl) rfl ?_
              refine wl_ov (ov_add rfl rfl (by omega) (by omega)) rfl ?_
              refine wl_ov (ov_assign rfl) rfl ?_
              refine wl_ov (ov_assign rfl) rfl ?_
              refine wl_nil ?_
              refine nx_blk_nrm ?_
              refine nx_then ?_
              refine gw_region ?_
              refine wl_ov (ov_add rfl rfl (by omega) (by omega)) rfl ?_
              refine wl_ov (ov_move rfl) rfl ?_
              refine wl_nil ?_
              exact nx_round (k + 1, i + x1.toNat, t + v) ⟨by dsimp only; omega, by dsimp only; omega, ⟨by dsimp only; omega, by dsimp only; omega⟩, by rw [hcg, cg_next hkd hsb hpo hcs]⟩ (by dsimp only; omega) ⟨rfl, (some_int (by dsimp only; omega)), rfl, rfl, rfl, (some_int (by omega)), trivial⟩ (fun _ hm => hm.pick [2] [] [0, 1] rfl rfl)
    · have hk : ¬ (((k : Nat) : Int) < ((n2 : Nat) : Int)) := by simpa using hh
      clear hh
      refine gw_exit ?_
      refine nx_then_exit ?_
      refine nx_then_exit ?_
      refine nx_blk_here ?_
      refine nx_then ?_
      refine gw_seq ?_
      refine gw_seq ?_
      refine gw_region ?_
      rw [List.drop_eq_nil_of_le (by omega)] at hcg
      refine wl_ov (ov_move rfl) rfl ?_
      refine wl_ov (ov_field fo170_3 rfl rfl) rfl ?_
      refine wl_ov (ov_load sc3 rfl (fun _ hm => hm.blkI 0 rfl) rfl) rfl ?_
      refine wl_ov (ov_neq rfl rfl) rfl ?_
      refine wl_nil ?_
      refine nx_then ?_
      refine gw_cond rfl (fun hh => ?_) (fun hh => ?_)
      · have hi9 : ¬ (((i : Nat) : Int) = ((D : Nat) : Int)) := by simpa using hh
        clear hh
        refine gw_seq ?_
        refine gw_region ?_
        refine wl_ov (ov_assign rfl) rfl ?_
        refine wl_ov (ov_assign rfl) rfl ?_
        refine wl_nil ?_
        refine nx_then ?_
        refine gw_ret ?_
        refine nx_then_ret ?_
        refine nx_ret2 rfl rfl rfl fun wx hm => ?_
        exact ⟨by rw [hcv, hcg, cg_short (by omega)], hm.g⟩
      · have hi9 : ((i : Nat) : Int) = ((D : Nat) : Int) := by simpa using hh
        clear hh
        refine gw_skip ?_
        refine nx_then ?_
        refine gw_seq ?_
        refine gw_region ?_
        refine wl_ov (ov_move rfl) rfl ?_
        refine wl_ov (ov_assign rfl) rfl ?_
        refine wl_ov (ov_assign rfl) rfl ?_
        refine wl_nil ?_
        refine nx_then ?_
        refine gw_ret ?_
        refine nx_ret2 rfl rfl rfl fun wx hm => ?_
        exact ⟨by rw [hcv, hcg, cg_end (by omega)], hm.g⟩

theorem pb_snoc {l : List Pc} {x : Pc} (h : ∀ y ∈ l, PcB y) (hx : PcB x) : ∀ y ∈ l ++ [x], PcB y := fun y hy => by
  rcases List.mem_append.1 hy with hy | hy
  · exact h y hy
  · rw [List.mem_singleton.1 hy]; exact hx
theorem pb_set {l : List Pc} {x : Pc} {j : Nat} (h : ∀ y ∈ l, PcB y) (hx : PcB x) : ∀ y ∈ l.set j x, PcB y := fun y hy => by
  rcases List.mem_or_eq_of_mem_set hy with hy | rfl
  · exact h y hy
  · exact hx
theorem ref_small {l : List Rt} {c : ByteArray} {fr tt : Int} {ok : Bool} {ps : List Pc} (ht : timeE fr tt = 0) (h : RefIs l c fr tt ok ps) : (∀ p ∈ ps, PcB p) ∧ ps.length ≤ 120 := by
  rcases h with ⟨_, h⟩ | ⟨_, h, _⟩
  · have h1 := timeE_days ht
    have h2 := chain_le h.1
    refine ⟨fun p hp => ?_, by unfold daysN at h2; omega⟩
    have h3 := chain_small h.1 p hp
    exact ⟨by have := h3.2.1; omega, by have := h3.2.2; omega⟩
  · rw [h]; exact ⟨fun _ h => (by cases h), by simp⟩

set_option maxRecDepth 100000 in
set_option maxHeartbeats 2000000 in
theorem gpieces_any (l : List Rt) (A : Option Addr) (n c0 : Nat) (c : ByteArray) (fr tt : Int) (w : World) (B sb m : Nat) (hS : Strm 25 w B sb m) (hm : m ≤ 100000000000) (hl : SlT rtEnc 7 61 w A n l) (hok : ∀ b ∈ l, RtOk b) (hn : n ≤ 1000000) :
    Calls Tryd.prog 47 #[.pointer (some ⟨sb, 0, none⟩), .slice A n c0, .string c, .agg #[.int .i64 fr, .int .i64 tt]] w (fun e w' => ∃ (A2 : Option Addr) (n2 c2 : Nat) (ps : List Pc), e = .returned (.slice A2 n2 c2) ∧ SlT pcEnc 3 79 w' A2 n2 ps ∧ (∀ p ∈ ps, PcB p) ∧ n2 ≤ 200 ∧ Strm 25 w' B sb (m + 50) ∧ w.grownBy w' (some sb)) := by
  have hlo : SlOld rtEnc 7 61 w.heap.size (some sb) A n l w := by
    obtain ⟨_, _, _, _, hh, _⟩ := hS.pos
    exact hl.oldRow hh (by decide)
  refine gw_enter ⟨60, w, (some sb), []⟩ Tryd.func47 rfl Tryd.ntmps47 rfl (memS (X := [SlOld rtEnc 7 61 w.heap.size (some sb) A n l]) hS (allF_cons hlo allF_nil) (allL_cons SlOld.lasts allL_nil)) ?_
  refine gw_seq ?_
  refine gw_region ?_
  obtain ⟨RE, hRE⟩ : ∃ E, E = ratesE l := ⟨_, rfl⟩
  refine wl_box rfl rfl rfl fun g1 => ?_
  refine wl_ov (ov_assign rfl) rfl ?_
  refine wl_nil ?_
  refine nx_then ?_
  refine gw_seq ?_
  refine gw_region ?_
  refine wl_ov (ov_assign rfl) rfl ?_
  refine wl_nil ?_
  refine nx_then ?_
  refine gw_seq ?_
  refine gw_seq ?_
  refine gw_region ?_
  refine wl_ov (ov_move rfl) rfl ?_
  refine wl_callv (v := .int .i64 RE) rfl cb33 rfl rfl (fun wx hm => (by rw [hRE]; exact ratesFault_any l A n c0 wx (hm.fact 0 rfl).1 hok hn)) ?_
  refine wl_ov (ov_eql rfl rfl) rfl ?_
  refine wl_ov (ov_move rfl) rfl ?_
  rcases Bool.eq_false_or_eq_true (decide (RE = 0)) with hr1 | hr1
  · refine wl_set 14 rfl (congrArg Value.bool hr1) ?_
    refine wl_guard_on rfl rfl rfl ?_
    refine wl_ov (ov_loads rz56 rfl (fun _ hm => hm.blkI 0 rfl) rfl rfl) rfl ?_
    refine wl_guard_on rfl rfl rfl ?_
    refine wl_callv rfl cb35 rfl rfl (fun wx hm => (timeFault_any _ _ wx)) ?_
    refine wl_guard_on rfl rfl rfl ?_
    refine wl_ov (ov_eql rfl rfl) rfl ?_
    refine wl_ov (ov_pick_t rfl rfl) rfl ?_
    refine wl_nil ?_
    refine nx_then ?_
    refine gw_cond rfl (fun hh => ?_) (fun hh => ?_)
    · have ht : timeE fr tt = 0 := by simpa using hh
      clear hh
      refine gw_region ?_
      have hr0 : ratesE l = 0 := hRE.symm.trans (of_decide_eq_true hr1)
      refine wl_ov (ov_move rfl) rfl ?_
      refine wl_ov (ov_move rfl) rfl ?_
      refine wl_ov (ov_loads rz56 rfl (fun _ hm => hm.blkI 0 rfl) rfl rfl) rfl ?_
      refine wl_callgo (γ := Option Addr × Nat × Nat × List Pc × Bool) (val := (fun (g : Option Addr × Nat × Nat × List Pc × Bool) => .tuple #[.slice g.1 g.2.1 g.2.2.1, .bool g.2.2.2.2])) (φ := (fun (g : Option Addr × Nat × Nat × List Pc × Bool) => RefIs l c fr tt g.2.2.2.2 g.2.2.2.1 ∧ g.2.2.2.1.length = g.2.1)) (fun (g : Option Addr × Nat × Nat × List Pc × Bool) => ⟨.slice g.1 g.2.1 g.2.2.1, 79, 3, g.2.1, g.2.2.2.1.flatMap pcEnc⟩) rfl cb43 rfl rfl (fun wx hm => (divideOf_any l A n c0 c fr tt wx (hm.fact 0 rfl).1 hn hr0 ht).mono fun _ _ ⟨A2, n2, c2, ps, ok, he, hg, ho, hrf, hl2, _⟩ => ⟨(A2, n2, c2, ps, ok), he, ⟨hrf, hl2⟩, ho, hg⟩) ?_
      rintro ⟨A4, n4, c4, qs, ok⟩ hrf
      dsimp only at hrf ⊢
      obtain ⟨hrf, hq4⟩ := hrf
      obtain ⟨hsm1, hsm2⟩ := ref_small ht hrf
      refine wl_ov (ov_move rfl) rfl ?_
      refine wl_ov (ov_extract rfl rfl) rfl ?_
      refine wl_ov (ov_extract rfl rfl) rfl ?_
      refine wl_ov (ov_assign rfl) rfl ?_
      refine wl_nil ?_
      refine nx_then ?_
      refine gw_seq ?_
      refine gw_seq ?_
      refine gw_region ?_
      refine wl_ov (ov_move rfl) rfl ?_
      refine wl_buildSlice (e := 3) (cs := [.int .i64 0, .int .i64 0, .int .i64 1, .int .i64 2]) rfl (by kernel_rfl) rfl fun g2 => ?_
      refine wl_got (γ := Int) (val := fun v => .int .i64 v) (φ := fun v => v ∈ ([0, 0, 1, 2] : List Int)) rfl cb23 rfl rfl rfl rfl (fun wx hm => (pick_any [0, 0, 1, 2] _ _ _ wx B sb _ hm.k (by omega) (by simp) (by simp) (hm.blkI 0 rfl) (hm.neRow 0 rfl rfl))) fun v3 hv3 => ?_
      have bv3 : 0 ≤ v3 ∧ v3 ≤ 2 := mem_rng hv3 (by decide)
      have bv30 := bv3.1
      have bv31 := bv3.2
      clear bv3
      refine wl_ov (ov_move rfl) rfl ?_
      refine wl_nil ?_
      refine nx_then ?_
      refine gw_block ?_
      refine gw_loop (γ := Nat × Value × Nat × List Pc × List Value) (fun (g : Nat × Value × Nat × List Pc × List Value) => (g.1 : Int) ≤ v3 ∧ g.2.2.2.1.length = g.2.2.1 ∧ g.2.2.1 ≤ 120 + g.1 ∧ (∀ x ∈ g.2.2.2.1, PcB x) ∧ g.2.2.2.2 = g.2.2.2.1.flatMap pcEnc) (fun (g : Nat × Value × Nat × List Pc × List Value) => [(0, .pointer (some ⟨sb, 0, none⟩)), (8, .slice none 0 0), (9, g.2.1), (28, .int .i64 v3), (29, .int .i64 ((g.1 : Nat) : Int))]) (fun (g : Nat × Value × Nat × List Pc × List Value) => fun w => Strm 25 w B sb (m + 1 + 10 * g.1)) (fun (g : Nat × Value × Nat × List Pc × List Value) => []) (fun (g : Nat × Value × Nat × List Pc × List Value) => [⟨g.2.1, 79, 3, g.2.2.1, g.2.2.2.2⟩]) (fun (g : Nat × Value × Nat × List Pc × List Value) => [SlOld rtEnc 7 61 w.heap.size (some sb) A n l]) (fun (g : Nat × Value × Nat × List Pc × List Value) => (v3 - ((g.1 : Nat) : Int)).toNat) (0, .slice A4 n4 c4, n4, qs, qs.flatMap pcEnc) ⟨by dsimp only; omega, hq4, by dsimp only; omega, hsm1, rfl⟩ ⟨rfl, rfl, rfl, rfl, rfl, trivial⟩ (fun _ hm => (hm.more rfl (by first | omega | (dsimp only; omega))).pick [] [0] [0] rfl rfl) ?_
      rintro ⟨k, v, n9, q, xs9⟩ hinv
      replace hinv : (k : Int) ≤ v3 ∧ q.length = n9 ∧ n9 ≤ 120 + k ∧ (∀ x ∈ q, PcB x) ∧ xs9 = q.flatMap pcEnc := hinv
      dsimp only
      refine gw_seq ?_
      refine gw_region ?_
      obtain ⟨hj0, hj1, hj2, hj3, rfl⟩ := hinv
      refine wl_ov (ov_lss rfl rfl) rfl ?_
      refine wl_nil ?_
      refine nx_then ?_
      refine gw_seq ?_
      refine gw_cond rfl (fun hh => ?_) (fun hh => ?_)
      · have hk : ((k : Nat) : Int) < v3 := by simpa using hh
        clear hh
        refine gw_skip ?_
        refine nx_then ?_
        refine gw_seq ?_
        refine gw_block ?_
        refine gw_seq ?_
        refine gw_region ?_
        refine wl_look (R := ∃ A cc, v = .slice A n9 cc) (fun wx hm => own_slice (hm.ownI 0 rfl)) ?_
        rintro ⟨A9, c9, rfl⟩
        refine wl_ov (ov_move rfl) rfl ?_
        refine wl_got (γ := Int) (val := fun v => .int .i64 v) (φ := fun v => -2000000000000000 ≤ v ∧ v ≤ 2000000000000000) rfl cb89 rfl rfl rfl rfl (fun wx hm => (odd_any _ _ wx B sb _ hm.k (by omega) (by omega) (by omega) (by omega))) fun v4 hv4 => ?_
        refine wl_ov (ov_move rfl) rfl ?_
        refine wl_buildSlice (e := 3) (cs := [.int .i64 1, .int .i64 1, .int .i64 2, .int .i64 3, .int .i64 7]) rfl (by kernel_rfl) rfl fun g5 => ?_
        refine wl_got (γ := Int) (val := fun v => .int .i64 v) (φ := fun v => v ∈ ([1, 1, 2, 3, 7] : List Int)) rfl cb23 rfl rfl rfl rfl (fun wx hm => (pick_any [1, 1, 2, 3, 7] _ _ _ wx B sb _ hm.k (by omega) (by simp) (by simp) (hm.blkI 0 rfl) (hm.neRow 0 rfl rfl))) fun v6 hv6 => ?_
        have bv6 : 1 ≤ v6 ∧ v6 ≤ 7 := mem_rng hv6 (by decide)
        have bv60 := bv6.1
        have bv61 := bv6.2
        clear bv6
        refine wl_ov (ov_move rfl) rfl ?_
        refine wl_buildSlice (e := 3) (cs := [.int .i64 50, .int .i64 70, .int .i64 200, .int .i64 10]) rfl (by kernel_rfl) rfl fun g7 => ?_
        refine wl_got (γ := Int) (val := fun v => .int .i64 v) (φ := fun v => v ∈ ([50, 70, 200, 10] : List Int)) rfl cb23 rfl rfl rfl rfl (fun wx hm => (pick_any [50, 70, 200, 10] _ _ _ wx B sb _ hm.k (by omega) (by simp) (by simp) (hm.blkI 0 rfl) (hm.neRow 0 rfl rfl))) fun v8 hv8 => ?_
        have bv8 : 10 ≤ v8 ∧ v8 ≤ 200 := mem_rng hv8 (by decide)
        have bv80 := bv8.1
        have bv81 := bv8.2
        clear bv8
        refine wl_ov (ov_build (cs := [.int .i64 v4, .int .i64 v6, .int .i64 v8]) rfl (by kernel_rfl)) rfl ?_
        refine wl_alloc zc79 rfl fun g9 => ?_
        refine wl_stores (cs' := [.int .i64 v4, .int .i64 v6, .int .i64 v8]) 0 rz79 rfl rfl rfl rfl rfl rfl rfl rfl ?_
        refine wl_nil ?_
        refine nx_then ?_
        refine gw_seq ?_
        refine gw_region ?_
        refine wl_ov (ov_move rfl) rfl ?_
        refine wl_ov (ov_len es72 rfl) rfl ?_
        refine wl_ov (ov_eql rfl rfl) rfl ?_
        refine wl_ov (ov_move rfl) rfl ?_
        rcases Bool.eq_false_or_eq_true (decide (((n9 : Nat) : Int) = 0)) with he | he
        · refine wl_set 43 rfl (congrArg Value.bool he) ?_
          refine wl_guard_off rfl rfl rfl (by decide) rfl ?_
          refine wl_guard_off rfl rfl rfl (by decide) rfl ?_
          refine wl_ov (ov_pick_t rfl rfl) rfl ?_
          refine wl_nil ?_
          refine nx_then ?_
          refine gw_cond rfl (fun _ => ?_) (fun hh => by cases hh)
          refine gw_region ?_
          refine wl_ov (ov_move rfl) rfl ?_
          refine wl_ov (ov_loads rz79 rfl (fun _ hm => hm.blkI 0 rfl) rfl rfl) rfl ?_
          refine wl_buildSlice (e := 79) (cs := [.int .i64 v4, .int .i64 v6, .int .i64 v8]) rfl (by kernel_rfl) rfl fun g10 => ?_
          refine wl_append (news := [.int .i64 v4, .int .i64 v6, .int .i64 v8]) 0 0 ap72 rfl rfl rfl rfl rfl rfl rfl (by omega) (by unfold maxLen; omega) rfl rfl fun v2 hv2 => ?_
          refine wl_ov (ov_assign rfl) rfl ?_
          refine wl_nil ?_
          refine nx_blk_nrm ?_
          refine nx_then ?_
          refine gw_region ?_
          refine wl_ov (ov_add rfl rfl (by omega) (by omega)) rfl ?_
          refine wl_ov (ov_move rfl) rfl ?_
          refine wl_nil ?_
          exact nx_round (k + 1, v2, n9 + 1, q ++ [⟨v4, v6, v8⟩], q.flatMap pcEnc ++ ([.int .i64 v4, .int .i64 v6, .int .i64 v8] : List Value)) ⟨by dsimp only; omega, by simp [hj1], by dsimp only; omega, pb_snoc hj3 (show PcB ⟨v4, v6, v8⟩ from ⟨by dsimp only; omega, by dsimp only; omega⟩), by simp [pcEnc]⟩ (by dsimp only; omega) ⟨rfl, rfl, rfl, rfl, (some_int (by omega)), trivial⟩ (fun _ hm => (hm.more rfl (by first | omega | (dsimp only; omega))).pick [] [0] [0] rfl rfl)
        · refine wl_set 43 rfl (congrArg Value.bool he) ?_
          have hn90 : 0 < n9 := by have h := of_decide_eq_false he; omega
          refine wl_guard_on rfl rfl rfl ?_
          refine wl_ov (ov_move rfl) rfl ?_
          refine wl_guard_on rfl rfl rfl ?_
          refine wl_got (γ := Bool) (val := fun v => .bool v) (φ := fun v => True) rfl cb87 rfl rfl rfl rfl (fun wx hm => ((flip_any _ wx B sb _ hm.k (by omega) (by omega) (by omega)).mono fun _ _ ⟨v, he, hS, hg⟩ => ⟨v, trivial, he, hS, hg⟩)) fun f11 _ => ?_
          refine wl_ov (ov_pick_f rfl rfl) rfl ?_
          refine wl_nil ?_
          refine nx_then ?_
          refine gw_cond rfl (fun hh => ?_) (fun hh => ?_)
          · have hf : f11 = true := by simpa using hh
            clear hh
            refine gw_region ?_
            refine wl_ov (ov_move rfl) rfl ?_
            refine wl_ov (ov_loads rz79 rfl (fun _ hm => hm.blkI 0 rfl) rfl rfl) rfl ?_
            refine wl_buildSlice (e := 79) (cs := [.int .i64 v4, .int .i64 v6, .int .i64 v8]) rfl (by kernel_rfl) rfl fun g12 => ?_
            refine wl_append (news := [.int .i64 v4, .int .i64 v6, .int .i64 v8]) 0 0 ap72 rfl rfl rfl rfl rfl rfl rfl (by omega) (by unfold maxLen; omega) rfl rfl fun v2 hv2 => ?_
            refine wl_ov (ov_assign rfl) rfl ?_
            refine wl_nil ?_
            refine nx_blk_nrm ?_
            refine nx_then ?_
            refine gw_region ?_
            refine wl_ov (ov_add rfl rfl (by omega) (by omega)) rfl ?_
            refine wl_ov (ov_move rfl) rfl ?_
            refine wl_nil ?_
            exact nx_round (k + 1, v2, n9 + 1, q ++ [⟨v4, v6, v8⟩], q.flatMap pcEnc ++ ([.int .i64 v4, .int .i64 v6, .int .i64 v8] : List Value)) ⟨by dsimp only; omega, by simp [hj1], by dsimp only; omega, pb_snoc hj3 (show PcB ⟨v4, v6, v8⟩ from ⟨by dsimp only; omega, by dsimp only; omega⟩), by simp [pcEnc]⟩ (by dsimp only; omega) ⟨rfl, rfl, rfl, rfl, (some_int (by omega)), trivial⟩ (fun _ hm => (hm.more rfl (by first | omega | (dsimp only; omega))).pick [] [0] [0] rfl rfl)
          · have hf : f11 = false := by simpa using hh
            clear hh
            refine gw_look (R := ∃ g, A9 = some ⟨g, 0, none⟩) (fun wx hm => own_addr (hm.ownI 0 rfl) hn90) ?_
            rintro ⟨bo, rfl⟩
            refine gw_draw (fun wz => Blk wz g9 79 [.int .i64 v4, .int .i64 v6, .int .i64 v8] ∧ Blk wz g7 3 [.int .i64 50, .int .i64 70, .int .i64 200, .int .i64 10] ∧ Blk wz g5 3 [.int .i64 1, .int .i64 1, .int .i64 2, .int .i64 3, .int .i64 7] ∧ (SlOld rtEnc 7 61 w.heap.size (some sb) A n l) wz ∧ True) mixed ?_
            refine wa_take 0 rfl (by kernel_rfl) (by kernel_rfl) (by kernel_rfl) (listed' := #[true, false, false, false, false, false, false, false]) rfl (fun _ _ _ h => h) (fun _ hm => ⟨hm.blkI 0 rfl, hm.blkI 1 rfl, hm.blkI 2 rfl, hm.fact 0 rfl, trivial⟩) (ov_move rfl) rfl ?_
            refine wa_take 1 rfl (by kernel_rfl) (by kernel_rfl) (by kernel_rfl) (listed' := #[true, true, false, false, false, false, false, false]) rfl (fun _ _ _ h => h) (fun _ hm => ⟨hm.blkI 0 rfl, hm.blkI 1 rfl, hm.blkI 2 rfl, hm.fact 0 rfl, trivial⟩) (ov_move rfl) rfl ?_
            refine wa_take 2 rfl (by kernel_rfl) (by kernel_rfl) (by kernel_rfl) (listed' := #[true, true, true, false, false, false, false, false]) rfl (fun _ _ _ h => h) (fun _ hm => ⟨hm.blkI 0 rfl, hm.blkI 1 rfl, hm.blkI 2 rfl, hm.fact 0 rfl, trivial⟩) (ov_move rfl) rfl ?_
            refine wa_take 3 rfl (by kernel_rfl) (by kernel_rfl) (by kernel_rfl) (listed' := #[true, true, true, true, false, false, false, false]) rfl (fun _ _ _ h => h) (fun _ hm => ⟨hm.blkI 0 rfl, hm.blkI 1 rfl, hm.blkI 2 rfl, hm.fact 0 rfl, trivial⟩) (ov_len es72 rfl) rfl ?_
            refine wa_take 5 rfl (by kernel_rfl) (by kernel_rfl) (by kernel_rfl) (listed' := #[true, true, true, true, false, true, false, false]) rfl (fun _ _ _ h => h) (fun _ hm => ⟨hm.blkI 0 rfl, hm.blkI 1 rfl, hm.blkI 2 rfl, hm.fact 0 rfl, trivial⟩) (ov_loads rz79 rfl (fun _ hm => hm.1) rfl rfl) rfl ?_
            refine wa_all [4] (by kernel_rfl) rfl ⟨⟨_, rfl, ?_⟩, trivial⟩
            refine wl_got (γ := Int) (val := fun v => .int .i64 v) (φ := fun v => IsBelow ((n9 : Nat) : Int) v) rfl cb88 rfl rfl rfl rfl (fun wx hm => (next_any _ wx B sb _ hm.k (by omega) (by omega) (by omega))) fun vj hvj => ?_
            have hj := isBelow_lt hvj (by omega)
            obtain ⟨i, rfl⟩ := Int.eq_ofNat_of_zero_le hj.1
            have hij : i < n9 := by omega
            obtain ⟨y, hy⟩ : ∃ y, q[i]? = some y := ⟨_, List.getElem?_eq_getElem (by omega)⟩
            obtain ⟨y0, y1, y2⟩ := y
            refine wl_nil ?_
            refine nx_wa0 (listed' := #[true, true, true, true, true, true, false, false]) rfl (fun _ hm => ⟨hm.blkI 0 rfl, hm.blkI 1 rfl, hm.blkI 2 rfl, hm.fact 0 rfl, trivial⟩) ?_
            refine wa_take 6 rfl (by kernel_rfl) (by kernel_rfl) (by kernel_rfl) (listed' := #[true, true, true, true, true, true, true, false]) rfl (fun _ _ _ h => h) (fun _ hm => ⟨hm.blkI 0 rfl, hm.blkI 1 rfl, hm.blkI 2 rfl, hm.fact 0 rfl, trivial⟩) (ov_index (j := i) es72 rfl rfl (by omega)) rfl ?_
            refine wa_all [7] (by kernel_rfl) rfl ⟨⟨_, rfl, ?_⟩, trivial⟩
            refine wl_storesE (l := q) (j := i) (r := 0) (el := ⟨y0, y1, y2⟩) (el' := ⟨v4, v6, v8⟩) 0 rz79 rfl rfl rfl rfl rfl pc_len rfl hy hj1 (by decide) rfl rfl ?_
            refine wl_nil ?_
            refine nx_wa0 (listed' := #[true, true, true, true, true, true, true, true]) rfl (fun _ hm => ⟨hm.blkI 0 rfl, hm.blkI 1 rfl, hm.blkI 2 rfl, hm.fact 0 rfl, trivial⟩) ?_
            refine wa_done (by kernel_rfl) ?_
            refine nx_blk_nrm ?_
            refine nx_then ?_
            refine gw_region ?_
            refine wl_ov (ov_add rfl rfl (by omega) (by omega)) rfl ?_
            refine wl_ov (ov_move rfl) rfl ?_
            refine wl_nil ?_
            exact nx_round (k + 1, .slice (some ⟨bo, 0, none⟩) n9 c9, n9, q.set i ⟨v4, v6, v8⟩, (q.set (i) ⟨v4, v6, v8⟩).flatMap pcEnc) ⟨by dsimp only; omega, (by simp; exact hj1), by dsimp only; omega, pb_set hj3 (show PcB ⟨v4, v6, v8⟩ from ⟨by dsimp only; omega, by dsimp only; omega⟩), rfl⟩ (by dsimp only; omega) ⟨rfl, rfl, rfl, rfl, (some_int (by omega)), trivial⟩ (fun _ hm => (hm.more rfl (by first | omega | (dsimp only; omega))).pick [] [0] [0] rfl rfl)
      · have hk : ¬ (((k : Nat) : Int) < v3) := by simpa using hh
        clear hh
        refine gw_exit ?_
        refine nx_then_exit ?_
        refine nx_then_exit ?_
        refine nx_blk_here ?_
        refine nx_then ?_
        refine gw_seq ?_
        refine gw_region ?_
        refine wl_look (R := ∃ A cc, v = .slice A n9 cc) (fun wx hm => own_slice (hm.ownI 0 rfl)) ?_
        rintro ⟨A9, c9, rfl⟩
        refine wl_ov (ov_move rfl) rfl ?_
        refine wl_ov (ov_assign rfl) rfl ?_
        refine wl_nil ?_
        refine nx_then ?_
        refine gw_ret ?_
        refine nx_ret1 rfl rfl fun wx hm => ?_
        exact ⟨A9, n9, c9, q, rfl, SlT.ofOwn pc_len (hm.ownI 0 rfl) hj1, hj3, by omega, hm.k.more (by omega), hm.g⟩
    · have ht : ¬ (timeE fr tt = 0) := by simpa using hh
      clear hh
      refine gw_skip ?_
      refine nx_then ?_
      refine gw_seq ?_
      refine gw_seq ?_
      refine gw_region ?_
      refine wl_nilOwn 79 3 ?_
      refine wl_ov (ov_move rfl) rfl ?_
      refine wl_buildSlice (e := 3) (cs := [.int .i64 0, .int .i64 0, .int .i64 1, .int .i64 2]) rfl (by kernel_rfl) rfl fun g13 => ?_
      refine wl_got (γ := Int) (val := fun v => .int .i64 v) (φ := fun v => v ∈ ([0, 0, 1, 2] : List Int)) rfl cb23 rfl rfl rfl rfl (fun wx hm => (pick_any [0, 0, 1, 2] _ _ _ wx B sb _ hm.k (by omega) (by simp) (by simp) (hm.blkI 0 rfl) (hm.neRow 0 rfl rfl))) fun v14 hv14 => ?_
      have bv14 : 0 ≤ v14 ∧ v14 ≤ 2 := mem_rng hv14 (by decide)
      have bv140 := bv14.1
      have bv141 := bv14.2
      clear bv14
      refine wl_ov (ov_move rfl) rfl ?_
      refine wl_nil ?_
      refine nx_then ?_
      refine gw_block ?_
      refine gw_loop (γ := Nat × Value × Nat × List Pc × List Value) (fun (g : Nat × Value × Nat × List Pc × List Value) => (g.1 : Int) ≤ v14 ∧ g.2.2.2.1.length = g.2.2.1 ∧ g.2.2.1 ≤ 120 + g.1 ∧ (∀ x ∈ g.2.2.2.1, PcB x) ∧ g.2.2.2.2 = g.2.2.2.1.flatMap pcEnc) (fun (g : Nat × Value × Nat × List Pc × List Value) => [(0, .pointer (some ⟨sb, 0, none⟩)), (8, .slice none 0 0), (9, g.2.1), (28, .int .i64 v14), (29, .int .i64 ((g.1 : Nat) : Int))]) (fun (g : Nat × Value × Nat × List Pc × List Value) => fun w => Strm 25 w B sb (m + 1 + 10 * g.1)) (fun (g : Nat × Value × Nat × List Pc × List Value) => []) (fun (g : Nat × Value × Nat × List Pc × List Value) => [⟨g.2.1, 79, 3, g.2.2.1, g.2.2.2.2⟩]) (fun (g : Nat × Value × Nat × List Pc × List Value) => [SlOld rtEnc 7 61 w.heap.size (some sb) A n l]) (fun (g : Nat × Value × Nat × List Pc × List Value) => (v14 - ((g.1 : Nat) : Int)).toNat) (0, .slice none 0 0, 0, ([] : List Pc), ([] : List Pc).flatMap pcEnc) ⟨by dsimp only; omega, rfl, by dsimp only; omega, (fun _ h => by cases h), rfl⟩ ⟨rfl, rfl, rfl, rfl, rfl, trivial⟩ (fun _ hm => (hm.more rfl (by first | omega | (dsimp only; omega))).pick [] [0] [0] rfl rfl) ?_
      rintro ⟨k, v, n9, q, xs9⟩ hinv
      replace hinv : (k : Int) ≤ v14 ∧ q.length = n9 ∧ n9 ≤ 120 + k ∧ (∀ x ∈ q, PcB x) ∧ xs9 = q.flatMap pcEnc := hinv
      dsimp only
      refine gw_seq ?_
      refine gw_region ?_
      obtain ⟨hj0, hj1, hj2, hj3, rfl⟩ := hinv
      refine wl_ov (ov_lss rfl rfl) rfl ?_
      refine wl_nil ?_
      refine nx_then ?_
      refine gw_seq ?_
      refine gw_cond rfl (fun hh => ?_) (fun hh => ?_)
      · have hk : ((k : Nat) : Int) < v14 := by simpa using hh
        clear hh
        refine gw_skip ?_
        refine nx_then ?_
        refine gw_seq ?_
        refine gw_block ?_
        refine gw_seq ?_
        refine gw_region ?_
        refine wl_look (R := ∃ A cc, v = .slice A n9 cc) (fun wx hm => own_slice (hm.ownI 0 rfl)) ?_
        rintro ⟨A9, c9, rfl⟩
        refine wl_ov (ov_move rfl) rfl ?_
        refine wl_got (γ := Int) (val := fun v => .int .i64 v) (φ := fun v => -2000000000000000 ≤ v ∧ v ≤ 2000000000000000) rfl cb89 rfl rfl rfl rfl (fun wx hm => (odd_any _ _ wx B sb _ hm.k (by omega) (by omega) (by omega) (by omega))) fun v15 hv15 => ?_
        refine wl_ov (ov_move rfl) rfl ?_
        refine wl_buildSlice (e := 3) (cs := [.int .i64 1, .int .i64 1, .int .i64 2, .int .i64 3, .int .i64 7]) rfl (by kernel_rfl) rfl fun g16 => ?_
        refine wl_got (γ := Int) (val := fun v => .int .i64 v) (φ := fun v => v ∈ ([1, 1, 2, 3, 7] : List Int)) rfl cb23 rfl rfl rfl rfl (fun wx hm => (pick_any [1, 1, 2, 3, 7] _ _ _ wx B sb _ hm.k (by omega) (by simp) (by simp) (hm.blkI 0 rfl) (hm.neRow 0 rfl rfl))) fun v17 hv17 => ?_
        have bv17 : 1 ≤ v17 ∧ v17 ≤ 7 := mem_rng hv17 (by decide)
        have bv170 := bv17.1
        have bv171 := bv17.2
        clear bv17
        refine wl_ov (ov_move rfl) rfl ?_
        refine wl_buildSlice (e := 3) (cs := [.int .i64 50, .int .i64 70, .int .i64 200, .int .i64 10]) rfl (by kernel_rfl) rfl fun g18 => ?_
        refine wl_got (γ := Int) (val := fun v => .int .i64 v) (φ := fun v => v ∈ ([50, 70, 200, 10] : List Int)) rfl cb23 rfl rfl rfl rfl (fun wx hm => (pick_any [50, 70, 200, 10] _ _ _ wx B sb _ hm.k (by omega) (by simp) (by simp) (hm.blkI 0 rfl) (hm.neRow 0 rfl rfl))) fun v19 hv19 => ?_
        have bv19 : 10 ≤ v19 ∧ v19 ≤ 200 := mem_rng hv19 (by decide)
        have bv190 := bv19.1
        have bv191 := bv19.2
        clear bv19
        refine wl_ov (ov_build (cs := [.int .i64 v15, .int .i64 v17, .int .i64 v19]) rfl (by kernel_rfl)) rfl ?_
        refine wl_alloc zc79 rfl fun g20 => ?_
        refine wl_stores (cs' := [.int .i64 v15, .int .i64 v17, .int .i64 v19]) 0 rz79 rfl rfl rfl rfl rfl rfl rfl rfl ?_
        refine wl_nil ?_
        refine nx_then ?_
        refine gw_seq ?_
        refine gw_region ?_
        refine wl_ov (ov_move rfl) rfl ?_
        refine wl_ov (ov_len es72 rfl) rfl ?_
        refine wl_ov (ov_eql rfl rfl) rfl ?_
        refine wl_ov (ov_move rfl) rfl ?_
        rcases Bool.eq_false_or_eq_true (decide (((n9 : Nat) : Int) = 0)) with he | he
        · refine wl_set 43 rfl (congrArg Value.bool he) ?_
          refine wl_guard_off rfl rfl rfl (by decide) rfl ?_
          refine wl_guard_off rfl rfl rfl (by decide) rfl ?_
          refine wl_ov (ov_pick_t rfl rfl) rfl ?_
          refine wl_nil ?_
          refine nx_then ?_
          refine gw_cond rfl (fun _ => ?_) (fun hh => by cases hh)
          refine gw_region ?_
          refine wl_ov (ov_move rfl) rfl ?_
          refine wl_ov (ov_loads rz79 rfl (fun _ hm => hm.blkI 0 rfl) rfl rfl) rfl ?_
          refine wl_buildSlice (e := 79) (cs := [.int .i64 v15, .int .i64 v17, .int .i64 v19]) rfl (by kernel_rfl) rfl fun g21 => ?_
          refine wl_append (news := [.int .i64 v15, .int .i64 v17, .int .i64 v19]) 0 0 ap72 rfl rfl rfl rfl rfl rfl rfl (by omega) (by unfold maxLen; omega) rfl rfl fun v2 hv2 => ?_
          refine wl_ov (ov_assign rfl) rfl ?_
          refine wl_nil ?_
          refine nx_blk_nrm ?_
          refine nx_then ?_
          refine gw_region ?_
          refine wl_ov (ov_add rfl rfl (by omega) (by omega)) rfl ?_
          refine wl_ov (ov_move rfl) rfl ?_
          refine wl_nil ?_
          exact nx_round (k + 1, v2, n9 + 1, q ++ [⟨v15, v17, v19⟩], q.flatMap pcEnc ++ ([.int .i64 v15, .int .i64 v17, .int .i64 v19] : List Value)) ⟨by dsimp only; omega, by simp [hj1], by dsimp only; omega, pb_snoc hj3 (show PcB ⟨v15, v17, v19⟩ from ⟨by dsimp only; omega, by dsimp only; omega⟩), by simp [pcEnc]⟩ (by dsimp only; omega) ⟨rfl, rfl, rfl, rfl, (some_int (by omega)), trivial⟩ (fun _ hm => (hm.more rfl (by first | omega | (dsimp only; omega))).pick [] [0] [0] rfl rfl)
        · refine wl_set 43 rfl (congrArg Value.bool he) ?_
          have hn90 : 0 < n9 := by have h := of_decide_eq_false he; omega
          refine wl_guard_on rfl rfl rfl ?_
          refine wl_ov (ov_move rfl) rfl ?_
          refine wl_guard_on rfl rfl rfl ?_
          refine wl_got (γ := Bool) (val := fun v => .bool v) (φ := fun v => True) rfl cb87 rfl rfl rfl rfl (fun wx hm => ((flip_any _ wx B sb _ hm.k (by omega) (by omega) (by omega)).mono fun _ _ ⟨v, he, hS, hg⟩ => ⟨v, trivial, he, hS, hg⟩)) fun f22 _ => ?_
          refine wl_ov (ov_pick_f rfl rfl) rfl ?_
          refine wl_nil ?_
          refine nx_then ?_
          refine gw_cond rfl (fun hh => ?_) (fun hh => ?_)
          · have hf : f22 = true := by simpa using hh
            clear hh
            refine gw_region ?_
            refine wl_ov (ov_move rfl) rfl ?_
            refine wl_ov (ov_loads rz79 rfl (fun _ hm => hm.blkI 0 rfl) rfl rfl) rfl ?_
            refine wl_buildSlice (e := 79) (cs := [.int .i64 v15, .int .i64 v17, .int .i64 v19]) rfl (by kernel_rfl) rfl fun g23 => ?_
            refine wl_append (news := [.int .i64 v15, .int .i64 v17, .int .i64 v19]) 0 0 ap72 rfl rfl rfl rfl rfl rfl rfl (by omega) (by unfold maxLen; omega) rfl rfl fun v2 hv2 => ?_
            refine wl_ov (ov_assign rfl) rfl ?_
            refine wl_nil ?_
            refine nx_blk_nrm ?_
            refine nx_then ?_
            refine gw_region ?_
            refine wl_ov (ov_add rfl rfl (by omega) (by omega)) rfl ?_
            refine wl_ov (ov_move rfl) rfl ?_
            refine wl_nil ?_
            exact nx_round (k + 1, v2, n9 + 1, q ++ [⟨v15, v17, v19⟩], q.flatMap pcEnc ++ ([.int .i64 v15, .int .i64 v17, .int .i64 v19] : List Value)) ⟨by dsimp only; omega, by simp [hj1], by dsimp only; omega, pb_snoc hj3 (show PcB ⟨v15, v17, v19⟩ from ⟨by dsimp only; omega, by dsimp only; omega⟩), by simp [pcEnc]⟩ (by dsimp only; omega) ⟨rfl, rfl, rfl, rfl, (some_int (by omega)), trivial⟩ (fun _ hm => (hm.more rfl (by first | omega | (dsimp only; omega))).pick [] [0] [0] rfl rfl)
          · have hf : f22 = false := by simpa using hh
            clear hh
            refine gw_look (R := ∃ g, A9 = some ⟨g, 0, none⟩) (fun wx hm => own_addr (hm.ownI 0 rfl) hn90) ?_
            rintro ⟨bo, rfl⟩
            refine gw_draw (fun wz => Blk wz g20 79 [.int .i64 v15, .int .i64 v17, .int .i64 v19] ∧ Blk wz g18 3 [.int .i64 50, .int .i64 70, .int .i64 200, .int .i64 10] ∧ Blk wz g16 3 [.int .i64 1, .int .i64 1, .int .i64 2, .int .i64 3, .int .i64 7] ∧ (SlOld rtEnc 7 61 w.heap.size (some sb) A n l) wz ∧ True) mixed ?_
            refine wa_take 0 rfl (by kernel_rfl) (by kernel_rfl) (by kernel_rfl) (listed' := #[true, false, false, false, false, false, false, false]) rfl (fun _ _ _ h => h) (fun _ hm => ⟨hm.blkI 0 rfl, hm.blkI 1 rfl, hm.blkI 2 rfl, hm.fact 0 rfl, trivial⟩) (ov_move rfl) rfl ?_
            refine wa_take 1 rfl (by kernel_rfl) (by kernel_rfl) (by kernel_rfl) (listed' := #[true, true, false, false, false, false, false, false]) rfl (fun _ _ _ h => h) (fun _ hm => ⟨hm.blkI 0 rfl, hm.blkI 1 rfl, hm.blkI 2 rfl, hm.fact 0 rfl, trivial⟩) (ov_move rfl) rfl ?_
            refine wa_take 2 rfl (by kernel_rfl) (by kernel_rfl) (by kernel_rfl) (listed' := #[true, true, true, false, false, false, false, false]) rfl (fun _ _ _ h => h) (fun _ hm => ⟨hm.blkI 0 rfl, hm.blkI 1 rfl, hm.blkI 2 rfl, hm.fact 0 rfl, trivial⟩) (ov_move rfl) rfl ?_
            refine wa_take 3 rfl (by kernel_rfl) (by kernel_rfl) (by kernel_rfl) (listed' := #[true, true, true, true, false, false, false, false]) rfl (fun _ _ _ h => h) (fun _ hm => ⟨hm.blkI 0 rfl, hm.blkI 1 rfl, hm.blkI 2 rfl, hm.fact 0 rfl, trivial⟩) (ov_len es72 rfl) rfl ?_
            refine wa_take 5 rfl (by kernel_rfl) (by kernel_rfl) (by kernel_rfl) (listed' := #[true, true, true, true, false, true, false, false]) rfl (fun _ _ _ h => h) (fun _ hm => ⟨hm.blkI 0 rfl, hm.blkI 1 rfl, hm.blkI 2 rfl, hm.fact 0 rfl, trivial⟩) (ov_loads rz79 rfl (fun _ hm => hm.1) rfl rfl) rfl ?_
            refine wa_all [4] (by kernel_rfl) rfl ⟨⟨_, rfl, ?_⟩, trivial⟩
            refine wl_got (γ := Int) (val := fun v => .int .i64 v) (φ := fun v => IsBelow ((n9 : Nat) : Int) v) rfl cb88 rfl rfl rfl rfl (fun wx hm => (next_any _ wx B sb _ hm.k (by omega) (by omega) (by omega))) fun vj hvj => ?_
            have hj := isBelow_lt hvj (by omega)
            obtain ⟨i, rfl⟩ := Int.eq_ofNat_of_zero_le hj.1
            have hij : i < n9 := by omega
            obtain ⟨y, hy⟩ : ∃ y, q[i]? = some y := ⟨_, List.getElem?_eq_getElem (by omega)⟩
            obtain ⟨y0, y1, y2⟩ := y
            refine wl_nil ?_
            refine nx_wa0 (listed' := #[true, true, true, true, true, true, false, false]) rfl (fun _ hm => ⟨hm.blkI 0 rfl, hm.blkI 1 rfl, hm.blkI 2 rfl, hm.fact 0 rfl, trivial⟩) ?_
            refine wa_take 6 rfl (by kernel_rfl) (by kernel_rfl) (by kernel_rfl) (listed' := #[true, true, true, true, true, true, true, false]) rfl (fun _ _ _ h => h) (fun _ hm => ⟨hm.blkI 0 rfl, hm.blkI 1 rfl, hm.blkI 2 rfl, hm.fact 0 rfl, trivial⟩) (ov_index (j := i) es72 rfl rfl (by omega)) rfl ?_
            refine wa_all [7] (by kernel_rfl) rfl ⟨⟨_, rfl, ?_⟩, trivial⟩
            refine wl_storesE (l := q) (j := i) (r := 0) (el := ⟨y0, y1, y2⟩) (el' := ⟨v15, v17, v19⟩) 0 rz79 rfl rfl rfl rfl rfl pc_len rfl hy hj1 (by decide) rfl rfl ?_
            refine wl_nil ?_
            refine nx_wa0 (listed' := #[true, true, true, true, true, true, true, true]) rfl (fun _ hm => ⟨hm.blkI 0 rfl, hm.blkI 1 rfl, hm.blkI 2 rfl, hm.fact 0 rfl, trivial⟩) ?_
            refine wa_done (by kernel_rfl) ?_
            refine nx_blk_nrm ?_
            refine nx_then ?_
            refine gw_region ?_
            refine wl_ov (ov_add rfl rfl (by omega) (by omega)) rfl ?_
            refine wl_ov (ov_move rfl) rfl ?_
            refine wl_nil ?_
            exact nx_round (k + 1, .slice (some ⟨bo, 0, none⟩) n9 c9, n9, q.set i ⟨v15, v17, v19⟩, (q.set (i) ⟨v15, v17, v19⟩).flatMap pcEnc) ⟨by dsimp only; omega, (by simp; exact hj1), by dsimp only; omega, pb_set hj3 (show PcB ⟨v15, v17, v19⟩ from ⟨by dsimp only; omega, by dsimp only; omega⟩), rfl⟩ (by dsimp only; omega) ⟨rfl, rfl, rfl, rfl, (some_int (by omega)), trivial⟩ (fun _ hm => (hm.more rfl (by first | omega | (dsimp only; omega))).pick [] [0] [0] rfl rfl)
      · have hk : ¬ (((k : Nat) : Int) < v14) := by simpa using hh
        clear hh
        refine gw_exit ?_
        refine nx_then_exit ?_
        refine nx_then_exit ?_
        refine nx_blk_here ?_
        refine nx_then ?_
        refine gw_seq ?_
        refine gw_region ?_
        refine wl_look (R := ∃ A cc, v = .slice A n9 cc) (fun wx hm => own_slice (hm.ownI 0 rfl)) ?_
        rintro ⟨A9, c9, rfl⟩
        refine wl_ov (ov_move rfl) rfl ?_
        refine wl_ov (ov_assign rfl) rfl ?_
        refine wl_nil ?_
        refine nx_then ?_
        refine gw_ret ?_
        refine nx_ret1 rfl rfl fun wx hm => ?_
        exact ⟨A9, n9, c9, q, rfl, SlT.ofOwn pc_len (hm.ownI 0 rfl) hj1, hj3, by omega, hm.k.more (by omega), hm.g⟩
  · refine wl_set 14 rfl (congrArg Value.bool hr1) ?_
    refine wl_nilOwn 79 3 ?_
    refine wl_guard_off rfl rfl rfl (by decide) rfl ?_
    refine wl_guard_off rfl rfl rfl (by decide) rfl ?_
    refine wl_guard_off rfl rfl rfl (by decide) rfl ?_
    refine wl_ov (ov_pick_f rfl rfl) rfl ?_
    refine wl_nil ?_
    refine nx_then ?_
    refine gw_cond rfl (fun hh => by cases hh) (fun _ => ?_)
    refine gw_skip ?_
    refine nx_then ?_
    refine gw_seq ?_
    refine gw_seq ?_
    refine gw_region ?_
    refine wl_ov (ov_move rfl) rfl ?_
    refine wl_buildSlice (e := 3) (cs := [.int .i64 0, .int .i64 0, .int .i64 1, .int .i64 2]) rfl (by kernel_rfl) rfl fun g24 => ?_
    refine wl_got (γ := Int) (val := fun v => .int .i64 v) (φ := fun v => v ∈ ([0, 0, 1, 2] : List Int)) rfl cb23 rfl rfl rfl rfl (fun wx hm => (pick_any [0, 0, 1, 2] _ _ _ wx B sb _ hm.k (by omega) (by simp) (by simp) (hm.blkI 0 rfl) (hm.neRow 0 rfl rfl))) fun v25 hv25 => ?_
    have bv25 : 0 ≤ v25 ∧ v25 ≤ 2 := mem_rng hv25 (by decide)
    have bv250 := bv25.1
    have bv251 := bv25.2
    clear bv25
    refine wl_ov (ov_move rfl) rfl ?_
    refine wl_nil ?_
    refine nx_then ?_
    refine gw_block ?_
    refine gw_loop (γ := Nat × Value × Nat × List Pc × List Value) (fun (g : Nat × Value × Nat × List Pc × List Value) => (g.1 : Int) ≤ v25 ∧ g.2.2.2.1.length = g.2.2.1 ∧ g.2.2.1 ≤ 120 + g.1 ∧ (∀ x ∈ g.2.2.2.1, PcB x) ∧ g.2.2.2.2 = g.2.2.2.1.flatMap pcEnc) (fun (g : Nat × Value × Nat × List Pc × List Value) => [(0, .pointer (some ⟨sb, 0, none⟩)), (8, .slice none 0 0), (9, g.2.1), (28, .int .i64 v25), (29, .int .i64 ((g.1 : Nat) : Int))]) (fun (g : Nat × Value × Nat × List Pc × List Value) => fun w => Strm 25 w B sb (m + 1 + 10 * g.1)) (fun (g : Nat × Value × Nat × List Pc × List Value) => []) (fun (g : Nat × Value × Nat × List Pc × List Value) => [⟨g.2.1, 79, 3, g.2.2.1, g.2.2.2.2⟩]) (fun (g : Nat × Value × Nat × List Pc × List Value) => [SlOld rtEnc 7 61 w.heap.size (some sb) A n l]) (fun (g : Nat × Value × Nat × List Pc × List Value) => (v25 - ((g.1 : Nat) : Int)).toNat) (0, .slice none 0 0, 0, ([] : List Pc), ([] : List Pc).flatMap pcEnc) ⟨by dsimp only; omega, rfl, by dsimp only; omega, (fun _ h => by cases h), rfl⟩ ⟨rfl, rfl, rfl, rfl, rfl, trivial⟩ (fun _ hm => (hm.more rfl (by first | omega | (dsimp only; omega))).pick [] [0] [0] rfl rfl) ?_
    rintro ⟨k, v, n9, q, xs9⟩ hinv
    replace hinv : (k : Int) ≤ v25 ∧ q.length = n9 ∧ n9 ≤ 120 + k ∧ (∀ x ∈ q, PcB x) ∧ xs9 = q.flatMap pcEnc := hinv
    dsimp only
    refine gw_seq ?_
    refine gw_region ?_
    obtain ⟨hj0, hj1, hj2, hj3, rfl⟩ := hinv
    refine wl_ov (ov_lss rfl rfl) rfl ?_
    refine wl_nil ?_
    refine nx_then ?_
    refine gw_seq ?_
    refine gw_cond rfl (fun hh => ?_) (fun hh => ?_)
    · have hk : ((k : Nat) : Int) < v25 := by simpa using hh
      clear hh
      refine gw_skip ?_
      refine nx_then ?_
      refine gw_seq ?_
      refine gw_block ?_
      refine gw_seq ?_
      refine gw_region ?_
      refine wl_look (R := ∃ A cc, v = .slice A n9 cc) (fun wx hm => own_slice (hm.ownI 0 rfl)) ?_
      rintro ⟨A9, c9, rfl⟩
      refine wl_ov (ov_move rfl) rfl ?_
      refine wl_got (γ := Int) (val := fun v => .int .i64 v) (φ := fun v => -2000000000000000 ≤ v ∧ v ≤ 2000000000000000) rfl cb89 rfl rfl rfl rfl (fun wx hm => (odd_any _ _ wx B sb _ hm.k (by omega) (by omega) (by omega) (by omega))) fun v26 hv26 => ?_
      refine wl_ov (ov_move rfl) rfl ?_
      refine wl_buildSlice (e := 3) (cs := [.int .i64 1, .int .i64 1, .int .i64 2, .int .i64 3, .int .i64 7]) rfl (by kernel_rfl) rfl fun g27 => ?_
      refine wl_got (γ := Int) (val := fun v => .int .i64 v) (φ := fun v => v ∈ ([1, 1, 2, 3, 7] : List Int)) rfl cb23 rfl rfl rfl rfl (fun wx hm => (pick_any [1, 1, 2, 3, 7] _ _ _ wx B sb _ hm.k (by omega) (by simp) (by simp) (hm.blkI 0 rfl) (hm.neRow 0 rfl rfl))) fun v28 hv28 => ?_
      have bv28 : 1 ≤ v28 ∧ v28 ≤ 7 := mem_rng hv28 (by decide)
      have bv280 := bv28.1
      have bv281 := bv28.2
      clear bv28
      refine wl_ov (ov_move rfl) rfl ?_
      refine wl_buildSlice (e := 3) (cs := [.int .i64 50, .int .i64 70, .int .i64 200, .int .i64 10]) rfl (by kernel_rfl) rfl fun g29 => ?_
      refine wl_got (γ := Int) (val := fun v => .int .i64 v) (φ := fun v => v ∈ ([50, 70, 200, 10] : List Int)) rfl cb23 rfl rfl rfl rfl (fun wx hm => (pick_any [50, 70, 200, 10] _ _ _ wx B sb _ hm.k (by omega) (by simp) (by simp) (hm.blkI 0 rfl) (hm.neRow 0 rfl rfl))) fun v30 hv30 => ?_
      have bv30 : 10 ≤ v30 ∧ v30 ≤ 200 := mem_rng hv30 (by decide)
      have bv300 := bv30.1
      have bv301 := bv30.2
      clear bv30
      refine wl_ov (ov_build (cs := [.int .i64 v26, .int .i64 v28, .int .i64 v30]) rfl (by kernel_rfl)) rfl ?_
      refine wl_alloc zc79 rfl fun g31 => ?_
      refine wl_stores (cs' := [.int .i64 v26, .int .i64 v28, .int .i64 v30]) 0 rz79 rfl rfl rfl rfl rfl rfl rfl rfl ?_
      refine wl_nil ?_
      refine nx_then ?_
      refine gw_seq ?_
      refine gw_region ?_
      refine wl_ov (ov_move rfl) rfl ?_
      refine wl_ov (ov_len es72 rfl) rfl ?_
      refine wl_ov (ov_eql rfl rfl) rfl ?_
      refine wl_ov (ov_move rfl) rfl ?_
      rcases Bool.eq_false_or_eq_true (decide (((n9 : Nat) : Int) = 0)) with he | he
      · refine wl_set 43 rfl (congrArg Value.bool he) ?_
        refine wl_guard_off rfl rfl rfl (by decide) rfl ?_
        refine wl_guard_off rfl rfl rfl (by decide) rfl ?_
        refine wl_ov (ov_pick_t rfl rfl) rfl ?_
        refine wl_nil ?_
        refine nx_then ?_
        refine gw_cond rfl (fun _ => ?_) (fun hh => by cases hh)
        refine gw_region ?_
        refine wl_ov (ov_move rfl) rfl ?_
        refine wl_ov (ov_loads rz79 rfl (fun _ hm => hm.blkI 0 rfl) rfl rfl) rfl ?_
        refine wl_buildSlice (e := 79) (cs := [.int .i64 v26, .int .i64 v28, .int .i64 v30]) rfl (by kernel_rfl) rfl fun g32 => ?_
        refine wl_append (news := [.int .i64 v26, .int .i64 v28, .int .i64 v30]) 0 0 ap72 rfl rfl rfl rfl rfl rfl rfl (by omega) (by unfold maxLen; omega) rfl rfl fun v2 hv2 => ?_
        refine wl_ov (ov_assign rfl) rfl ?_
        refine wl_nil ?_
        refine nx_blk_nrm ?_
        refine nx_then ?_
        refine gw_region ?_
        refine wl_ov (ov_add rfl rfl (by omega) (by omega)) rfl ?_
        refine wl_ov (ov_move rfl) rfl ?_
        refine wl_nil ?_
        exact nx_round (k + 1, v2, n9 + 1, q ++ [⟨v26, v28, v30⟩], q.flatMap pcEnc ++ ([.int .i64 v26, .int .i64 v28, .int .i64 v30] : List Value)) ⟨by dsimp only; omega, by simp [hj1], by dsimp only; omega, pb_snoc hj3 (show PcB ⟨v26, v28, v30⟩ from ⟨by dsimp only; omega, by dsimp only; omega⟩), by simp [pcEnc]⟩ (by dsimp only; omega) ⟨rfl, rfl, rfl, rfl, (some_int (by omega)), trivial⟩ (fun _ hm => (hm.more rfl (by first | omega | (dsimp only; omega))).pick [] [0] [0] rfl rfl)
      · refine wl_set 43 rfl (congrArg Value.bool he) ?_
        have hn90 : 0 < n9 := by have h := of_decide_eq_false he; omega
        refine wl_guard_on rfl rfl rfl ?_
        refine wl_ov (ov_move rfl) rfl ?_
        refine wl_guard_on rfl rfl rfl ?_
        refine wl_got (γ := Bool) (val := fun v => .bool v) (φ := fun v => True) rfl cb87 rfl rfl rfl rfl (fun wx hm => ((flip_any _ wx B sb _ hm.k (by omega) (by omega) (by omega)).mono fun _ _ ⟨v, he, hS, hg⟩ => ⟨v, trivial, he, hS, hg⟩)) fun f33 _ => ?_
        refine wl_ov (ov_pick_f rfl rfl) rfl ?_
        refine wl_nil ?_
        refine nx_then ?_
        refine gw_cond rfl (fun hh => ?_) (fun hh => ?_)
        · have hf : f33 = true := by simpa using hh
          clear hh
          refine gw_region ?_
          refine wl_ov (ov_move rfl) rfl ?_
          refine wl_ov (ov_loads rz79 rfl (fun _ hm => hm.blkI 0 rfl) rfl rfl) rfl ?_
          refine wl_buildSlice (e := 79) (cs := [.int .i64 v26, .int .i64 v28, .int .i64 v30]) rfl (by kernel_rfl) rfl fun g34 => ?_
          refine wl_append (news := [.int .i64 v26, .int .i64 v28, .int .i64 v30]) 0 0 ap72 rfl rfl rfl rfl rfl rfl rfl (by omega) (by unfold maxLen; omega) rfl rfl fun v2 hv2 => ?_
          refine wl_ov (ov_assign rfl) rfl ?_
          refine wl_nil ?_
          refine nx_blk_nrm ?_
          refine nx_then ?_
          refine gw_region ?_
          refine wl_ov (ov_add rfl rfl (by omega) (by omega)) rfl ?_
          refine wl_ov (ov_move rfl) rfl ?_
          refine wl_nil ?_
          exact nx_round (k + 1, v2, n9 + 1, q ++ [⟨v26, v28, v30⟩], q.flatMap pcEnc ++ ([.int .i64 v26, .int .i64 v28, .int .i64 v30] : List Value)) ⟨by dsimp only; omega, by simp [hj1], by dsimp only; omega, pb_snoc hj3 (show PcB ⟨v26, v28, v30⟩ from ⟨by dsimp only; omega, by dsimp only; omega⟩), by simp [pcEnc]⟩ (by dsimp only; omega) ⟨rfl, rfl, rfl, rfl, (some_int (by omega)), trivial⟩ (fun _ hm => (hm.more rfl (by first | omega | (dsimp only; omega))).pick [] [0] [0] rfl rfl)
        · have hf : f33 = false := by simpa using hh
          clear hh
          refine gw_look (R := ∃ g, A9 = some ⟨g, 0, none⟩) (fun wx hm => own_addr (hm.ownI 0 rfl) hn90) ?_
          rintro ⟨bo, rfl⟩
          refine gw_draw (fun wz => Blk wz g31 79 [.int .i64 v26, .int .i64 v28, .int .i64 v30] ∧ Blk wz g29 3 [.int .i64 50, .int .i64 70, .int .i64 200, .int .i64 10] ∧ Blk wz g27 3 [.int .i64 1, .int .i64 1, .int .i64 2, .int .i64 3, .int .i64 7] ∧ (SlOld rtEnc 7 61 w.heap.size (some sb) A n l) wz ∧ True) mixed ?_
          refine wa_take 0 rfl (by kernel_rfl) (by kernel_rfl) (by kernel_rfl) (listed' := #[true, false, false, false, false, false, false, false]) rfl (fun _ _ _ h => h) (fun _ hm => ⟨hm.blkI 0 rfl, hm.blkI 1 rfl, hm.blkI 2 rfl, hm.fact 0 rfl, trivial⟩) (ov_move rfl) rfl ?_
          refine wa_take 1 rfl (by kernel_rfl) (by kernel_rfl) (by kernel_rfl) (listed' := #[true, true, false, false, false, false, false, false]) rfl (fun _ _ _ h => h) (fun _ hm => ⟨hm.blkI 0 rfl, hm.blkI 1 rfl, hm.blkI 2 rfl, hm.fact 0 rfl, trivial⟩) (ov_move rfl) rfl ?_
          refine wa_take 2 rfl (by kernel_rfl) (by kernel_rfl) (by kernel_rfl) (listed' := #[true, true, true, false, false, false, false, false]) rfl (fun _ _ _ h => h) (fun _ hm => ⟨hm.blkI 0 rfl, hm.blkI 1 rfl, hm.blkI 2 rfl, hm.fact 0 rfl, trivial⟩) (ov_move rfl) rfl ?_
          refine wa_take 3 rfl (by kernel_rfl) (by kernel_rfl) (by kernel_rfl) (listed' := #[true, true, true, true, false, false, false, false]) rfl (fun _ _ _ h => h) (fun _ hm => ⟨hm.blkI 0 rfl, hm.blkI 1 rfl, hm.blkI 2 rfl, hm.fact 0 rfl, trivial⟩) (ov_len es72 rfl) rfl ?_
          refine wa_take 5 rfl (by kernel_rfl) (by kernel_rfl) (by kernel_rfl) (listed' := #[true, true, true, true, false, true, false, false]) rfl (fun _ _ _ h => h) (fun _ hm => ⟨hm.blkI 0 rfl, hm.blkI 1 rfl, hm.blkI 2 rfl, hm.fact 0 rfl, trivial⟩) (ov_loads rz79 rfl (fun _ hm => hm.1) rfl rfl) rfl ?_
          refine wa_all [4] (by kernel_rfl) rfl ⟨⟨_, rfl, ?_⟩, trivial⟩
          refine wl_got (γ := Int) (val := fun v => .int .i64 v) (φ := fun v => IsBelow ((n9 : Nat) : Int) v) rfl cb88 rfl rfl rfl rfl (fun wx hm => (next_any _ wx B sb _ hm.k (by omega) (by omega) (by omega))) fun vj hvj => ?_
          have hj := isBelow_lt hvj (by omega)
          obtain ⟨i, rfl⟩ := Int.eq_ofNat_of_zero_le hj.1
          have hij : i < n9 := by omega
          obtain ⟨y, hy⟩ : ∃ y, q[i]? = some y := ⟨_, List.getElem?_eq_getElem (by omega)⟩
          obtain ⟨y0, y1, y2⟩ := y
          refine wl_nil ?_
          refine nx_wa0 (listed' := #[true, true, true, true, true, true, false, false]) rfl (fun _ hm => ⟨hm.blkI 0 rfl, hm.blkI 1 rfl, hm.blkI 2 rfl, hm.fact 0 rfl, trivial⟩) ?_
          refine wa_take 6 rfl (by kernel_rfl) (by kernel_rfl) (by kernel_rfl) (listed' := #[true, true, true, true, true, true, true, false]) rfl (fun _ _ _ h => h) (fun _ hm => ⟨hm.blkI 0 rfl, hm.blkI 1 rfl, hm.blkI 2 rfl, hm.fact 0 rfl, trivial⟩) (ov_index (j := i) es72 rfl rfl (by omega)) rfl ?_
          refine wa_all [7] (by kernel_rfl) rfl ⟨⟨_, rfl, ?_⟩, trivial⟩
          refine wl_storesE (l := q) (j := i) (r := 0) (el := ⟨y0, y1, y2⟩) (el' := ⟨v26, v28, v30⟩) 0 rz79 rfl rfl rfl rfl rfl pc_len rfl hy hj1 (by decide) rfl rfl ?_
          refine wl_nil ?_
          refine nx_wa0 (listed' := #[true, true, true, true, true, true, true, true]) rfl (fun _ hm => ⟨hm.blkI 0 rfl, hm.blkI 1 rfl, hm.blkI 2 rfl, hm.fact 0 rfl, trivial⟩) ?_
          refine wa_done (by kernel_rfl) ?_
          refine nx_blk_nrm ?_
          refine nx_then ?_
          refine gw_region ?_
          refine wl_ov (ov_add rfl rfl (by omega) (by omega)) rfl ?_
          refine wl_ov (ov_move rfl) rfl ?_
          refine wl_nil ?_
          exact nx_round (k + 1, .slice (some ⟨bo, 0, none⟩) n9 c9, n9, q.set i ⟨v26, v28, v30⟩, (q.set (i) ⟨v26, v28, v30⟩).flatMap pcEnc) ⟨by dsimp only; omega, (by simp; exact hj1), by dsimp only; omega, pb_set hj3 (show PcB ⟨v26, v28, v30⟩ from ⟨by dsimp only; omega, by dsimp only; omega⟩), rfl⟩ (by dsimp only; omega) ⟨rfl, rfl, rfl, rfl, (some_int (by omega)), trivial⟩ (fun _ hm => (hm.more rfl (by first | omega | (dsimp only; omega))).pick [] [0] [0] rfl rfl)
    · have hk : ¬ (((k : Nat) : Int) < v25) := by simpa using hh
      clear hh
      refine gw_exit ?_
      refine nx_then_exit ?_
      refine nx_then_exit ?_
      refine nx_blk_here ?_
      refine nx_then ?_
      refine gw_seq ?_
      refine gw_region ?_
      refine wl_look (R := ∃ A cc, v = .slice A n9 cc) (fun wx hm => own_slice (hm.ownI 0 rfl)) ?_
      rintro ⟨A9, c9, rfl⟩
      refine wl_ov (ov_move rfl) rfl ?_
      refine wl_ov (ov_assign rfl) rfl ?_
      refine wl_nil ?_
      refine nx_then ?_
      refine gw_ret ?_
      refine nx_ret1 rfl rfl fun wx hm => ?_
      exact ⟨A9, n9, c9, q, rfl, SlT.ofOwn pc_len (hm.ownI 0 rfl) hj1, hj3, by omega, hm.k.more (by omega), hm.g⟩

set_option maxRecDepth 100000 in
set_option maxHeartbeats 2000000 in
theorem cost_walk (a0 : Option Addr) (len0 cap0 : Nat) (z0 : List Int) (w : World) (hR : RowIn w a0 len0 cap0 z0) :
    Calls Tryd.prog 8 #[.slice a0 len0 cap0] w fun e w' => e = .returned (.bool true) ∧ Below w.heap.size w w' := by
  refine gw_enter ⟨63, w, none, []⟩ Tryd.func8 rfl Tryd.ntmps8 rfl (mem0 (X := []) allF_nil allL_nil) ?_
  refine gw_seq ?_
  refine gw_region ?_
  refine wl_ov (ov_assign rfl) rfl ?_
  refine wl_nil ?_
  refine nx_then ?_
  refine gw_seq ?_
  refine gw_region ?_
  refine wl_ov (ov_move rfl) rfl ?_
  refine wl_ov (ov_build (cs := [.slice a0 len0 cap0, .int .i64 0]) rfl (by kernel_rfl)) rfl ?_
  refine wl_box rfl rfl rfl fun sb => ?_
  refine wl_ov (ov_assign rfl) rfl ?_
  refine wl_nil ?_
  refine nx_then ?_
  refine gw_seq ?_
  refine gw_region ?_
  refine wl_ov (ov_move rfl) rfl ?_
  refine wl_law [61, 79] hR 0 rfl fun w1 B hg1 hsb => ?_
  refine wl_calls (γ := Option Addr × Nat × Nat × List Rt) (val := (fun (g : Option Addr × Nat × Nat × List Rt) => .slice g.1 g.2.1 g.2.2.1)) (φ := (fun (g : Option Addr × Nat × Nat × List Rt) => (∀ x ∈ g.2.2.2, RtOk x) ∧ g.2.1 ≤ 10 ∧ g.2.1 ≤ g.2.2.1 ∧ g.2.2.2.length = g.2.1)) (Y := (fun (g : Option Addr × Nat × Nat × List Rt) => fun wy => SlT rtEnc 7 61 wy g.1 g.2.1 g.2.2.2)) (m' := 0 + 200) rfl cb28 rfl rfl rfl rfl (fun wx hm => (grates_any wx B sb _ hm.k (by omega)).mono fun _ _ ⟨A, n, c0, l, he, hsl, hok, hn, hnc, hS, hg⟩ => ⟨(A, n, c0, l), he, ⟨hok, hn, hnc, hsl.len⟩, hS, hg, hsl⟩) (fun _ => SlT.lasts2 rfl) ?_
  rintro ⟨A, n, c0, l⟩ hR1
  dsimp only at hR1 ⊢
  obtain ⟨hok, hn10, hnc, hlen⟩ := hR1
  refine wl_ov (ov_move rfl) rfl ?_
  refine wl_calls (γ := ByteArray) (val := (fun (g : ByteArray) => .string g)) (φ := (fun (g : ByteArray) => g.size ≤ 100)) (Y := (fun (g : ByteArray) => fun _ => True)) (m' := 0 + 200 + 1) rfl cb30 rfl rfl rfl rfl (fun wx hm => (gclassKey_any wx B sb _ hm.k (by omega)).mono fun _ _ ⟨v, he, hv, hS, hg⟩ => ⟨v, he, hv, hS, hg, trivial⟩) (fun _ => Lasts2.true_) ?_
  rintro c hc1
  refine wl_ov (ov_move rfl) rfl ?_
  refine wl_calls (γ := Int × Int) (val := (fun (g : Int × Int) => .agg #[.int .i64 g.1, .int .i64 g.2])) (φ := (fun (g : Int × Int) => Far g.1 ∧ Far g.2)) (Y := (fun (g : Int × Int) => fun _ => True)) (m' := 0 + 200 + 1 + 10) rfl cb29 rfl rfl rfl rfl (fun wx hm => (gtime_any wx B sb _ hm.k (by omega)).mono fun _ _ ⟨fr, tt, h1, h2, he, hS, hg⟩ => ⟨(fr, tt), he, ⟨h1, h2⟩, hS, hg, trivial⟩) (fun _ => Lasts2.true_) ?_
  rintro ⟨fr, tt⟩ hT1
  dsimp only at hT1 ⊢
  obtain ⟨⟨hf0, hf1⟩, hf2, hf3⟩ := hT1
  refine wl_alloc zc56 rfl fun g3 => ?_
  refine wl_ov (ov_assign rfl) rfl ?_
  refine wl_ov (ov_assign rfl) rfl ?_
  refine wl_stores (cs' := [.int .i64 fr, .int .i64 tt]) 0 rz56 rfl rfl rfl rfl rfl rfl rfl rfl ?_
  refine wl_nil ?_
  refine nx_then ?_
  refine gw_seq ?_
  refine gw_region ?_
  refine wl_ov (ov_move rfl) rfl ?_
  refine wl_ov (ov_move rfl) rfl ?_
  refine wl_ov (ov_move rfl) rfl ?_
  refine wl_ov (ov_loads rz56 rfl (fun _ hm => hm.blkI 0 rfl) rfl rfl) rfl ?_
  refine wl_calls (γ := Option Addr × Nat × Nat × List Pc) (val := (fun (g : Option Addr × Nat × Nat × List Pc) => .slice g.1 g.2.1 g.2.2.1)) (φ := (fun (g : Option Addr × Nat × Nat × List Pc) => (∀ p ∈ g.2.2.2, PcB p) ∧ g.2.1 ≤ 200 ∧ g.2.2.2.length = g.2.1)) (Y := (fun (g : Option Addr × Nat × Nat × List Pc) => fun wy => SlT pcEnc 3 79 wy g.1 g.2.1 g.2.2.2)) (m' := 0 + 200 + 1 + 10 + 50) rfl cb47 rfl rfl rfl rfl (fun wx hm => (gpieces_any l A n c0 c fr tt wx B sb _ hm.k (by omega) (hm.fact 2 rfl) hok (by omega)).mono fun _ _ ⟨A2, n2, c2, ps, he, hs, hb, hn2, hS, hg⟩ => ⟨(A2, n2, c2, ps), he, ⟨hb, hn2, hs.len⟩, hS, hg, hs⟩) (fun _ => SlT.lasts2 rfl) ?_
  rintro ⟨A5, n5, c5, qp⟩ hqp
  dsimp only at hqp ⊢
  obtain ⟨hqb, hqn, hql⟩ := hqp
  obtain ⟨RE, hRE⟩ : ∃ E, E = ratesE l := ⟨_, rfl⟩
  obtain ⟨CV, hCV⟩ : ∃ E, E = costV l c fr tt qp := ⟨_, rfl⟩
  obtain ⟨cv, ce⟩ := CV
  refine wl_ov (ov_assign rfl) rfl ?_
  refine wl_nil ?_
  refine nx_then ?_
  refine gw_seq ?_
  refine gw_region ?_
  refine wl_ov (ov_move rfl) rfl ?_
  refine wl_ov (ov_move rfl) rfl ?_
  refine wl_ov (ov_loads rz56 rfl (fun _ hm => hm.blkI 0 rfl) rfl rfl) rfl ?_
  refine wl_ov (ov_move rfl) rfl ?_
  refine wl_callv (v := .tuple #[.int .i64 cv, .int .i64 ce]) rfl cb48 rfl rfl (fun wx hm => (by have h := tCost_any l A n c0 c fr tt qp A5 n5 c5 wx (hm.fact 3 rfl) hok (by omega) (by omega) (hm.fact 0 rfl) (by omega) hqb; rw [← hCV] at h; exact h)) ?_
  refine wl_ov (ov_move rfl) rfl ?_
  refine wl_ov (ov_extract rfl rfl) rfl ?_
  refine wl_ov (ov_extract rfl rfl) rfl ?_
  refine wl_ov (ov_assign rfl) rfl ?_
  refine wl_ov (ov_assign rfl) rfl ?_
  refine wl_nil ?_
  refine nx_then ?_
  refine gw_seq ?_
  refine gw_draw (fun wz => Blk wz g3 56 [.int .i64 fr, .int .i64 tt] ∧ (fun wy => SlT pcEnc 3 79 wy A5 n5 qp) wz ∧ (fun _ => True) wz ∧ (fun _ => True) wz ∧ (fun wy => SlT rtEnc 7 61 wy A n l) wz ∧ True) mixed ?_
  refine wa_take 0 rfl (by kernel_rfl) (by kernel_rfl) (by kernel_rfl) (listed' := #[true, false, false, false, false, false, false, false, false, false]) rfl (fun _ _ _ h => h) (fun _ hm => ⟨hm.blkI 0 rfl, hm.fact 0 rfl, hm.fact 1 rfl, hm.fact 2 rfl, hm.fact 3 rfl, trivial⟩) (ov_move rfl) rfl ?_
  refine wa_take 2 rfl (by kernel_rfl) (by kernel_rfl) (by kernel_rfl) (listed' := #[true, false, true, false, false, false, false, false, false, false]) rfl (fun _ _ _ h => h) (fun _ hm => ⟨hm.blkI 0 rfl, hm.fact 0 rfl, hm.fact 1 rfl, hm.fact 2 rfl, hm.fact 3 rfl, trivial⟩) (ov_move rfl) rfl ?_
  refine wa_take 4 rfl (by kernel_rfl) (by kernel_rfl) (by kernel_rfl) (listed' := #[true, false, true, false, true, false, false, false, false, false]) rfl (fun _ _ _ h => h) (fun _ hm => ⟨hm.blkI 0 rfl, hm.fact 0 rfl, hm.fact 1 rfl, hm.fact 2 rfl, hm.fact 3 rfl, trivial⟩) (ov_loads rz56 rfl (fun _ hm => hm.1) rfl rfl) rfl ?_
  refine wa_all [1] (by kernel_rfl) rfl ⟨⟨_, rfl, ?_⟩, trivial⟩
  refine wl_callv (v := .int .i64 RE) rfl cb33 rfl rfl (fun wx hm => (by rw [hRE]; exact ratesFault_any l A n c0 wx (hm.fact 3 rfl) hok (by omega))) ?_
  refine wl_nil ?_
  refine nx_wa0 (listed' := #[true, true, true, false, true, false, false, false, false, false]) rfl (fun _ hm => ⟨hm.blkI 0 rfl, hm.fact 0 rfl, hm.fact 1 rfl, hm.fact 2 rfl, hm.fact 3 rfl, trivial⟩) ?_
  refine wa_all [3] (by kernel_rfl) rfl ⟨⟨_, rfl, ?_⟩, trivial⟩
  refine wl_callv rfl cb38 rfl rfl (fun wx hm => (keyFault_any c wx (by omega))) ?_
  refine wl_nil ?_
  refine nx_wa0 (listed' := #[true, true, true, true, true, false, false, false, false, false]) rfl (fun _ hm => ⟨hm.blkI 0 rfl, hm.fact 0 rfl, hm.fact 1 rfl, hm.fact 2 rfl, hm.fact 3 rfl, trivial⟩) ?_
  refine wa_all [5] (by kernel_rfl) rfl ⟨⟨_, rfl, ?_⟩, trivial⟩
  refine wl_callv rfl cb35 rfl rfl (fun wx hm => (timeFault_any _ _ wx)) ?_
  refine wl_nil ?_
  refine nx_wa0 (listed' := #[true, true, true, true, true, true, false, false, false, false]) rfl (fun _ hm => ⟨hm.blkI 0 rfl, hm.fact 0 rfl, hm.fact 1 rfl, hm.fact 2 rfl, hm.fact 3 rfl, trivial⟩) ?_
  refine wa_all [6] (by kernel_rfl) rfl ⟨⟨_, rfl, ?_⟩, trivial⟩
  refine wl_buildSlice (e := 29) (cs := [.int .i64 RE, .int .i64 (whenE (!keyB c) 5), .int .i64 (timeE fr tt)]) rfl (by kernel_rfl) rfl fun g4 => ?_
  refine wl_nil ?_
  refine nx_wa0 (listed' := #[true, true, true, true, true, true, true, false, false, false]) rfl (fun _ hm => ⟨hm.blkI 1 rfl, hm.fact 0 rfl, hm.fact 1 rfl, hm.fact 2 rfl, hm.fact 3 rfl, trivial⟩) ?_
  refine wa_all [7] (by kernel_rfl) rfl ⟨⟨_, rfl, ?_⟩, trivial⟩
  refine wl_callw rfl cb37 rfl rfl (fun wx hm => (errs_any [RE, whenE (!keyB c) 5, timeE fr tt] _ _ _ wx (hm.blkI 0 rfl) (by simp))) ?_
  refine wl_nil ?_
  refine nx_wa0 (listed' := #[true, true, true, true, true, true, true, true, false, false]) rfl (fun _ hm => ⟨hm.blkI 1 rfl, hm.fact 0 rfl, hm.fact 1 rfl, hm.fact 2 rfl, hm.fact 3 rfl, trivial⟩) ?_
  refine wa_take 8 rfl (by kernel_rfl) (by kernel_rfl) (by kernel_rfl) (listed' := #[true, true, true, true, true, true, true, true, true, false]) rfl (fun _ _ _ h => h) (fun _ hm => ⟨hm.blkI 1 rfl, hm.fact 0 rfl, hm.fact 1 rfl, hm.fact 2 rfl, hm.fact 3 rfl, trivial⟩) (ov_assign rfl) rfl ?_
  refine wa_take 9 rfl (by kernel_rfl) (by kernel_rfl) (by kernel_rfl) (listed' := #[true, true, true, true, true, true, true, true, true, true]) rfl (fun _ _ _ h => h) (fun _ hm => ⟨hm.blkI 1 rfl, hm.fact 0 rfl, hm.fact 1 rfl, hm.fact 2 rfl, hm.fact 3 rfl, trivial⟩) (ov_assign rfl) rfl ?_
  refine wa_done (by kernel_rfl) ?_
  refine nx_then ?_
  refine gw_seq ?_
  refine gw_seq ?_
  refine gw_region ?_
  refine wl_ov (ov_move rfl) rfl ?_
  refine wl_ov (ov_eql rfl rfl) rfl ?_
  refine wl_nil ?_
  refine nx_then ?_
  refine gw_cond rfl (fun hh => ?_) (fun hh => ?_)
  · have hz : firstE [RE, whenE (!keyB c) 5, timeE fr tt] = 0 := by simpa using hh
    clear hh
    refine gw_region ?_
    have hz2 : chkE l c fr tt = 0 := by unfold chkE; rw [← hRE]; exact hz
    refine wl_ov (ov_move rfl) rfl ?_
    refine wl_ov (ov_move rfl) rfl ?_
    refine wl_ov (ov_loads rz56 rfl (fun _ hm => hm.blkI 1 rfl) rfl rfl) rfl ?_
    refine wl_ov (ov_move rfl) rfl ?_
    refine wl_callv (v := .tuple #[.int .i64 cv, .int .i64 ce]) rfl cb49 rfl rfl (fun wx hm => (by have h := costOf_any l A n c0 c fr tt qp A5 n5 c5 wx (hm.fact 3 rfl) (by omega) (hm.fact 0 rfl) (by omega) hqb hz2; rw [← hCV] at h; exact h)) ?_
    refine wl_ov (ov_move rfl) rfl ?_
    refine wl_ov (ov_extract rfl rfl) rfl ?_
    refine wl_ov (ov_extract rfl rfl) rfl ?_
    refine wl_ov (ov_assign rfl) rfl ?_
    refine wl_ov (ov_assign rfl) rfl ?_
    refine wl_nil ?_
    refine nx_then ?_
    refine gw_seq ?_
    refine gw_region ?_
    refine wl_ov (ov_move rfl) rfl ?_
    refine wl_ov (ov_move rfl) rfl ?_
    refine wl_ov (ov_eql rfl rfl) rfl ?_
    refine wl_set 54 (v' := .bool true) rfl (congrArg Value.bool (by simp)) ?_
    refine wl_ov (ov_move rfl) rfl ?_
    refine wl_guard_on rfl rfl rfl ?_
    refine wl_ov (ov_move rfl) rfl ?_
    refine wl_guard_on rfl rfl rfl ?_
    refine wl_ov (ov_move rfl) rfl ?_
    refine wl_guard_on rfl rfl rfl ?_
    refine wl_ov (ov_eql rfl rfl) rfl ?_
    refine wl_set 58 (v' := .bool true) rfl (congrArg Value.bool (by simp)) ?_
    refine wl_ov (ov_pick_t rfl rfl) rfl ?_
    refine wl_ov (ov_move rfl) rfl ?_
    refine wl_guard_on rfl rfl rfl ?_
    refine wl_callv rfl cb41 rfl rfl (fun wx hm => (priced_any wx)) ?_
    refine wl_ov (ov_pick_t rfl rfl) rfl ?_
    refine wl_ov (ov_assign rfl) rfl ?_
    refine wl_nil ?_
    refine nx_then ?_
    refine gw_ret ?_
    refine nx_ret1 rfl rfl fun wx hm => ?_
    exact ⟨rfl, law_end hg1 hsb hm.g⟩
  · have hz : ¬ (firstE [RE, whenE (!keyB c) 5, timeE fr tt] = 0) := by simpa using hh
    clear hh
    refine gw_skip ?_
    refine nx_then ?_
    refine gw_seq ?_
    refine gw_region ?_
    have hz2 : ¬ chkE l c fr tt = 0 := by unfold chkE; rw [← hRE]; exact hz
    have hcv : (cv, ce) = (0, chkE l c fr tt) := by rw [hCV]; unfold costV; rw [if_neg hz2]
    have e1 : cv = 0 := by injection hcv
    have e2 : ce = firstE [RE, whenE (!keyB c) 5, timeE fr tt] := by rw [hRE]; injection hcv
    refine wl_ov (ov_move rfl) rfl ?_
    refine wl_ov (ov_move rfl) rfl ?_
    refine wl_ov (ov_eql rfl rfl) rfl ?_
    refine wl_set 54 (v' := .bool true) rfl (congrArg Value.bool (decide_eq_true (e2))) ?_
    refine wl_ov (ov_move rfl) rfl ?_
    refine wl_guard_on rfl rfl rfl ?_
    refine wl_ov (ov_move rfl) rfl ?_
    refine wl_guard_on rfl rfl rfl ?_
    refine wl_ov (ov_move rfl) rfl ?_
    refine wl_guard_on rfl rfl rfl ?_
    refine wl_ov (ov_eql rfl rfl) rfl ?_
    refine wl_set 58 (v' := .bool true) rfl (congrArg Value.bool (decide_eq_true (e1))) ?_
    refine wl_ov (ov_pick_t rfl rfl) rfl ?_
    refine wl_ov (ov_move rfl) rfl ?_
    refine wl_guard_on rfl rfl rfl ?_
    refine wl_callv rfl cb41 rfl rfl (fun wx hm => (priced_any wx)) ?_
    refine wl_ov (ov_pick_t rfl rfl) rfl ?_
    refine wl_ov (ov_assign rfl) rfl ?_
    refine wl_nil ?_
    refine nx_then ?_
    refine gw_ret ?_
    refine nx_ret1 rfl rfl fun wx hm => ?_
    exact ⟨rfl, law_end hg1 hsb hm.g⟩

end Go.Proofs.YtmpomocahgcebaaDoor
