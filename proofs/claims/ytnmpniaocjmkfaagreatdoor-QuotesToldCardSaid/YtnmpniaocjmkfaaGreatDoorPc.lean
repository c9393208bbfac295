/- Several texts as one: Tm Tu To Tq Va He Hf Hg Hh Hk Ln Tot Gt -/
import Derived.Test.YtnmpniaocjmkfaaGreatDoorPb
import Derived.Test.YtnmpniaocjmkfaaGreatDoorPa
import Derived.Deep.RegionHeld3
import Derived.Laws.ResultCell
import Derived.IntWalk
namespace Go.Proofs.YtnmpniaocjmkfaaGreatDoor
open Go.RowKit
def pcEnc (p : Pc) : List Value := [.int .i64 p.kind, .int .i64 p.days, .int .i64 p.cents]
theorem pc_len (p : Pc) : (pcEnc p).length = 3 := rfl
def chkE (l : List Rt) (c : ByteArray) (fr tt : Int) : Int := firstE [ratesE l, whenE (!keyB c) 5, timeE fr tt]
theorem chkE_ok {l : List Rt} {c : ByteArray} {fr tt : Int} (h : chkE l c fr tt = 0) : ratesE l = 0 ∧ keyB c = true ∧ timeE fr tt = 0 := by
  have hz := fe_all h
  have h2 := we_ok (by decide) (hz (whenE (!keyB c) 5) (by simp))
  exact ⟨hz _ (by simp), by simpa using h2, hz _ (by simp)⟩
def daysN (fr tt : Int) : Nat := (daysV fr tt).toNat
/-- The prices of the pieces of a hire. -/
def prH (l : List Rt) (c : ByteArray) (fr tt : Int) : Int → Nat → Int → Option Int := priceO l (seasons l c fr (daysN fr tt)) fr tt
theorem seasons_bound (l : List Rt) (c : ByteArray) (fr : Int) (n : Nat) : ∀ k ∈ seasons l c fr n, -1 ≤ k ∧ k < (l.length : Int) := fun k hk => by
  unfold seasons at hk
  obtain ⟨i, _, rfl⟩ := List.mem_map.1 hk
  exact ixP_bound l
theorem begV_end {fr tt : Int} (h : timeE fr tt = 0) : ∀ i, i < daysN fr tt → begV fr i ≤ tt := fun i hi => by
  have h1 := timeE_ok h
  unfold daysN daysV at hi
  unfold begV
  omega
/-- The error and the pieces of Divide. -/
def DivIs (l : List Rt) (c : ByteArray) (fr tt : Int) (e : Int) (ps : List Pc) : Prop :=
  (chkE l c fr tt ≠ 0 ∧ e = chkE l c fr tt ∧ ps = []) ∨ (chkE l c fr tt = 0 ∧ ((e = 8 ∧ ps = [] ∧ ∀ qs, ¬ Chain (prH l c fr tt) 0 (daysN fr tt) qs) ∨ (e = 0 ∧ Best (prH l c fr tt) 0 (daysN fr tt) ps)))
theorem divIs_one {l : List Rt} {c : ByteArray} {fr tt e f : Int} {ps qs : List Pc} (h : DivIs l c fr tt e ps) (g : DivIs l c fr tt f qs) : e = f ∧ ps = qs := by
  rcases h with ⟨h1, rfl, rfl⟩ | ⟨h1, h | h⟩ <;> rcases g with ⟨g1, rfl, rfl⟩ | ⟨g1, g | g⟩
  · exact ⟨rfl, rfl⟩
  · exact absurd g1 h1
  · exact absurd g1 h1
  · exact absurd h1 g1
  · exact ⟨h.1.trans g.1.symm, h.2.1.trans g.2.1.symm⟩
  · exact absurd g.2.1 (h.2.2 _)
  · exact absurd h1 g1
  · exact absurd h.2.1 (g.2.2 _)
  · exact ⟨h.1.trans g.1.symm, best_one h.2 g.2⟩
theorem best_head {pr : Int → Nat → Int → Option Int} {i n : Nat} {ps : List Pc} (h : Best pr i n ps) (hi : i < n) : ∃ p r, ps = p :: r ∧ StepOk pr i p ∧ i + p.days.toNat ≤ n := by
  cases ps with
  | nil => have := h.1; simp only [Chain] at this; omega
  | cons p r => exact ⟨p, r, rfl, h.1.1, chain_head h.1⟩
theorem dv_at {pr : Int → Nat → Int → Option Int} {i n : Nat} {ds : List Dv} {x : Dv} {p : Pc} {r : List Pc} (h : DvFrom pr n 0 ds) (hx : ds[i]? = some x) (hb : Best pr i n (p :: r)) : x.kind = p.kind ∧ x.days = p.days ∧ x.cents = p.cents := by
  obtain ⟨s, h1, h2⟩ := h.2.1 i x (Nat.zero_le _) hx
  cases s with
  | none => exact absurd hb.1 (h1 _)
  | some qs => exact h2.2.2.2 p r (best_one h1 hb)
theorem dv_first0 {pr : Int → Nat → Int → Option Int} {n : Nat} {ds : List Dv} {x : Dv} (h : DvFrom pr n 0 ds) (hx : ds[0]? = some x) : (x.fine = false → ∀ qs, ¬ Chain pr 0 n qs) ∧ (x.fine = true → ∃ ps, Best pr 0 n ps ∧ x.cost = pcSum ps) := by
  obtain ⟨s, h1, h2⟩ := h.2.1 0 x (Nat.zero_le _) hx
  refine ⟨fun hf => ?_, fun hf => ?_⟩
  · rw [h2.none_ hf] at h1; exact h1
  · obtain ⟨ps, rfl⟩ := h2.some_ hf
    exact ⟨ps, h1, h2.2.1⟩
set_option maxRecDepth 100000 in
set_option maxHeartbeats 400000 in
theorem checkHire_any (l : List Rt) (A : Option Addr) (n c0 : Nat) (c : ByteArray) (fr tt : Int) (w : World) (hl : SlT rtEnc 7 170 w A n l) (hok : ∀ b ∈ l, RtOk b) (hn : n ≤ 1000000) (hc : c.size ≤ 1000000) :
  Calls Tryz.prog 191 #[.slice A n c0, .string c, .agg #[.int .i64 fr, .int .i64 tt]] w (GotE w (chkE l c fr tt)) := by
 refine gw_enter ⟨17, w, none, []⟩ Tryz.func191 rfl Tryz.ntmps191 rfl (mem0 (X := [SlOld rtEnc 7 170 w.heap.size none A n l]) (allF_cons hl.old allF_nil) (allL_cons SlOld.lasts allL_nil)) ?_
 refine sr_ ?_
 obtain ⟨RE, hRE⟩ : ∃ E, E = ratesE l := ⟨_, rfl⟩
 refine wl_box rfl rfl rfl fun g1 => ?_
 refine sg_ rfl (nn_ (gw_seq ?_))
 refine gd (fun wz => Blk wz g1 35 [.int .i64 fr, .int .i64 tt] ∧ (SlOld rtEnc 7 170 w.heap.size none A n l) wz ∧ True) mixed (fun _ hm => ⟨hm.blkI 0 rfl, hm.fact 0 rfl, trivial⟩) fun z => ?_
 refine wt 0 11 1 rfl z (ov_move rfl) ?_
 refine wt 2 11 5 rfl z (ov_move rfl) ?_
 refine wt 6 11 69 rfl z (ov_loads rz35 rfl (fun _ hm => hm.1) rfl rfl) ?_
 refine wa1 1 rfl ?_
 refine wl_callv (v := .int .i64 RE) rfl cb103 rfl rfl (fun wx hm => (by rw [hRE]; exact checkRates_any l A n c0 wx (hm.fact 0 rfl).1 hok hn)) ?_
 refine wl_nil ?_
 refine nw 11 71 (fun _ hm => ⟨hm.blkI 0 rfl, hm.fact 0 rfl, trivial⟩) fun z => ?_
 refine wa1 3 rfl ?_
 refine wl_callw rfl cb137 rfl rfl (fun wx hm => (isKey_any _ wx (by omega))) ?_
 refine wl_nil ?_
 refine nw 11 79 (fun _ hm => ⟨hm.blkI 0 rfl, hm.fact 0 rfl, trivial⟩) fun z => ?_
 refine wt 4 11 95 rfl z (ov_un_not rfl) ?_
 refine wa1 5 rfl ?_
 refine wl_callw rfl cb120 rfl rfl (fun wx hm => (when_any _ _ wx)) ?_
 refine wl_nil ?_
 refine nw 11 127 (fun _ hm => ⟨hm.blkI 0 rfl, hm.fact 0 rfl, trivial⟩) fun z => ?_
 refine wa1 7 rfl ?_
 refine wl_callv rfl cb148 rfl rfl (fun wx hm => (time_any _ _ wx)) ?_
 refine wl_nil ?_
 refine nw 11 255 (fun _ hm => ⟨hm.blkI 0 rfl, hm.fact 0 rfl, trivial⟩) fun z => ?_
 refine wa1 8 rfl ?_
 refine wl_buildSlice (e := 41) (cs := [.int .i64 RE, .int .i64 (whenE (!(keyB c)) 5), .int .i64 (timeE fr tt)]) rfl (by kernel_rfl) rfl fun g2 => ?_
 refine wl_nil ?_
 refine nw 11 511 (fun _ hm => ⟨hm.blkI 1 rfl, hm.fact 0 rfl, trivial⟩) fun z => ?_
 refine wa1 9 rfl ?_
 refine wl_callw rfl cb102 rfl rfl (fun wx hm => (first_any [RE, whenE (!(keyB c)) 5, timeE fr tt] _ _ _ wx (hm.blkI 0 rfl) (by simp))) ?_
 refine wl_nil ?_
 refine nw 11 1023 (fun _ hm => ⟨hm.blkI 1 rfl, hm.fact 0 rfl, trivial⟩) fun z => ?_
 refine wt 10 11 2047 rfl z (ov_assign rfl) ?_
 refine wa_done (by kernel_rfl) ?_
 refine nx_then ?_
 refine gw_ret ?_
 refine nx_ret1 rfl rfl fun wx hm => ?_
 exact ⟨ret_int (by unfold chkE; rw [hRE]), hm.g⟩
set_option maxRecDepth 100000 in
set_option maxHeartbeats 1000000 in
theorem tDivide_any (l : List Rt) (A : Option Addr) (n c0 : Nat) (c : ByteArray) (fr tt : Int) (w : World) (hl : SlT rtEnc 7 170 w A n l) (hok : ∀ b ∈ l, RtOk b) (hn : n ≤ 1000000) (hc : c.size ≤ 1000000) :
  Calls Tryz.prog 80 #[.slice A n c0, .string c, .agg #[.int .i64 fr, .int .i64 tt]] w (fun e w' => ∃ A3 n3 c3 ps er, e = .returned (.tuple #[.slice A3 n3 c3, .int .i64 er]) ∧ w.grownBy w' none ∧ SlT pcEnc 3 162 w' A3 n3 ps ∧ DivIs l c fr tt er ps ∧ n3 ≤ 120) := by
 refine gw_enter ⟨51, w, none, [248, 3]⟩ Tryz.func80 rfl Tryz.ntmps80 rfl (mem0 (X := [SlOld rtEnc 7 170 w.heap.size none A n l]) (allF_cons hl.old allF_nil) (allL_cons SlOld.lasts allL_nil)) ?_
 refine sr_ ?_
 obtain ⟨CE, hCE⟩ : ∃ E, E = chkE l c fr tt := ⟨_, rfl⟩
 refine wl_box rfl rfl rfl fun g1 => ?_
 refine sg_ rfl (sg_ rfl (nn_ (gw_seq (sr_ (mv_ rfl (mv_ rfl ?_))))))
 refine wl_ov (ov_loads rz35 rfl (fun _ hm => hm.blkI 0 rfl) rfl rfl) rfl ?_
 refine wl_callv (v := .int .i64 CE) rfl cb191 rfl rfl (fun wx hm => (by rw [hCE]; exact checkHire_any l A n c0 c fr tt wx (hm.fact 0 rfl).1 hok hn hc)) ?_
 refine sg_ rfl (nn_ (sr_ (mv_ rfl (wl_ov (ov_neq rfl rfl) rfl (nn_ ?_)))))
 refine gw_cond rfl (fun hh => ?_) (fun hh => ?_)
 ·have h1 : ¬ (CE = 0) := by simpa using hh
  clear hh
  refine sr_ (mv_ rfl (sg_ rfl (sg_ rfl (nn_ ?_))))
  refine gw_ret ?_
  refine nx_then_ret ?_
  refine nx_ret2 rfl rfl rfl fun wx hm => ?_
  exact ⟨none, 0, 0, [], CE, rfl, hm.g, SlT.nil_ _ _, .inl ⟨fun h => h1 (hCE.trans h), hCE, rfl⟩, by omega⟩
 ·have h1 : CE = 0 := by simpa using hh
  clear hh
  refine gw_skip (nx_then (sr_ ?_))
  obtain ⟨hr0, hkc, ht⟩ := chkE_ok (hCE.symm.trans h1)
  obtain ⟨h0, hlt, htt, _⟩ := timeE_ok ht
  have hpos := rt_pos hr0
  have hro := rate_ok hr0
  have hD1 := timeE_days ht
  obtain ⟨D, hD⟩ : ∃ D, D = daysN fr tt := ⟨_, rfl⟩
  have hD2 : 1 ≤ D ∧ D ≤ 120 := by rw [hD]; unfold daysN; omega
  have hD3 := hD2.1
  have hD4 := hD2.2
  obtain ⟨sea, hsea⟩ : ∃ x, x = seasons l c fr D := ⟨_, rfl⟩
  refine mv_ rfl (mv_ rfl ?_)
  refine wl_ov (ov_loads rz35 rfl (fun _ hm => hm.blkI 0 rfl) rfl rfl) rfl ?_
  refine wl_callx (γ := Option Addr × Nat) (val := (fun (g : Option Addr × Nat) => .agg #[.slice A n c0, .int .i64 fr, .int .i64 tt, .slice g.1 D g.2])) (φ := (fun (g : Option Addr × Nat) => D ≤ g.2)) (Y := (fun (g : Option Addr × Nat) => fun wy => SlT itEnc 1 3 wy g.1 D sea)) rfl cb192 rfl rfl (fun wx hm => (by rw [hsea, hD]; exact (trent_any l A n c0 c fr tt wx (hm.fact 0 rfl).1 hn hpos ht).mono fun _ _ ⟨A2, c2, he, hg, hs, hc⟩ => ⟨(A2, c2), he, hc, hg, hs⟩)) (fun _ => SlT.lasts2 rfl) ?_
  rintro ⟨A2, c2⟩ hDc
  dsimp only at hDc ⊢
  refine wl_callx (γ := Option Addr × Nat × List Dv) (val := (fun (g : Option Addr × Nat × List Dv) => .slice g.1 (D + 1) g.2.1)) (φ := (fun (g : Option Addr × Nat × List Dv) => DvFrom (priceO l sea fr tt) D 0 g.2.2)) (Y := (fun (g : Option Addr × Nat × List Dv) => fun wy => SlT dvEnc 6 248 wy g.1 (D + 1) g.2.2)) rfl cb193 rfl rfl (fun wx hm => (tdivide_any l A n c0 fr tt sea A2 D c2 wx (hm.fact 1 rfl).1 (hm.fact 0 rfl) hDc hD4 (by rw [hsea]; exact seasons_bound l c fr D) hro h0 (by omega) (by omega) htt (by rw [hD]; exact begV_end ht)).mono fun _ _ ⟨A3, c3, ds, he, hg, hs, hd⟩ => ⟨(A3, c3, ds), he, hd, hg, SlT.ofOwn dv_len hs hd.1⟩) (fun _ => SlT.lasts2 rfl) ?_
  rintro ⟨A3, c3, ds⟩ hds
  dsimp only at hds ⊢
  have hpr : priceO l sea fr tt = prH l c fr tt := by unfold prH; rw [hsea, hD]
  rw [hpr] at hds
  have hdl := hds.1
  obtain ⟨x, hx⟩ : ∃ x, ds[0]? = some x := ⟨_, List.getElem?_eq_getElem (by omega)⟩
  have hd0 := dv_first0 hds hx
  obtain ⟨x0, x1, x2, x3, x4, x5⟩ := x
  refine wl_look (R := ∃ b3 o3, A3 = some ⟨b3, o3, none⟩) (fun wx hm => by obtain ⟨b3, o3, h, _, _⟩ := SlT.get (hm.fact 0 rfl) (by omega); exact ⟨b3, o3, h⟩) ?_
  rintro ⟨b3, o3, rfl⟩
  refine sg_ rfl (nn_ (gw_seq (sr_ (mv_ rfl ?_))))
  refine wl_ov (ov_index (j := 0) es242 rfl rfl (by omega)) rfl ?_
  refine fd_ fo248_3 rfl rfl ?_
  refine wl_ov (ov_elem1 (k := 5) (v := .bool x5) sc4 rfl (fun _ hm => (hm.fact 0 rfl)) (show ds[0]? = some _ from hx) rfl rfl) rfl ?_
  refine wl_ov (ov_un_not rfl) rfl (nn_ ?_)
  refine gw_cond rfl (fun hh => ?_) (fun hh => ?_)
  ·have hf : x5 = false := by simpa using hh
   clear hh
   refine sr_ (sg_ rfl (sg_ rfl (nn_ ?_)))
   refine gw_ret ?_
   refine nx_then_ret ?_
   refine nx_ret2 rfl rfl rfl fun wx hm => ?_
   exact ⟨none, 0, 0, [], 8, rfl, hm.g, SlT.nil_ _ _, .inr ⟨hCE.symm.trans h1, .inl ⟨rfl, rfl, hD ▸ hd0.1 (by simpa using hf)⟩⟩, by omega⟩
  ·have hf : x5 = true := by simpa using hh
   clear hh
   refine gw_skip (nx_then (sr_ ?_))
   obtain ⟨ps, hps, _⟩ := hd0.2 (by simpa using hf)
   refine sg_ rfl (nn_ (gw_seq (sr_ (sg_ rfl (nn_ (gw_block ?_))))))
   refine gw_nilOwn 162 3 ?_
   refine gw_loop (γ := Nat × Nat × Value × List Pc × List Pc × List Value) (fun (g : Nat × Nat × Value × List Pc × List Pc × List Value) => g.1 ≤ D ∧ g.2.1 ≤ g.1 ∧ g.2.2.2.1.length = g.2.1 ∧ ps = g.2.2.2.1 ++ g.2.2.2.2.1 ∧ Best (prH l c fr tt) g.1 D g.2.2.2.2.1 ∧ g.2.2.2.2.2 = g.2.2.2.1.flatMap pcEnc) (fun (g : Nat × Nat × Value × List Pc × List Pc × List Value) => [(6, .slice none 0 0), (7, .int .i64 0), (9, .slice (some ⟨b3, o3, none⟩) (D + 1) c3), (10, g.2.2.1), (11, .int .i64 ((g.1 : Nat) : Int))]) (fun (g : Nat × Nat × Value × List Pc × List Pc × List Value) => fun _ => True) (fun (g : Nat × Nat × Value × List Pc × List Pc × List Value) => [(g1, 35, [.int .i64 fr, .int .i64 tt])]) (fun (g : Nat × Nat × Value × List Pc × List Pc × List Value) => [⟨g.2.2.1, 162, 3, g.2.1, g.2.2.2.2.2⟩]) (fun (g : Nat × Nat × Value × List Pc × List Pc × List Value) => [fun wy => SlT dvEnc 6 248 wy (some ⟨b3, o3, none⟩) (D + 1) ds, fun wy => SlT itEnc 1 3 wy A2 D sea, SlOld rtEnc 7 170 w.heap.size none A n l]) (fun (g : Nat × Nat × Value × List Pc × List Pc × List Value) => D - g.1) (0, 0, .slice none 0 0, [], ps, []) ⟨Nat.zero_le _, Nat.le_refl _, rfl, rfl, hps, rfl⟩ ⟨rfl, rfl, rfl, rfl, rfl, trivial⟩ (fun _ hm => hm.pick [0] [0] [0, 1, 2] rfl rfl) ?_
   rintro ⟨i, k, v, pl, rl, xs⟩ hinv
   replace hinv : i ≤ D ∧ k ≤ i ∧ pl.length = k ∧ ps = pl ++ rl ∧ Best (prH l c fr tt) i D rl ∧ xs = pl.flatMap pcEnc := hinv
   dsimp only
   refine gw_seq (sr_ ?_)
   obtain ⟨hi0, hi1, hi2, hi3, hi4, rfl⟩ := hinv
   refine mv_ rfl (mv_ rfl (wl_ov (ov_len es242 rfl) rfl ?_))
   refine wl_ov (ov_sub rfl rfl (by omega) (by omega)) rfl ?_
   refine wl_ov (ov_lss rfl rfl) rfl (nn_ ?_)
   refine gw_cond rfl (fun hh => ?_) (fun hh => ?_)
   ·have hk : ((i : Nat) : Int) < ((D + 1 : Nat) : Int) - 1 := by simpa using hh
    clear hh
    refine gw_skip (nx_then (gw_seq (gw_block (gw_region ?_))))
    have hiD : i < D := by omega
    obtain ⟨p, rr, hp1, hp2, hp3⟩ := best_head hi4 hiD
    subst hp1
    obtain ⟨y, hy⟩ : ∃ y, ds[i]? = some y := ⟨_, List.getElem?_eq_getElem (by omega)⟩
    obtain ⟨e1, e2, e3⟩ := dv_at hds hy hi4
    obtain ⟨y0, y1, y2, y3, y4, y5⟩ := y
    dsimp only at e1 e2 e3
    have hd1 : 1 ≤ y3 := by rw [e2]; exact hp2.2.2.1
    have hd2 : i + y3.toNat ≤ D := by rw [e2]; exact hp3
    refine mv_ rfl (mv_ rfl (mv_ rfl ?_))
    refine wl_ov (ov_index (j := i) es242 rfl rfl (by omega)) rfl ?_
    refine fd_ fo248_2 rfl rfl ?_
    refine wl_ov (ov_elemN (k := 2) (vs := [.int .i64 y2, .int .i64 y3, .int .i64 y4]) rz162 rfl (fun _ hm => (hm.fact 0 rfl)) hy rfl rfl rfl) rfl ?_
    refine wl_buildSlice (e := 162) (cs := [.int .i64 y2, .int .i64 y3, .int .i64 y4]) rfl (by kernel_rfl) rfl fun g2 => ?_
    refine wl_append (news := [.int .i64 y2, .int .i64 y3, .int .i64 y4]) 0 0 ap129 rfl rfl rfl rfl rfl rfl rfl (by omega) (by unfold maxLen; omega) rfl rfl fun v2 hv2 => ?_
    refine sg_ rfl (wl_nil (nx_blk_nrm (nx_then (gw_region (mv_ rfl (mv_ rfl (mv_ rfl ?_)))))))
    refine wl_ov (ov_index (j := i) es242 rfl rfl (by omega)) rfl ?_
    refine fd_ fo248_2 rfl rfl (fd_ fo162_1 rfl rfl ?_)
    refine wl_ov (ov_elem1 (k := 3) (v := .int .i64 y3) sc3 rfl (fun _ hm => (hm.fact 0 rfl)) hy rfl rfl) rfl ?_
    refine ad_ rfl rfl (sg_ rfl (wl_nil ?_))
    exact nx_round (i + y3.toNat, k + 1, v2, pl ++ [⟨y2, y3, y4⟩], rr, pl.flatMap pcEnc ++ ([.int .i64 y2, .int .i64 y3, .int .i64 y4] : List Value)) ⟨by dsimp only; omega, by dsimp only; omega, by simp [hi2], by dsimp only; rw [hi3, e1, e2, e3, List.append_assoc]; rfl, by rw [e2]; exact best_tail hi4, by simp [pcEnc]⟩ (by dsimp only; omega) ⟨rfl, rfl, rfl, rfl, (some_int (by omega)), trivial⟩ (fun _ hm => hm.pick [1] [0] [0, 1, 2] rfl rfl)
   ·have hk : ¬ (((i : Nat) : Int) < ((D + 1 : Nat) : Int) - 1) := by simpa using hh
    clear hh
    refine gw_exit ?_
    refine nx_then_exit (nx_then_exit ?_)
    refine nx_blk_here ?_
    refine nx_then (sr_ ?_)
    have hiD : i = D := by omega
    subst hiD
    have hrl : rl = [] := by
     cases rl with
     | nil => rfl
     | cons q t => have := chain_le hi4.1; simp only [List.length_cons] at this; omega
    subst hrl
    refine wl_look (R := ∃ A cc, v = .slice A k cc) (fun wx hm => own_slice (hm.ownI 0 rfl)) ?_
    rintro ⟨A4, c4, rfl⟩
    refine mv_ rfl (sg_ rfl (sg_ rfl (nn_ ?_)))
    refine gw_ret ?_
    refine nx_ret2 rfl rfl rfl fun wx hm => ?_
    exact ⟨A4, k, c4, pl, 0, rfl, hm.g, SlT.ofOwn pc_len (hm.ownI 0 rfl) hi2, .inr ⟨hCE.symm.trans h1, .inr ⟨rfl, by rw [← hD]; rw [List.append_nil] at hi3; rw [← hi3]; exact hps⟩⟩, by omega⟩
set_option maxRecDepth 100000 in
theorem same_piece_neq (x0 : Int) (x1 : Int) (x2 : Int) (w : World) : (binOp .neq 162 (.agg #[.int .i64 x0, .int .i64 x1, .int .i64 x2]) (.agg #[.int .i64 x0, .int .i64 x1, .int .i64 x2])).run Tryz.prog w = .ok (.bool false) w := by
  have hS : Tryz.prog.underlying 162 = some (.struct (Tryz.prog.fieldsOf 162)) := by kernel_rfl
  have hp : Tryz.prog.stoodInHeld 162 = false := by kernel_rfl
  rw [run_neq_struct, show (10000 : Nat) = 9999 + 1 from rfl, run_equalIn_agg w 9999 162 _ _ hS hp]
  simp only [Program.fieldsOf, Tryz.underlying162]
  have u3 := Tryz.underlying3
  clear hS hp
  go_simp
theorem guard_piece : Tryz.prog.eqGuardType Tryz.prog.depth 162 = false := by kernel_rfl
set_option maxRecDepth 100000 in
set_option maxHeartbeats 400000 in
theorem equal_piece_any (l : List Pc) (A1 A2 : Option Addr) (n c1 c2 : Nat) (w : World) (h1 : SlT pcEnc 3 162 w A1 n l) (h2 : SlT pcEnc 3 162 w A2 n l) (hn : n ≤ 1000000) :
  Calls Tryz.prog 117 #[.slice A1 n c1, .slice A2 n c2] w (fun e w' => e = .returned (.bool true) ∧ w.grownBy w' none) := by
 refine gw_enter ⟨26, w, none, []⟩ Tryz.func117 rfl Tryz.ntmps117 rfl (mem0 (X := [SlOld pcEnc 3 162 w.heap.size none A1 n l, SlOld pcEnc 3 162 w.heap.size none A2 n l]) (allF_cons h1.old (allF_cons h2.old allF_nil)) (allL_cons SlOld.lasts (allL_cons SlOld.lasts allL_nil))) ?_
 refine sr_ ?_
 have hlen := h1.len
 refine sg_ rfl (nn_ (gw_seq (sr_ (mv_ rfl (wl_ov (ov_len es129 rfl) rfl (mv_ rfl (wl_ov (ov_len es129 rfl) rfl (wl_ov (ov_neq rfl rfl) rfl ?_))))))))
 refine wl_set 10 (v' := .bool false) rfl (congrArg Value.bool (by simp)) ?_
 refine nn_ (cf_ rfl (gw_skip (nx_then (gw_seq (sr_ (mv_ rfl (wl_ov (ov_len es129 rfl) rfl (mv_ rfl (nn_ (gw_block ?_))))))))))
 refine gw_loop (γ := Nat) (fun (k : Nat) => k ≤ n) (fun (k : Nat) => [(0, .slice A1 n c1), (1, .slice A2 n c2), (12, .int .i64 ((n : Nat) : Int)), (13, .int .i64 ((k : Nat) : Int))]) (fun (k : Nat) => fun _ => True) (fun (k : Nat) => []) (fun (k : Nat) => []) (fun (k : Nat) => [SlOld pcEnc 3 162 w.heap.size none A1 n l, SlOld pcEnc 3 162 w.heap.size none A2 n l]) (fun (k : Nat) => n - k) 0 (Nat.zero_le _) ⟨rfl, rfl, rfl, rfl, trivial⟩ (fun _ hm => hm.pick [] [] [0, 1] rfl rfl) ?_
 intro k hinv
 replace hinv : k ≤ n := hinv
 refine sr_ (wl_ov (ov_lss rfl rfl) rfl (nn_ (gw_seq ?_)))
 refine gw_cond rfl (fun hh => ?_) (fun hh => ?_)
 ·have hk : ((k : Nat) : Int) < ((n : Nat) : Int) := by simpa using hh
  clear hh
  refine gw_skip (nx_then (gw_seq (gw_block (sr_ ?_))))
  obtain ⟨b1, o1, hA, _, _⟩ := h1.get (by omega)
  subst hA
  obtain ⟨b2, o2, hA, _, _⟩ := h2.get (by omega)
  subst hA
  obtain ⟨x, hx⟩ : ∃ x, l[k]? = some x := ⟨_, List.getElem?_eq_getElem (by omega)⟩
  obtain ⟨x0, x1, x2⟩ := x
  refine mv_ rfl (sg_ rfl (nn_ (gw_seq ?_)))
  refine gd (fun wz => (SlOld pcEnc 3 162 w.heap.size none (some ⟨b1, o1, none⟩) n l) wz ∧ (SlOld pcEnc 3 162 w.heap.size none (some ⟨b2, o2, none⟩) n l) wz ∧ True) mixed (fun _ hm => ⟨hm.fact 0 rfl, hm.fact 1 rfl, trivial⟩) fun z => ?_
  refine wt 0 9 1 rfl z (ov_move rfl) ?_
  refine wt 1 9 3 rfl z (ov_move rfl) ?_
  refine wt 2 9 7 rfl z (ov_index (j := k) es129 rfl rfl (by omega)) ?_
  refine wt 3 9 15 rfl z (ov_elem (vs := [.int .i64 x0, .int .i64 x1, .int .i64 x2]) rz162 rfl (fun _ hm => (hm.1).1) hx rfl rfl) ?_
  refine wt 4 9 31 rfl z (ov_move rfl) ?_
  refine wt 5 9 63 rfl z (ov_move rfl) ?_
  refine wt 6 9 127 rfl z (ov_index (j := k) es129 rfl rfl (by omega)) ?_
  refine wt 7 9 255 rfl z (ov_elem (vs := [.int .i64 x0, .int .i64 x1, .int .i64 x2]) rz162 rfl (fun _ hm => (hm.2.1).1) hx rfl rfl) ?_
  refine wt 8 9 511 rfl z (ov_bin rfl rfl (cmp_agg guard_piece (fun wx => same_piece_neq x0 x1 x2 wx))) ?_
  refine wa_done (by kernel_rfl) ?_
  refine nx_then (cf_ rfl (gw_skip (nx_blk_nrm (nx_then (gw_region (ad_ rfl rfl (mv_ rfl (wl_nil ?_))))))))
  exact nx_round (k + 1) (by omega) (by omega) ⟨rfl, rfl, rfl, (some_int (by omega)), trivial⟩ (fun _ hm => hm.pick [] [] [0, 1] rfl rfl)
 ·have hk : ¬ (((k : Nat) : Int) < ((n : Nat) : Int)) := by simpa using hh
  clear hh
  refine gw_exit ?_
  refine nx_then_exit (nx_then_exit ?_)
  refine nx_blk_here ?_
  refine nx_then (sr_ (sg_ rfl (nn_ ?_)))
  refine gw_ret ?_
  refine nx_ret1 rfl rfl fun wx hm => ?_
  exact ⟨rfl, hm.g⟩
theorem one_chk : chkE [(⟨⟨#[99]⟩, 0, 9, -1, 7, -1, -1⟩ : Rt)] ⟨#[99]⟩ 0 60 = 0 := by decide +kernel
theorem one_days : daysN 0 60 = 1 := by decide +kernel
theorem one_sea : seasons [(⟨⟨#[99]⟩, 0, 9, -1, 7, -1, -1⟩ : Rt)] ⟨#[99]⟩ 0 1 = [0] := by decide +kernel
theorem one_pr (k : Int) (hk : 1 ≤ k ∧ k ≤ 4) (v : Int) (h : prH [(⟨⟨#[99]⟩, 0, 9, -1, 7, -1, -1⟩ : Rt)] ⟨#[99]⟩ 0 60 k 0 1 = some v) : k = 2 ∧ v = 7 := by
  unfold prH at h
  rw [one_days, one_sea] at h
  obtain ⟨h1, h2⟩ := hk
  have hk : k = 1 ∨ k = 2 ∨ k = 3 ∨ k = 4 := by omega
  rcases hk with rfl | rfl | rfl | rfl
  · rw [show priceO [(⟨⟨#[99]⟩, 0, 9, -1, 7, -1, -1⟩ : Rt)] [0] 0 60 1 0 1 = none by decide +kernel] at h; cases h
  · rw [show priceO [(⟨⟨#[99]⟩, 0, 9, -1, 7, -1, -1⟩ : Rt)] [0] 0 60 2 0 1 = some 7 by decide +kernel] at h
    injection h with h; exact ⟨rfl, h.symm⟩
  · rw [show priceO [(⟨⟨#[99]⟩, 0, 9, -1, 7, -1, -1⟩ : Rt)] [0] 0 60 3 0 1 = none by decide +kernel] at h; cases h
  · rw [show priceO [(⟨⟨#[99]⟩, 0, 9, -1, 7, -1, -1⟩ : Rt)] [0] 0 60 4 0 1 = none by decide +kernel] at h; cases h
theorem one_best : Best (prH [(⟨⟨#[99]⟩, 0, 9, -1, 7, -1, -1⟩ : Rt)] ⟨#[99]⟩ 0 60) 0 (daysN 0 60) [⟨2, 1, 7⟩] := by
  rw [one_days]
  refine ⟨⟨⟨by decide, by decide, by decide, by decide, ?_⟩, rfl⟩, fun qs hq => .inl ?_⟩
  · unfold prH; rw [one_days, one_sea]; decide +kernel
  · cases qs with
    | nil => simp only [Chain] at hq; omega
    | cons q r =>
      have h1 := hq.1.2.2.1
      have h2 := chain_head hq
      have h3 := chain_le hq.2
      have hd : q.days = 1 := by omega
      have hv := hq.1.2.2.2.2
      rw [hd] at hv
      obtain ⟨e1, e2⟩ := one_pr q.kind ⟨hq.1.1, hq.1.2.1⟩ _ hv
      have hr : r = [] := by
        rw [hd] at h3
        cases r with
        | nil => rfl
        | cons _ _ => simp only [List.length_cons] at h3; omega
      subst hr
      obtain ⟨qk, qd, qc⟩ := q
      dsimp only at e1 e2 hd
      subst e1; subst e2; subst hd; rfl
theorem one_div {e : Int} {ps : List Pc} (h : DivIs [(⟨⟨#[99]⟩, 0, 9, -1, 7, -1, -1⟩ : Rt)] ⟨#[99]⟩ 0 60 e ps) : e = 0 ∧ ps = [⟨2, 1, 7⟩] := divIs_one h (.inr ⟨one_chk, .inr ⟨rfl, one_best⟩⟩)
set_option maxRecDepth 100000 in
set_option maxHeartbeats 400000 in
theorem priced_any (w : World) : Calls Tryz.prog 20 #[] w (fun e w' => e = .returned (.bool true) ∧ w.grownBy w' none) := by
 refine gw_enter ⟨18, w, none, [162]⟩ Tryz.func20 rfl Tryz.ntmps20 rfl (mem0 (X := []) allF_nil allL_nil) ?_
 refine sr_ (sg_ rfl (nn_ (sr_ ?_)))
 refine wl_ov (ov_build (cs := [.string ⟨#[99]⟩, .int .i64 0, .int .i64 9, .int .i64 (-1), .int .i64 7, .int .i64 (-1), .int .i64 (-1)]) rfl (by kernel_rfl)) rfl ?_
 refine wl_buildSlice (e := 170) (cs := [.string ⟨#[99]⟩, .int .i64 0, .int .i64 9, .int .i64 (-1), .int .i64 7, .int .i64 (-1), .int .i64 (-1)]) rfl (by kernel_rfl) rfl fun g1 => ?_
 refine wl_ov (ov_build (cs := [.int .i64 0, .int .i64 60]) rfl (by kernel_rfl)) rfl ?_
 refine wl_callx (γ := Option Addr × Nat × Nat) (val := (fun (g : Option Addr × Nat × Nat) => .tuple #[.slice g.1 g.2.1 g.2.2, .int .i64 0])) (φ := (fun (g : Option Addr × Nat × Nat) => g.2.1 ≤ 120 ∧ g.2.1 = 1)) (Y := (fun (g : Option Addr × Nat × Nat) => fun wy => SlT pcEnc 3 162 wy g.1 g.2.1 [⟨2, 1, 7⟩])) rfl cb80 rfl rfl (fun wx hm => (tDivide_any [(⟨⟨#[99]⟩, 0, 9, -1, 7, -1, -1⟩ : Rt)] _ _ _ ⟨#[99]⟩ 0 60 wx (SlT.ofBlk (l := [(⟨⟨#[99]⟩, 0, 9, -1, 7, -1, -1⟩ : Rt)]) rt_len (hm.blkI 0 rfl)) (fun b hb => by rw [List.mem_singleton.1 hb]; exact (by decide : (1 : Nat) ≤ 1000000)) (by decide) (by decide)).mono fun _ _ ⟨A3, n3, c3, ps, er, he, hg, hs, hd, hn⟩ => ⟨(A3, n3, c3), by rw [he, (one_div hd).1], ⟨hn, by rw [← hs.len, (one_div hd).2]; rfl⟩, hg, (one_div hd).2 ▸ hs⟩) (fun _ => SlT.lasts2 rfl) ?_
 rintro ⟨A3, n3, c3⟩ hn3
 dsimp only at hn3 ⊢
 obtain ⟨_, rfl⟩ := hn3
 refine mv_ rfl (wl_ov (ov_extract rfl rfl) rfl (wl_ov (ov_extract rfl rfl) rfl (sg_ rfl (sg_ rfl (nn_ (sr_ (mv_ rfl (wl_ov (ov_eql rfl rfl) rfl ?_))))))))
 refine wl_set 11 (v' := .bool true) rfl (congrArg Value.bool (by decide)) ?_
 refine mv_ rfl (wl_guard_on rfl rfl rfl (mv_ rfl (wl_guard_on rfl rfl rfl ?_)))
 refine wl_ov (ov_build (cs := [.int .i64 2, .int .i64 1, .int .i64 7]) rfl (by kernel_rfl)) rfl ?_
 refine wl_guard_on rfl rfl rfl ?_
 refine wl_buildSlice (e := 162) (cs := [.int .i64 2, .int .i64 1, .int .i64 7]) rfl (by kernel_rfl) rfl fun g2 => ?_
 refine wl_guard_on rfl rfl rfl ?_
 refine wl_callv rfl cb117 rfl rfl (fun wx hm => (equal_piece_any [⟨2, 1, 7⟩] A3 _ 1 c3 1 wx (hm.fact 0 rfl) (SlT.ofBlk (l := [⟨2, 1, 7⟩]) pc_len (hm.blkI 0 rfl)) (by omega))) ?_
 refine pt_ rfl rfl (sg_ rfl (nn_ ?_))
 refine gw_ret ?_
 refine nx_ret1 rfl rfl fun wx hm => ?_
 exact ⟨rfl, hm.g⟩
end Go.Proofs.YtnmpniaocjmkfaaGreatDoor
namespace Go.Proofs.YtnmpniaocjmkfaaGreatDoor
open Go.RowKit
def bestCE (l : List Cd) (ks : List ByteArray) (cls : ByteArray) (fr tt cents : Int) : Int := firstE [codesE l, askE (fun k => l.any (codeP k)) ks, whenE (!keyB cls) 5, timeE fr tt, whenE (!inB cents 0 1000000000) 1]
def bestV (l : List Cd) (ks : List ByteArray) (cls : ByteArray) (fr tt cents : Int) : ByteArray × Int := if bestCE l ks cls fr tt cents = 0 then bestK l ks cls fr tt cents else (⟨#[]⟩, 0)
section
variable {l : List Cd} {ks : List ByteArray} {cls k : ByteArray} {fr tt cents : Int} {st : ByteArray × Int} {j : Nat} {c : Cd}
theorem bestS_no (hix : ixP (codeP k) l 0 = (j : Int)) (hc : l[j]? = some c) (h : countsB c cls fr tt = false) : bestS l cls fr tt cents st k = st := by
  unfold bestS; rw [hix, Int.toNat_natCast, hc]; dsimp only; rw [if_neg (fun e => by rw [h] at e; exact absurd e.1 (by decide))]
theorem bestS_yes (hix : ixP (codeP k) l 0 = (j : Int)) (hc : l[j]? = some c) (h : countsB c cls fr tt = true) (hb : emptyS st.1 = true ∨ st.2 < offV cents c ∨ (offV cents c = st.2 ∧ ltS k st.1 = true)) : bestS l cls fr tt cents st k = (k, offV cents c) := by
  unfold bestS; rw [hix, Int.toNat_natCast, hc]; dsimp only; rw [if_pos ⟨h, hb⟩]
theorem bestS_keep (hix : ixP (codeP k) l 0 = (j : Int)) (hc : l[j]? = some c) (hb : ¬ (emptyS st.1 = true ∨ st.2 < offV cents c ∨ (offV cents c = st.2 ∧ ltS k st.1 = true))) : bestS l cls fr tt cents st k = st := by
  unfold bestS; rw [hix, Int.toNat_natCast, hc]; dsimp only; rw [if_neg (fun e => hb e.2)]
theorem fold_take {α β : Type} (f : β → α → β) (z : β) {l : List α} {i : Nat} {x : α} (h : l[i]? = some x) : (l.take (i + 1)).foldl f z = f ((l.take i).foldl f z) x := by
  obtain ⟨hi, rfl⟩ := List.getElem?_eq_some_iff.1 h
  rw [List.take_add_one, List.getElem?_eq_getElem hi, List.foldl_append]; rfl
theorem counts_yes (h1 : emptyS c.cls = true ∨ (c.cls.toList == cls.toList) = true) (h2 : inB (fr / 1440) c.fr (c.to_ - 1) = true) (h3 : c.days ≤ daysV fr tt) : countsB c cls fr tt = true := by
  unfold countsB
  rw [h2, decide_eq_true h3]
  rcases h1 with h1 | h1 <;> rw [h1] <;> simp
theorem counts_cls (h1 : emptyS c.cls = false) (h2 : (c.cls.toList == cls.toList) = false) : countsB c cls fr tt = false := by unfold countsB; rw [h1, h2]; rfl
theorem counts_in (h : inB (fr / 1440) c.fr (c.to_ - 1) = false) : countsB c cls fr tt = false := by unfold countsB; rw [h]; simp
theorem counts_days (h : ¬ c.days ≤ daysV fr tt) : countsB c cls fr tt = false := by unfold countsB; rw [decide_eq_false h]; simp
theorem off_bound {m : Int} (h0 : 0 ≤ cents) (h1 : cents ≤ 1000000000) (h2 : 1 ≤ m) (h3 : m ≤ 1000) : 0 ≤ cents * m ∧ cents * m ≤ 1000000000000 := by
  have a := Int.mul_nonneg h0 (show 0 ≤ m by omega)
  have b := Int.mul_le_mul h1 h3 (by omega) (by omega)
  exact ⟨a, by omega⟩
end
set_option maxRecDepth 100000 in
set_option maxHeartbeats 2000000 in
theorem tBestCode_any (l : List Cd) (A : Option Addr) (n c0 : Nat) (ks : List ByteArray) (A1 : Option Addr) (n1 c1 : Nat) (cls : ByteArray) (fr tt cents : Int) (w : World) (hl : SlT cdEnc 6 262 w A n l) (hok : ∀ b ∈ l, CdOk b) (hn : n ≤ 1000000) (hs : SlT sgEnc 1 9 w A1 n1 ks) (hn1 : n1 ≤ 1000000) (hc1 : n1 ≤ c1) (hcl : cls.size ≤ 1000000) :
  Calls Tryz.prog 200 #[.slice A n c0, .slice A1 n1 c1, .string cls, .agg #[.int .i64 fr, .int .i64 tt], .int .i64 cents] w (fun e w' => e = .returned (.tuple #[.string (bestV l ks cls fr tt cents).1, .int .i64 (bestV l ks cls fr tt cents).2, .int .i64 (bestCE l ks cls fr tt cents)]) ∧ w.grownBy w' none) := by
 refine gw_enter ⟨114, w, none, []⟩ Tryz.func200 rfl Tryz.ntmps200 rfl (mem0 (X := [SlOld cdEnc 6 262 w.heap.size none A n l, SlOld sgEnc 1 9 w.heap.size none A1 n1 ks]) (allF_cons hl.old (allF_cons hs.old allF_nil)) (allL_cons SlOld.lasts (allL_cons SlOld.lasts allL_nil))) ?_
 refine sr_ ?_
 have hlen := hl.len
 have hslen := hs.len
 obtain ⟨XE, hXE⟩ : ∃ E, E = codesE l := ⟨_, rfl⟩
 obtain ⟨AE, hAE⟩ : ∃ E, E = askE (fun k => l.any (codeP k)) ks := ⟨_, rfl⟩
 have hBE : bestCE l ks cls fr tt cents = firstE [XE, AE, whenE (!keyB cls) 5, timeE fr tt, whenE (!inB cents 0 1000000000) 1] := by unfold bestCE; rw [← hXE, ← hAE]
 refine wl_box rfl rfl rfl fun g1 => ?_
 refine wl_box rfl rfl rfl fun g2 => ?_
 refine sg_ rfl (sg_ rfl (sg_ rfl (nn_ (gw_seq (sr_ (lk_ sc29 1 rfl rfl rfl ?_))))))
 refine wl_callv (v := .int .i64 XE) rfl cb106 rfl rfl (fun wx hm => (by rw [hXE]; exact checkCodes_any l A n c0 wx (hm.fact 0 rfl).1 hok hn)) ?_
 refine sg_ rfl (nn_ (sr_ (mv_ rfl (wl_ov (ov_neq rfl rfl) rfl (nn_ ?_)))))
 refine gw_cond rfl (fun hh => ?_) (fun hh => ?_)
 ·have hx : ¬ (XE = 0) := by simpa using hh
  clear hh
  refine sr_ (mv_ rfl (sg_ rfl (sg_ rfl (sg_ rfl (nn_ ?_)))))
  refine gw_ret ?_
  refine nx_then_ret ?_
  refine nx_ret3 rfl rfl rfl rfl fun wx hm => ?_
  have he : bestCE l ks cls fr tt cents = XE := by rw [hBE]; unfold firstE; rw [if_neg hx]
  refine ⟨?_, hm.g⟩
  unfold bestV
  rw [he, if_neg hx]
 ·have hx : XE = 0 := by simpa using hh
  clear hh
  refine gw_skip (nx_then (gw_seq (gw_seq ?_)))
  have hBE2 : bestCE l ks cls fr tt cents = firstE [AE, whenE (!keyB cls) 5, timeE fr tt, whenE (!inB cents 0 1000000000) 1] := by rw [hBE]; unfold firstE; rw [if_pos hx]; rfl
  refine gd (fun wz => Blk wz g2 35 [.int .i64 fr, .int .i64 tt] ∧ Blk wz g1 29 [.slice A n c0] ∧ (SlOld cdEnc 6 262 w.heap.size none A n l) wz ∧ (SlOld sgEnc 1 9 w.heap.size none A1 n1 ks) wz ∧ True) mixed (fun _ hm => ⟨hm.blkI 0 rfl, hm.blkI 1 rfl, hm.fact 0 rfl, hm.fact 1 rfl, trivial⟩) fun z => ?_
  refine wt 0 16 1 rfl z (ov_move rfl) ?_
  refine wt 1 16 3 rfl z (ov_makeFunc rfl rfl) ?_
  refine wt 3 16 11 rfl z (ov_move rfl) ?_
  refine wt 7 16 139 rfl z (ov_loads rz35 rfl (fun _ hm => hm.1) rfl rfl) ?_
  refine wt 9 16 651 rfl z (ov_move rfl) ?_
  refine wa1 2 rfl ?_
  refine wl_callv (v := .int .i64 AE) rfl cb197 rfl rfl (fun wx hm => (by rw [hAE]; exact checkAsked_codes l A n c0 ks A1 n1 c1 _ wx (hm.fact 0 rfl).1 hn (hm.fact 1 rfl).1 hn1 hc1 (hm.blkI 1 rfl))) ?_
  refine wl_nil ?_
  refine nw 16 655 (fun _ hm => ⟨hm.blkI 0 rfl, hm.blkI 1 rfl, hm.fact 0 rfl, hm.fact 1 rfl, trivial⟩) fun z => ?_
  refine wa1 4 rfl ?_
  refine wl_callw rfl cb137 rfl rfl (fun wx hm => (isKey_any _ wx (by omega))) ?_
  refine wl_nil ?_
  refine nw 16 671 (fun _ hm => ⟨hm.blkI 0 rfl, hm.blkI 1 rfl, hm.fact 0 rfl, hm.fact 1 rfl, trivial⟩) fun z => ?_
  refine wt 5 16 703 rfl z (ov_un_not rfl) ?_
  refine wa1 6 rfl ?_
  refine wl_callw rfl cb120 rfl rfl (fun wx hm => (when_any _ _ wx)) ?_
  refine wl_nil ?_
  refine nw 16 767 (fun _ hm => ⟨hm.blkI 0 rfl, hm.blkI 1 rfl, hm.fact 0 rfl, hm.fact 1 rfl, trivial⟩) fun z => ?_
  refine wa1 8 rfl ?_
  refine wl_callv rfl cb148 rfl rfl (fun wx hm => (time_any _ _ wx)) ?_
  refine wl_nil ?_
  refine nw 16 1023 (fun _ hm => ⟨hm.blkI 0 rfl, hm.blkI 1 rfl, hm.fact 0 rfl, hm.fact 1 rfl, trivial⟩) fun z => ?_
  refine wa1 10 rfl ?_
  refine wl_callw rfl cb175 rfl rfl (fun wx hm => (in_any _ _ _ wx)) ?_
  refine wl_nil ?_
  refine nw 16 2047 (fun _ hm => ⟨hm.blkI 0 rfl, hm.blkI 1 rfl, hm.fact 0 rfl, hm.fact 1 rfl, trivial⟩) fun z => ?_
  refine wt 11 16 4095 rfl z (ov_un_not rfl) ?_
  refine wa1 12 rfl ?_
  refine wl_callw rfl cb120 rfl rfl (fun wx hm => (when_any _ _ wx)) ?_
  refine wl_nil ?_
  refine nw 16 8191 (fun _ hm => ⟨hm.blkI 0 rfl, hm.blkI 1 rfl, hm.fact 0 rfl, hm.fact 1 rfl, trivial⟩) fun z => ?_
  refine wa1 13 rfl ?_
  refine wl_buildSlice (e := 41) (cs := [.int .i64 AE, .int .i64 (whenE (!(keyB cls)) 5), .int .i64 (timeE fr tt), .int .i64 (whenE (!(inB cents 0 1000000000)) 1)]) rfl (by kernel_rfl) rfl fun g3 => ?_
  refine wl_nil ?_
  refine nw 16 16383 (fun _ hm => ⟨hm.blkI 1 rfl, hm.blkI 2 rfl, hm.fact 0 rfl, hm.fact 1 rfl, trivial⟩) fun z => ?_
  refine wa1 14 rfl ?_
  refine wl_callw rfl cb102 rfl rfl (fun wx hm => (first_any [AE, whenE (!(keyB cls)) 5, timeE fr tt, whenE (!(inB cents 0 1000000000)) 1] _ _ _ wx (hm.blkI 0 rfl) (by simp))) ?_
  refine wl_nil ?_
  refine nw 16 32767 (fun _ hm => ⟨hm.blkI 1 rfl, hm.blkI 2 rfl, hm.fact 0 rfl, hm.fact 1 rfl, trivial⟩) fun z => ?_
  refine wt 15 16 65535 rfl z (ov_assign rfl) ?_
  refine wa_done (by kernel_rfl) ?_
  refine nx_then (sr_ (mv_ rfl (wl_ov (ov_neq rfl rfl) rfl (nn_ ?_))))
  refine gw_cond rfl (fun hh => ?_) (fun hh => ?_)
  ·have hz : ¬ (firstE [AE, whenE (!(keyB cls)) 5, timeE fr tt, whenE (!(inB cents 0 1000000000)) 1] = 0) := by simpa using hh
   clear hh
   refine sr_ (mv_ rfl (sg_ rfl (sg_ rfl (sg_ rfl (nn_ ?_)))))
   refine gw_ret ?_
   refine nx_then_ret ?_
   refine nx_ret3 rfl rfl rfl rfl fun wx hm => ?_
   refine ⟨?_, hm.g⟩
   unfold bestV
   rw [hBE2, if_neg hz]
  ·have hz : firstE [AE, whenE (!(keyB cls)) 5, timeE fr tt, whenE (!(inB cents 0 1000000000)) 1] = 0 := by simpa using hh
   clear hh
   refine gw_skip (nx_then (sr_ ?_))
   have hzz := fe_all hz
   have hcodes : codesE l = 0 := hXE.symm.trans hx
   have hask : askE (fun k => l.any (codeP k)) ks = 0 := hAE.symm.trans (hzz AE (by simp))
   have hin := (askE_ok hask).2
   obtain ⟨h0, hlt, htt, _⟩ := timeE_ok (hzz (timeE fr tt) (by simp))
   have hct : inB cents 0 1000000000 = true := by simpa using we_ok (by decide) (hzz (whenE (!inB cents 0 1000000000) 1) (by simp))
   have hct := inB_iff.1 hct
   have hct0 := hct.1
   have hct1 := hct.2
   have hB0 : bestCE l ks cls fr tt cents = 0 := hBE2.trans hz
   refine sg_ rfl (sg_ rfl (nn_ (gw_seq (sr_ (mv_ rfl (wl_ov (ov_len es36 rfl) rfl (mv_ rfl (nn_ (gw_block ?_)))))))))
   refine gw_loop (γ := Nat × ByteArray × Int) (fun (g : Nat × ByteArray × Int) => g.1 ≤ n1 ∧ (g.2.1, g.2.2) = (ks.take g.1).foldl (bestS l cls fr tt cents) (⟨#[]⟩, 0)) (fun (g : Nat × ByteArray × Int) => [(2, .string cls), (4, .int .i64 cents), (5, .pointer (some ⟨g1, 0, none⟩)), (8, .pointer (some ⟨g2, 0, none⟩)), (10, .string ⟨#[]⟩), (11, .int .i64 0), (12, .int .i64 0), (15, .string g.2.1), (16, .int .i64 g.2.2), (45, .slice A1 n1 c1), (46, .int .i64 ((n1 : Nat) : Int)), (47, .int .i64 ((g.1 : Nat) : Int))]) (fun (g : Nat × ByteArray × Int) => fun _ => True) (fun (g : Nat × ByteArray × Int) => [(g3, 41, [.int .i64 AE, .int .i64 (whenE (!(keyB cls)) 5), .int .i64 (timeE fr tt), .int .i64 (whenE (!(inB cents 0 1000000000)) 1)]), (g2, 35, [.int .i64 fr, .int .i64 tt]), (g1, 29, [.slice A n c0])]) (fun (g : Nat × ByteArray × Int) => []) (fun (g : Nat × ByteArray × Int) => [SlOld cdEnc 6 262 w.heap.size none A n l, SlOld sgEnc 1 9 w.heap.size none A1 n1 ks]) (fun (g : Nat × ByteArray × Int) => n1 - g.1) (0, ⟨#[]⟩, 0) ⟨Nat.zero_le _, rfl⟩ ⟨rfl, rfl, rfl, rfl, rfl, rfl, rfl, rfl, rfl, rfl, rfl, rfl, trivial⟩ (fun _ hm => hm.pick [0, 1, 2] [] [0, 1] rfl rfl) ?_
   rintro ⟨i, ky, mo⟩ hinv
   replace hinv : i ≤ n1 ∧ (ky, mo) = (ks.take i).foldl (bestS l cls fr tt cents) (⟨#[]⟩, 0) := hinv
   dsimp only
   refine sr_ ?_
   obtain ⟨hi0, hi1⟩ := hinv
   refine wl_ov (ov_lss rfl rfl) rfl (nn_ (gw_seq ?_))
   refine gw_cond rfl (fun hh => ?_) (fun hh => ?_)
   ·have hi : ((i : Nat) : Int) < ((n1 : Nat) : Int) := by simpa using hh
    clear hh
    refine gw_skip (nx_then (gw_seq (gw_block (sr_ ?_))))
    obtain ⟨b1, off1, hA, _, _⟩ := hs.get (by omega)
    subst hA
    obtain ⟨k, hks⟩ : ∃ x, ks[i]? = some x := ⟨_, List.getElem?_eq_getElem (by omega)⟩
    have hik : l.any (codeP k) = true := hin k (List.mem_of_getElem? hks)
    rw [← ix_any] at hik
    obtain ⟨IX, hIX⟩ : ∃ E, E = ixP (codeP k) l 0 := ⟨_, rfl⟩
    obtain ⟨y, hy, _⟩ := ixP_get (p := codeP k) (l := l) (of_decide_eq_true hik)
    rw [← hIX] at hy
    have hIX0 : 0 ≤ IX := by rw [hIX]; exact of_decide_eq_true hik
    obtain ⟨j, hj⟩ := Int.eq_ofNat_of_zero_le hIX0
    subst hj
    rw [Int.toNat_natCast] at hy
    have hjn : j < n := by have := (List.getElem?_eq_some_iff.1 hy).1; omega
    obtain ⟨_, ⟨f1, f2, f3⟩, ⟨f4, f5⟩, f6, f7⟩ := (codesE_ok hcodes).2.2 y (List.mem_of_getElem? hy)
    obtain ⟨ke, cl, cf, ct, dy, mi⟩ := y
    dsimp only at f1 f2 f3 f4 f5 f6 f7
    have hob := off_bound hct0 hct1 f6 f7
    have hob0 := hob.1
    have hob1 := hob.2
    have hstep := fold_take (bestS l cls fr tt cents) (⟨#[]⟩, 0) hks
    rw [← hi1] at hstep
    obtain ⟨b, off, hA, _, _⟩ := hl.get (by omega)
    subst hA
    refine wl_ov (ov_index (j := i) es36 rfl rfl (by omega)) rfl ?_
    refine wl_ov (ov_elem1 (k := 0) (v := .string k) sc9 rfl (fun _ hm => (hm.fact 1 rfl).1) hks rfl rfl) rfl ?_
    refine sg_ rfl (nn_ ?_)
    refine gw_cut (γ := Nat) (I := (fun (gz : Nat) => True)) (S' := (fun (gz : Nat) => [(2, .string cls), (4, .int .i64 cents), (5, .pointer (some ⟨g1, 0, none⟩)), (8, .pointer (some ⟨g2, 0, none⟩)), (10, .string ⟨#[]⟩), (11, .int .i64 0), (12, .int .i64 0), (15, .string ky), (16, .int .i64 mo), (18, .string k), (19, .pointer (some ⟨gz, 0, none⟩)), (45, .slice (some ⟨b1, off1, none⟩) n1 c1), (46, .int .i64 ((n1 : Nat) : Int)), (47, .int .i64 ((i : Nat) : Int))])) (K' := (fun (gz : Nat) => fun _ => True)) (L' := (fun (gz : Nat) => [(g3, 41, [.int .i64 AE, .int .i64 (whenE (!(keyB cls)) 5), .int .i64 (timeE fr tt), .int .i64 (whenE (!(inB cents 0 1000000000)) 1)]), (g2, 35, [.int .i64 fr, .int .i64 tt]), (g1, 29, [.slice (some ⟨b, off, none⟩) n c0]), (gz, 262, [.string ke, .string cl, .int .i64 cf, .int .i64 ct, .int .i64 dy, .int .i64 mi])])) (O' := (fun (gz : Nat) => [])) (X' := (fun (gz : Nat) => [SlOld cdEnc 6 262 w.heap.size none (some ⟨b, off, none⟩) n l, SlOld sgEnc 1 9 w.heap.size none (some ⟨b1, off1, none⟩) n1 ks])) ?_ ?_
    ·refine gd (fun wz => Blk wz g3 41 [.int .i64 AE, .int .i64 (whenE (!(keyB cls)) 5), .int .i64 (timeE fr tt), .int .i64 (whenE (!(inB cents 0 1000000000)) 1)] ∧ Blk wz g2 35 [.int .i64 fr, .int .i64 tt] ∧ Blk wz g1 29 [.slice (some ⟨b, off, none⟩) n c0] ∧ (SlOld cdEnc 6 262 w.heap.size none (some ⟨b, off, none⟩) n l) wz ∧ (SlOld sgEnc 1 9 w.heap.size none (some ⟨b1, off1, none⟩) n1 ks) wz ∧ True) mixed (fun _ hm => ⟨hm.blkI 0 rfl, hm.blkI 1 rfl, hm.blkI 2 rfl, hm.fact 0 rfl, hm.fact 1 rfl, trivial⟩) fun z => ?_
     refine wt 0 8 1 rfl z (ov_load sc29 rfl (fun _ hm => hm.2.2.1) rfl) ?_
     refine wt 1 8 3 rfl z (ov_load sc29 rfl (fun _ hm => hm.2.2.1) rfl) ?_
     refine wt 2 8 7 rfl z (ov_move rfl) ?_
     refine wa_all [3, 6] (by kernel_rfl) rfl ⟨⟨_, rfl, ?_⟩, ⟨_, rfl, ?_⟩, trivial⟩
     ·refine wl_callv (v := .int .i64 ((j : Nat) : Int)) rfl cb256 rfl rfl (fun wx hm => (by rw [hIX]; exact codeAt_any l _ n c0 k wx (hm.fact 0 rfl).1 hn)) ?_
      refine wl_nil ?_
      refine nw 8 15 (fun _ hm => ⟨hm.blkI 0 rfl, hm.blkI 1 rfl, hm.blkI 2 rfl, hm.fact 0 rfl, hm.fact 1 rfl, trivial⟩) fun z => ?_
      refine wt 4 8 31 rfl z (ov_index (j := j) es29 rfl rfl (by omega)) ?_
      refine wt 5 8 63 rfl z (ov_elem (vs := [.string ke, .string cl, .int .i64 cf, .int .i64 ct, .int .i64 dy, .int .i64 mi]) rz262 rfl (fun _ hm => (hm.2.2.2.1).1) hy rfl rfl) ?_
      refine wa1 6 rfl ?_
      refine wl_alloc zc262 rfl fun g4 => ?_
      refine wl_nil ?_
      refine nw 8 127 (fun _ hm => ⟨hm.blkI 1 rfl, hm.blkI 2 rfl, hm.blkI 3 rfl, hm.fact 0 rfl, hm.fact 1 rfl, trivial⟩) fun z => ?_
      refine wa1 7 rfl ?_
      refine wl_stores (cs' := [.string ke, .string cl, .int .i64 cf, .int .i64 ct, .int .i64 dy, .int .i64 mi]) 0 rz262 rfl rfl rfl rfl rfl rfl rfl rfl ?_
      refine wl_nil ?_
      refine nw 8 255 (fun _ hm => ⟨hm.blkI 1 rfl, hm.blkI 2 rfl, hm.blkI 3 rfl, hm.fact 0 rfl, hm.fact 1 rfl, trivial⟩) fun z => ?_
      refine wa_done (by kernel_rfl) ?_
      exact nx_meet g4 trivial ⟨rfl, rfl, rfl, rfl, rfl, rfl, rfl, rfl, rfl, rfl, rfl, rfl, rfl, rfl, trivial⟩ (fun _ hm => hm.pick [1, 2, 3, 0] [] [0, 1] rfl rfl)
     ·refine wl_alloc zc262 rfl fun g5 => ?_
      refine wl_nil ?_
      refine nw 8 71 (fun _ hm => ⟨hm.blkI 1 rfl, hm.blkI 2 rfl, hm.blkI 3 rfl, hm.fact 0 rfl, hm.fact 1 rfl, trivial⟩) fun z => ?_
      refine wa1 3 rfl ?_
      refine wl_callv (v := .int .i64 ((j : Nat) : Int)) rfl cb256 rfl rfl (fun wx hm => (by rw [hIX]; exact codeAt_any l _ n c0 k wx (hm.fact 0 rfl).1 hn)) ?_
      refine wl_nil ?_
      refine nw 8 79 (fun _ hm => ⟨hm.blkI 1 rfl, hm.blkI 2 rfl, hm.blkI 3 rfl, hm.fact 0 rfl, hm.fact 1 rfl, trivial⟩) fun z => ?_
      refine wt 4 8 95 rfl z (ov_index (j := j) es29 rfl rfl (by omega)) ?_
      refine wt 5 8 127 rfl z (ov_elem (vs := [.string ke, .string cl, .int .i64 cf, .int .i64 ct, .int .i64 dy, .int .i64 mi]) rz262 rfl (fun _ hm => (hm.2.2.2.1).1) hy rfl rfl) ?_
      refine wa1 7 rfl ?_
      refine wl_stores (cs' := [.string ke, .string cl, .int .i64 cf, .int .i64 ct, .int .i64 dy, .int .i64 mi]) 0 rz262 rfl rfl rfl rfl rfl rfl rfl rfl ?_
      refine wl_nil ?_
      refine nw 8 255 (fun _ hm => ⟨hm.blkI 1 rfl, hm.blkI 2 rfl, hm.blkI 3 rfl, hm.fact 0 rfl, hm.fact 1 rfl, trivial⟩) fun z => ?_
      refine wa_done (by kernel_rfl) ?_
      exact nx_meet g5 trivial ⟨rfl, rfl, rfl, rfl, rfl, rfl, rfl, rfl, rfl, rfl, rfl, rfl, rfl, rfl, trivial⟩ (fun _ hm => hm.pick [1, 2, 3, 0] [] [0, 1] rfl rfl)
    ·intro gz hinv
     replace hinv : True := hinv
     refine gw_seq ?_
     clear hinv
     refine gd (fun wz => Blk wz g3 41 [.int .i64 AE, .int .i64 (whenE (!(keyB cls)) 5), .int .i64 (timeE fr tt), .int .i64 (whenE (!(inB cents 0 1000000000)) 1)] ∧ Blk wz g2 35 [.int .i64 fr, .int .i64 tt] ∧ Blk wz g1 29 [.slice (some ⟨b, off, none⟩) n c0] ∧ Blk wz gz 262 [.string ke, .string cl, .int .i64 cf, .int .i64 ct, .int .i64 dy, .int .i64 mi] ∧ (SlOld cdEnc 6 262 w.heap.size none (some ⟨b, off, none⟩) n l) wz ∧ (SlOld sgEnc 1 9 w.heap.size none (some ⟨b1, off1, none⟩) n1 ks) wz ∧ True) mixed (fun _ hm => ⟨hm.blkI 0 rfl, hm.blkI 1 rfl, hm.blkI 2 rfl, hm.blkI 3 rfl, hm.fact 0 rfl, hm.fact 1 rfl, trivial⟩) fun z => ?_
     refine wt 0 28 1 rfl z (ov_field fo262_1 rfl rfl) ?_
     refine wt 1 28 3 rfl z (ov_load sc9 rfl (fun _ hm => hm.2.2.2.1) rfl) ?_
     refine wt 2 28 7 rfl z (ov_seql rfl rfl) ?_
     refine wt 3 28 15 rfl z (ov_move rfl) ?_
     rcases Bool.eq_false_or_eq_true (cl.toList == (⟨#[]⟩ : ByteArray).toList) with e1 | e1
     ·refine wa_set 60 rfl (congrArg Value.bool e1) ?_
      have e1 : emptyS cl = true := e1
      refine wtf 4 28 31 rfl rfl rfl z ?_
      refine wtf 5 28 63 rfl rfl rfl z ?_
      refine wtf 6 28 127 rfl rfl rfl z ?_
      refine wtf 7 28 255 rfl rfl rfl z ?_
      refine wt 8 28 511 rfl z (ov_pick_t rfl rfl) ?_
      refine wt 9 28 1023 rfl z (ov_move rfl) ?_
      refine wto 10 28 2047 rfl rfl rfl z (ov_field fo35_0 rfl rfl) ?_
      refine wto 11 28 4095 rfl rfl rfl z (ov_load sc3 rfl (fun _ hm => hm.2.1) rfl) ?_
      refine wto 12 28 8191 rfl rfl rfl z (ov_quo rfl rfl (by omega) (by omega) (by omega)) ?_
      refine wto 13 28 16383 rfl rfl rfl z (ov_field fo262_2 rfl rfl) ?_
      refine wto 14 28 32767 rfl rfl rfl z (ov_load sc3 rfl (fun _ hm => hm.2.2.2.1) rfl) ?_
      refine wto 15 28 65535 rfl rfl rfl z (ov_field fo262_3 rfl rfl) ?_
      refine wto 16 28 131071 rfl rfl rfl z (ov_load sc3 rfl (fun _ hm => hm.2.2.2.1) rfl) ?_
      refine wto 17 28 262143 rfl rfl rfl z (ov_sub rfl rfl (by omega) (by omega)) ?_
      refine wa1 18 rfl ?_
      refine wl_guard_on rfl rfl rfl ?_
      refine wl_callw rfl cb175 rfl rfl (fun wx hm => (in_any _ _ _ wx)) ?_
      refine wl_nil ?_
      refine nw 28 524287 (fun _ hm => ⟨hm.blkI 0 rfl, hm.blkI 1 rfl, hm.blkI 2 rfl, hm.blkI 3 rfl, hm.fact 0 rfl, hm.fact 1 rfl, trivial⟩) fun z => ?_
      refine wt 19 28 1048575 rfl z (ov_pick_t rfl rfl) ?_
      refine wt 20 28 2097151 rfl z (ov_move rfl) ?_
      rcases Bool.eq_false_or_eq_true (inB (fr / 1440) cf (ct - 1)) with e3 | e3
      ·refine wa_set 77 rfl (congrArg Value.bool e3) ?_
       refine wto 21 28 4194303 rfl rfl rfl z (ov_loads rz35 rfl (fun _ hm => hm.2.1) rfl rfl) ?_
       refine wto 23 28 12582911 rfl rfl rfl z (ov_field fo262_4 rfl rfl) ?_
       refine wto 24 28 29360127 rfl rfl rfl z (ov_load sc3 rfl (fun _ hm => hm.2.2.2.1) rfl) ?_
       refine wa1 22 rfl ?_
       refine wl_guard_on rfl rfl rfl ?_
       refine wl_callv rfl cb202 rfl rfl (fun wx hm => (days_any _ _ wx (by omega) (by omega) (by omega))) ?_
       refine wl_nil ?_
       refine nw 28 33554431 (fun _ hm => ⟨hm.blkI 0 rfl, hm.blkI 1 rfl, hm.blkI 2 rfl, hm.blkI 3 rfl, hm.fact 0 rfl, hm.fact 1 rfl, trivial⟩) fun z => ?_
       refine wto 25 28 67108863 rfl rfl rfl z (ov_geq rfl rfl) ?_
       refine wt 26 28 134217727 rfl z (ov_pick_t rfl rfl) ?_
       refine wt 27 28 268435455 rfl z (ov_assign rfl) ?_
       refine wa_done (by kernel_rfl) ?_
       refine nx_then (sr_ (mv_ rfl (fd_ fo262_5 rfl rfl (lk_ sc3 3 rfl rfl rfl ?_))))
       refine wl_ov (ov_mul rfl rfl (by omega) (by omega)) rfl ?_
       refine wl_ov (ov_quo rfl rfl (by omega) (by omega) (by omega)) rfl ?_
       refine sg_ rfl (nn_ (sr_ (mv_ rfl (mv_ rfl ?_))))
       rcases Bool.eq_false_or_eq_true (decide (dy ≤ daysV fr tt)) with e4 | e4
       ·refine wl_set 90 rfl (congrArg Value.bool e4) ?_
        have hcb : countsB ⟨ke, cl, cf, ct, dy, mi⟩ cls fr tt = true := counts_yes (.inl e1) e3 (of_decide_eq_true e4)
        refine wl_guard_on rfl rfl rfl (mv_ rfl (wl_guard_on rfl rfl rfl (wl_ov (ov_seql rfl rfl) rfl (wl_guard_on rfl rfl rfl (mv_ rfl ?_)))))
        rcases Bool.eq_false_or_eq_true (ky.toList == (⟨#[]⟩ : ByteArray).toList) with c1 | c1
        ·refine wl_set 93 rfl (congrArg Value.bool c1) ?_
         have hs2 := bestS_yes (st := (ky, mo)) (cents := cents) hIX.symm hy hcb (.inl c1)
         refine goff rfl rfl rfl (goff rfl rfl rfl (goff rfl rfl rfl (wl_guard_on rfl rfl rfl (pt_ rfl rfl (wl_guard_on rfl rfl rfl (mv_ rfl (goff rfl rfl rfl (goff rfl rfl rfl (goff rfl rfl rfl (goff rfl rfl rfl (gnd rfl rfl rfl (gnd rfl rfl rfl (gnd rfl rfl rfl ?_)))))))))))))
         refine goff rfl rfl rfl (wl_guard_on rfl rfl rfl (pt_ rfl rfl (pt_ rfl rfl (nn_ (ct_ rfl (gw_region (mv_ rfl (mv_ rfl (sg_ rfl (sg_ rfl (wl_nil (nx_blk_nrm ?_))))))))))))
         refine nx_then (gw_region (ad_ rfl rfl (mv_ rfl (wl_nil ?_))))
         exact nx_round (i + 1, k, cents * mi / 1000) ⟨by dsimp only; omega, by rw [hstep]; exact hs2.symm⟩ (by dsimp only; omega) ⟨rfl, rfl, rfl, rfl, rfl, rfl, rfl, rfl, rfl, rfl, rfl, (some_int (by omega)), trivial⟩ (fun _ hm => hm.pick [0, 1, 2] [] [0, 1] rfl rfl)
        ·refine wl_set 93 rfl (congrArg Value.bool c1) ?_
         refine wl_guard_on rfl rfl rfl (mv_ rfl (wl_guard_on rfl rfl rfl (mv_ rfl (wl_guard_on rfl rfl rfl ?_))))
         refine wl_ov (ov_gtr rfl rfl) rfl ?_
         refine wl_guard_on rfl rfl rfl (pf_ rfl rfl (wl_guard_on rfl rfl rfl (mv_ rfl ?_)))
         rcases Bool.eq_false_or_eq_true (decide (mo < (cents * mi) / 1000)) with c2 | c2
         ·refine wl_set 98 rfl (congrArg Value.bool c2) ?_
          have hs2 := bestS_yes (st := (ky, mo)) (cents := cents) hIX.symm hy hcb (.inr (.inl (of_decide_eq_true c2)))
          refine goff rfl rfl rfl (goff rfl rfl rfl (goff rfl rfl rfl (goff rfl rfl rfl (gnd rfl rfl rfl (gnd rfl rfl rfl (gnd rfl rfl rfl (goff rfl rfl rfl (wl_guard_on rfl rfl rfl (pt_ rfl rfl (pt_ rfl rfl (nn_ (ct_ rfl ?_))))))))))))
          refine gw_region (mv_ rfl (mv_ rfl (sg_ rfl (sg_ rfl (wl_nil (nx_blk_nrm (nx_then (gw_region (ad_ rfl rfl (mv_ rfl (wl_nil ?_)))))))))))
          exact nx_round (i + 1, k, cents * mi / 1000) ⟨by dsimp only; omega, by rw [hstep]; exact hs2.symm⟩ (by dsimp only; omega) ⟨rfl, rfl, rfl, rfl, rfl, rfl, rfl, rfl, rfl, rfl, rfl, (some_int (by omega)), trivial⟩ (fun _ hm => hm.pick [0, 1, 2] [] [0, 1] rfl rfl)
         ·refine wl_set 98 rfl (congrArg Value.bool c2) ?_
          refine wl_guard_on rfl rfl rfl (mv_ rfl (wl_guard_on rfl rfl rfl (mv_ rfl (wl_guard_on rfl rfl rfl (wl_ov (ov_eql rfl rfl) rfl (wl_guard_on rfl rfl rfl (mv_ rfl ?_)))))))
          rcases Bool.eq_false_or_eq_true (decide ((cents * mi) / 1000 = mo)) with c3 | c3
          ·refine wl_set 102 rfl (congrArg Value.bool c3) ?_
           refine wl_guard_on rfl rfl rfl (mv_ rfl (wl_guard_on rfl rfl rfl (mv_ rfl (wl_guard_on rfl rfl rfl ?_))))
           refine wl_ov (ov_slss rfl rfl) rfl ?_
           refine wl_guard_on rfl rfl rfl (pt_ rfl rfl (wl_guard_on rfl rfl rfl (pf_ rfl rfl (pt_ rfl rfl (nn_ ?_)))))
           refine gw_cond rfl (fun hh => ?_) (fun hh => ?_)
           ·have c4 : (Op.bytesLess k.toList ky.toList) = true := by simpa using hh
            clear hh
            refine gw_region ?_
            have hs2 := bestS_yes (st := (ky, mo)) (cents := cents) hIX.symm hy hcb (.inr (.inr ⟨of_decide_eq_true c3, c4⟩))
            refine mv_ rfl (mv_ rfl (sg_ rfl (sg_ rfl (wl_nil (nx_blk_nrm (nx_then (gw_region (ad_ rfl rfl (mv_ rfl (wl_nil ?_))))))))))
            exact nx_round (i + 1, k, cents * mi / 1000) ⟨by dsimp only; omega, by rw [hstep]; exact hs2.symm⟩ (by dsimp only; omega) ⟨rfl, rfl, rfl, rfl, rfl, rfl, rfl, rfl, rfl, rfl, rfl, (some_int (by omega)), trivial⟩ (fun _ hm => hm.pick [0, 1, 2] [] [0, 1] rfl rfl)
           ·have c4 : (Op.bytesLess k.toList ky.toList) = false := by simpa using hh
            clear hh
            refine gw_skip (nx_blk_nrm (nx_then (gw_region ?_)))
            have hno : ¬ (emptyS (ky, mo).1 = true ∨ (ky, mo).2 < offV cents ⟨ke, cl, cf, ct, dy, mi⟩ ∨ (offV cents ⟨ke, cl, cf, ct, dy, mi⟩ = (ky, mo).2 ∧ ltS k (ky, mo).1 = true)) := by
             rintro (h | h | ⟨_, h⟩)
             ·exact absurd (h.symm.trans c1) (by decide)
             ·exact of_decide_eq_false c2 h
             ·exact absurd (h.symm.trans c4) (by decide)
            have hs2 := bestS_keep (cls := cls) (fr := fr) (tt := tt) (st := (ky, mo)) (cents := cents) hIX.symm hy (hno)
            refine ad_ rfl rfl (mv_ rfl (wl_nil ?_))
            exact nx_round (i + 1, ky, mo) ⟨by dsimp only; omega, by rw [hstep]; exact hs2.symm⟩ (by dsimp only; omega) ⟨rfl, rfl, rfl, rfl, rfl, rfl, rfl, rfl, rfl, rfl, rfl, (some_int (by omega)), trivial⟩ (fun _ hm => hm.pick [0, 1, 2] [] [0, 1] rfl rfl)
          ·refine wl_set 102 rfl (congrArg Value.bool c3) ?_
           have hno : ¬ (emptyS (ky, mo).1 = true ∨ (ky, mo).2 < offV cents ⟨ke, cl, cf, ct, dy, mi⟩ ∨ (offV cents ⟨ke, cl, cf, ct, dy, mi⟩ = (ky, mo).2 ∧ ltS k (ky, mo).1 = true)) := by
            rintro (h | h | ⟨h, _⟩)
            ·exact absurd (h.symm.trans c1) (by decide)
            ·exact of_decide_eq_false c2 h
            ·exact of_decide_eq_false c3 h
           have hs2 := bestS_keep (cls := cls) (fr := fr) (tt := tt) (st := (ky, mo)) (cents := cents) hIX.symm hy (hno)
           refine goff rfl rfl rfl (goff rfl rfl rfl (goff rfl rfl rfl (wl_guard_on rfl rfl rfl (pf_ rfl rfl (wl_guard_on rfl rfl rfl (pf_ rfl rfl (pt_ rfl rfl (nn_ (cf_ rfl (gw_skip (nx_blk_nrm (nx_then ?_))))))))))))
           refine gw_region (ad_ rfl rfl (mv_ rfl (wl_nil ?_)))
           exact nx_round (i + 1, ky, mo) ⟨by dsimp only; omega, by rw [hstep]; exact hs2.symm⟩ (by dsimp only; omega) ⟨rfl, rfl, rfl, rfl, rfl, rfl, rfl, rfl, rfl, rfl, rfl, (some_int (by omega)), trivial⟩ (fun _ hm => hm.pick [0, 1, 2] [] [0, 1] rfl rfl)
       ·refine wl_set 90 rfl (congrArg Value.bool e4) ?_
        have hcb : countsB ⟨ke, cl, cf, ct, dy, mi⟩ cls fr tt = false := counts_days (of_decide_eq_false e4)
        have hs2 := bestS_no (st := (ky, mo)) (cents := cents) hIX.symm hy hcb
        refine goff rfl rfl rfl (goff rfl rfl rfl (goff rfl rfl rfl (gnd rfl rfl rfl (gnd rfl rfl rfl (gnd rfl rfl rfl (goff rfl rfl rfl (goff rfl rfl rfl (gnd rfl rfl rfl (gnd rfl rfl rfl (gnd rfl rfl rfl (gnd rfl rfl rfl (gnd rfl rfl rfl (gnd rfl rfl rfl ?_)))))))))))))
        refine gnd rfl rfl rfl (gnd rfl rfl rfl (goff rfl rfl rfl (pf_ rfl rfl (nn_ (cf_ rfl (gw_skip (nx_blk_nrm (nx_then (gw_region (ad_ rfl rfl (mv_ rfl (wl_nil ?_))))))))))))
        exact nx_round (i + 1, ky, mo) ⟨by dsimp only; omega, by rw [hstep]; exact hs2.symm⟩ (by dsimp only; omega) ⟨rfl, rfl, rfl, rfl, rfl, rfl, rfl, rfl, rfl, rfl, rfl, (some_int (by omega)), trivial⟩ (fun _ hm => hm.pick [0, 1, 2] [] [0, 1] rfl rfl)
      ·refine wa_set 77 rfl (congrArg Value.bool e3) ?_
       have hcb : countsB ⟨ke, cl, cf, ct, dy, mi⟩ cls fr tt = false := counts_in e3
       have hs2 := bestS_no (st := (ky, mo)) (cents := cents) hIX.symm hy hcb
       refine wtf 21 28 4194303 rfl rfl rfl z ?_
       refine wtf 22 28 8388607 rfl rfl rfl z ?_
       refine wtf 23 28 16777215 rfl rfl rfl z ?_
       refine wtf 24 28 33554431 rfl rfl rfl z ?_
       refine wtf 25 28 67108863 rfl rfl rfl z ?_
       refine wt 26 28 134217727 rfl z (ov_pick_f rfl rfl) ?_
       refine wt 27 28 268435455 rfl z (ov_assign rfl) ?_
       refine wa_done (by kernel_rfl) ?_
       refine nx_then (sr_ (mv_ rfl (fd_ fo262_5 rfl rfl (lk_ sc3 3 rfl rfl rfl ?_))))
       refine wl_ov (ov_mul rfl rfl (by omega) (by omega)) rfl ?_
       refine wl_ov (ov_quo rfl rfl (by omega) (by omega) (by omega)) rfl ?_
       refine sg_ rfl (nn_ (sr_ (mv_ rfl (mv_ rfl (goff rfl rfl rfl (goff rfl rfl rfl (goff rfl rfl rfl (gnd rfl rfl rfl (gnd rfl rfl rfl (gnd rfl rfl rfl (goff rfl rfl rfl ?_)))))))))))
       refine goff rfl rfl rfl (gnd rfl rfl rfl (gnd rfl rfl rfl (gnd rfl rfl rfl (gnd rfl rfl rfl (gnd rfl rfl rfl (gnd rfl rfl rfl (gnd rfl rfl rfl (gnd rfl rfl rfl (goff rfl rfl rfl (pf_ rfl rfl (nn_ (cf_ rfl ?_))))))))))))
       refine gw_skip (nx_blk_nrm (nx_then (gw_region (ad_ rfl rfl (mv_ rfl (wl_nil ?_))))))
       exact nx_round (i + 1, ky, mo) ⟨by dsimp only; omega, by rw [hstep]; exact hs2.symm⟩ (by dsimp only; omega) ⟨rfl, rfl, rfl, rfl, rfl, rfl, rfl, rfl, rfl, rfl, rfl, (some_int (by omega)), trivial⟩ (fun _ hm => hm.pick [0, 1, 2] [] [0, 1] rfl rfl)
     ·refine wa_set 60 rfl (congrArg Value.bool e1) ?_
      have e1 : emptyS cl = false := e1
      refine wto 4 28 31 rfl rfl rfl z (ov_field fo262_1 rfl rfl) ?_
      refine wto 5 28 63 rfl rfl rfl z (ov_load sc9 rfl (fun _ hm => hm.2.2.2.1) rfl) ?_
      refine wto 6 28 127 rfl rfl rfl z (ov_move rfl) ?_
      refine wto 7 28 255 rfl rfl rfl z (ov_seql rfl rfl) ?_
      refine wt 8 28 511 rfl z (ov_pick_f rfl rfl) ?_
      refine wt 9 28 1023 rfl z (ov_move rfl) ?_
      rcases Bool.eq_false_or_eq_true (cl.toList == cls.toList) with e2 | e2
      ·refine wa_set 66 rfl (congrArg Value.bool e2) ?_
       refine wto 10 28 2047 rfl rfl rfl z (ov_field fo35_0 rfl rfl) ?_
       refine wto 11 28 4095 rfl rfl rfl z (ov_load sc3 rfl (fun _ hm => hm.2.1) rfl) ?_
       refine wto 12 28 8191 rfl rfl rfl z (ov_quo rfl rfl (by omega) (by omega) (by omega)) ?_
       refine wto 13 28 16383 rfl rfl rfl z (ov_field fo262_2 rfl rfl) ?_
       refine wto 14 28 32767 rfl rfl rfl z (ov_load sc3 rfl (fun _ hm => hm.2.2.2.1) rfl) ?_
       refine wto 15 28 65535 rfl rfl rfl z (ov_field fo262_3 rfl rfl) ?_
       refine wto 16 28 131071 rfl rfl rfl z (ov_load sc3 rfl (fun _ hm => hm.2.2.2.1) rfl) ?_
       refine wto 17 28 262143 rfl rfl rfl z (ov_sub rfl rfl (by omega) (by omega)) ?_
       refine wa1 18 rfl ?_
       refine wl_guard_on rfl rfl rfl ?_
       refine wl_callw rfl cb175 rfl rfl (fun wx hm => (in_any _ _ _ wx)) ?_
       refine wl_nil ?_
       refine nw 28 524287 (fun _ hm => ⟨hm.blkI 0 rfl, hm.blkI 1 rfl, hm.blkI 2 rfl, hm.blkI 3 rfl, hm.fact 0 rfl, hm.fact 1 rfl, trivial⟩) fun z => ?_
       refine wt 19 28 1048575 rfl z (ov_pick_t rfl rfl) ?_
       refine wt 20 28 2097151 rfl z (ov_move rfl) ?_
       rcases Bool.eq_false_or_eq_true (inB (fr / 1440) cf (ct - 1)) with e3 | e3
       ·refine wa_set 77 rfl (congrArg Value.bool e3) ?_
        refine wto 21 28 4194303 rfl rfl rfl z (ov_loads rz35 rfl (fun _ hm => hm.2.1) rfl rfl) ?_
        refine wto 23 28 12582911 rfl rfl rfl z (ov_field fo262_4 rfl rfl) ?_
        refine wto 24 28 29360127 rfl rfl rfl z (ov_load sc3 rfl (fun _ hm => hm.2.2.2.1) rfl) ?_
        refine wa1 22 rfl ?_
        refine wl_guard_on rfl rfl rfl ?_
        refine wl_callv rfl cb202 rfl rfl (fun wx hm => (days_any _ _ wx (by omega) (by omega) (by omega))) ?_
        refine wl_nil ?_
        refine nw 28 33554431 (fun _ hm => ⟨hm.blkI 0 rfl, hm.blkI 1 rfl, hm.blkI 2 rfl, hm.blkI 3 rfl, hm.fact 0 rfl, hm.fact 1 rfl, trivial⟩) fun z => ?_
        refine wto 25 28 67108863 rfl rfl rfl z (ov_geq rfl rfl) ?_
        refine wt 26 28 134217727 rfl z (ov_pick_t rfl rfl) ?_
        refine wt 27 28 268435455 rfl z (ov_assign rfl) ?_
        refine wa_done (by kernel_rfl) ?_
        refine nx_then (sr_ (mv_ rfl (fd_ fo262_5 rfl rfl (lk_ sc3 3 rfl rfl rfl ?_))))
        refine wl_ov (ov_mul rfl rfl (by omega) (by omega)) rfl ?_
        refine wl_ov (ov_quo rfl rfl (by omega) (by omega) (by omega)) rfl ?_
        refine sg_ rfl (nn_ (sr_ (mv_ rfl (mv_ rfl ?_))))
        rcases Bool.eq_false_or_eq_true (decide (dy ≤ daysV fr tt)) with e4 | e4
        ·refine wl_set 90 rfl (congrArg Value.bool e4) ?_
         have hcb : countsB ⟨ke, cl, cf, ct, dy, mi⟩ cls fr tt = true := counts_yes (.inr e2) e3 (of_decide_eq_true e4)
         refine wl_guard_on rfl rfl rfl (mv_ rfl (wl_guard_on rfl rfl rfl (wl_ov (ov_seql rfl rfl) rfl (wl_guard_on rfl rfl rfl (mv_ rfl ?_)))))
         rcases Bool.eq_false_or_eq_true (ky.toList == (⟨#[]⟩ : ByteArray).toList) with c1 | c1
         ·refine wl_set 93 rfl (congrArg Value.bool c1) ?_
          have hs2 := bestS_yes (st := (ky, mo)) (cents := cents) hIX.symm hy hcb (.inl c1)
          refine goff rfl rfl rfl (goff rfl rfl rfl (goff rfl rfl rfl (wl_guard_on rfl rfl rfl (pt_ rfl rfl (wl_guard_on rfl rfl rfl (mv_ rfl (goff rfl rfl rfl (goff rfl rfl rfl (goff rfl rfl rfl (goff rfl rfl rfl (gnd rfl rfl rfl (gnd rfl rfl rfl (gnd rfl rfl rfl ?_)))))))))))))
          refine goff rfl rfl rfl (wl_guard_on rfl rfl rfl (pt_ rfl rfl (pt_ rfl rfl (nn_ (ct_ rfl (gw_region (mv_ rfl (mv_ rfl (sg_ rfl (sg_ rfl (wl_nil (nx_blk_nrm ?_))))))))))))
          refine nx_then (gw_region (ad_ rfl rfl (mv_ rfl (wl_nil ?_))))
          exact nx_round (i + 1, k, cents * mi / 1000) ⟨by dsimp only; omega, by rw [hstep]; exact hs2.symm⟩ (by dsimp only; omega) ⟨rfl, rfl, rfl, rfl, rfl, rfl, rfl, rfl, rfl, rfl, rfl, (some_int (by omega)), trivial⟩ (fun _ hm => hm.pick [0, 1, 2] [] [0, 1] rfl rfl)
         ·refine wl_set 93 rfl (congrArg Value.bool c1) ?_
          refine wl_guard_on rfl rfl rfl (mv_ rfl (wl_guard_on rfl rfl rfl (mv_ rfl (wl_guard_on rfl rfl rfl ?_))))
          refine wl_ov (ov_gtr rfl rfl) rfl ?_
          refine wl_guard_on rfl rfl rfl (pf_ rfl rfl (wl_guard_on rfl rfl rfl (mv_ rfl ?_)))
          rcases Bool.eq_false_or_eq_true (decide (mo < (cents * mi) / 1000)) with c2 | c2
          ·refine wl_set 98 rfl (congrArg Value.bool c2) ?_
           have hs2 := bestS_yes (st := (ky, mo)) (cents := cents) hIX.symm hy hcb (.inr (.inl (of_decide_eq_true c2)))
           refine goff rfl rfl rfl (goff rfl rfl rfl (goff rfl rfl rfl (goff rfl rfl rfl (gnd rfl rfl rfl (gnd rfl rfl rfl (gnd rfl rfl rfl (goff rfl rfl rfl (wl_guard_on rfl rfl rfl (pt_ rfl rfl (pt_ rfl rfl (nn_ (ct_ rfl ?_))))))))))))
           refine gw_region (mv_ rfl (mv_ rfl (sg_ rfl (sg_ rfl (wl_nil (nx_blk_nrm (nx_then (gw_region (ad_ rfl rfl (mv_ rfl (wl_nil ?_)))))))))))
           exact nx_round (i + 1, k, cents * mi / 1000) ⟨by dsimp only; omega, by rw [hstep]; exact hs2.symm⟩ (by dsimp only; omega) ⟨rfl, rfl, rfl, rfl, rfl, rfl, rfl, rfl, rfl, rfl, rfl, (some_int (by omega)), trivial⟩ (fun _ hm => hm.pick [0, 1, 2] [] [0, 1] rfl rfl)
          ·refine wl_set 98 rfl (congrArg Value.bool c2) ?_
           refine wl_guard_on rfl rfl rfl (mv_ rfl (wl_guard_on rfl rfl rfl (mv_ rfl (wl_guard_on rfl rfl rfl (wl_ov (ov_eql rfl rfl) rfl (wl_guard_on rfl rfl rfl (mv_ rfl ?_)))))))
           rcases Bool.eq_false_or_eq_true (decide ((cents * mi) / 1000 = mo)) with c3 | c3
           ·refine wl_set 102 rfl (congrArg Value.bool c3) ?_
            refine wl_guard_on rfl rfl rfl (mv_ rfl (wl_guard_on rfl rfl rfl (mv_ rfl (wl_guard_on rfl rfl rfl ?_))))
            refine wl_ov (ov_slss rfl rfl) rfl ?_
            refine wl_guard_on rfl rfl rfl (pt_ rfl rfl (wl_guard_on rfl rfl rfl (pf_ rfl rfl (pt_ rfl rfl (nn_ ?_)))))
            refine gw_cond rfl (fun hh => ?_) (fun hh => ?_)
            ·have c4 : (Op.bytesLess k.toList ky.toList) = true := by simpa using hh
             clear hh
             refine gw_region ?_
             have hs2 := bestS_yes (st := (ky, mo)) (cents := cents) hIX.symm hy hcb (.inr (.inr ⟨of_decide_eq_true c3, c4⟩))
             refine mv_ rfl (mv_ rfl (sg_ rfl (sg_ rfl (wl_nil (nx_blk_nrm (nx_then (gw_region (ad_ rfl rfl (mv_ rfl (wl_nil ?_))))))))))
             exact nx_round (i + 1, k, cents * mi / 1000) ⟨by dsimp only; omega, by rw [hstep]; exact hs2.symm⟩ (by dsimp only; omega) ⟨rfl, rfl, rfl, rfl, rfl, rfl, rfl, rfl, rfl, rfl, rfl, (some_int (by omega)), trivial⟩ (fun _ hm => hm.pick [0, 1, 2] [] [0, 1] rfl rfl)
            ·have c4 : (Op.bytesLess k.toList ky.toList) = false := by simpa using hh
             clear hh
             refine gw_skip (nx_blk_nrm (nx_then (gw_region ?_)))
             have hno : ¬ (emptyS (ky, mo).1 = true ∨ (ky, mo).2 < offV cents ⟨ke, cl, cf, ct, dy, mi⟩ ∨ (offV cents ⟨ke, cl, cf, ct, dy, mi⟩ = (ky, mo).2 ∧ ltS k (ky, mo).1 = true)) := by
              rintro (h | h | ⟨_, h⟩)
              ·exact absurd (h.symm.trans c1) (by decide)
              ·exact of_decide_eq_false c2 h
              ·exact absurd (h.symm.trans c4) (by decide)
             have hs2 := bestS_keep (cls := cls) (fr := fr) (tt := tt) (st := (ky, mo)) (cents := cents) hIX.symm hy (hno)
             refine ad_ rfl rfl (mv_ rfl (wl_nil ?_))
             exact nx_round (i + 1, ky, mo) ⟨by dsimp only; omega, by rw [hstep]; exact hs2.symm⟩ (by dsimp only; omega) ⟨rfl, rfl, rfl, rfl, rfl, rfl, rfl, rfl, rfl, rfl, rfl, (some_int (by omega)), trivial⟩ (fun _ hm => hm.pick [0, 1, 2] [] [0, 1] rfl rfl)
           ·refine wl_set 102 rfl (congrArg Value.bool c3) ?_
            have hno : ¬ (emptyS (ky, mo).1 = true ∨ (ky, mo).2 < offV cents ⟨ke, cl, cf, ct, dy, mi⟩ ∨ (offV cents ⟨ke, cl, cf, ct, dy, mi⟩ = (ky, mo).2 ∧ ltS k (ky, mo).1 = true)) := by
             rintro (h | h | ⟨h, _⟩)
             ·exact absurd (h.symm.trans c1) (by decide)
             ·exact of_decide_eq_false c2 h
             ·exact of_decide_eq_false c3 h
            have hs2 := bestS_keep (cls := cls) (fr := fr) (tt := tt) (st := (ky, mo)) (cents := cents) hIX.symm hy (hno)
            refine goff rfl rfl rfl (goff rfl rfl rfl (goff rfl rfl rfl (wl_guard_on rfl rfl rfl (pf_ rfl rfl (wl_guard_on rfl rfl rfl (pf_ rfl rfl (pt_ rfl rfl (nn_ (cf_ rfl (gw_skip (nx_blk_nrm (nx_then ?_))))))))))))
            refine gw_region (ad_ rfl rfl (mv_ rfl (wl_nil ?_)))
            exact nx_round (i + 1, ky, mo) ⟨by dsimp only; omega, by rw [hstep]; exact hs2.symm⟩ (by dsimp only; omega) ⟨rfl, rfl, rfl, rfl, rfl, rfl, rfl, rfl, rfl, rfl, rfl, (some_int (by omega)), trivial⟩ (fun _ hm => hm.pick [0, 1, 2] [] [0, 1] rfl rfl)
        ·refine wl_set 90 rfl (congrArg Value.bool e4) ?_
         have hcb : countsB ⟨ke, cl, cf, ct, dy, mi⟩ cls fr tt = false := counts_days (of_decide_eq_false e4)
         have hs2 := bestS_no (st := (ky, mo)) (cents := cents) hIX.symm hy hcb
         refine goff rfl rfl rfl (goff rfl rfl rfl (goff rfl rfl rfl (gnd rfl rfl rfl (gnd rfl rfl rfl (gnd rfl rfl rfl (goff rfl rfl rfl (goff rfl rfl rfl (gnd rfl rfl rfl (gnd rfl rfl rfl (gnd rfl rfl rfl (gnd rfl rfl rfl (gnd rfl rfl rfl (gnd rfl rfl rfl ?_)))))))))))))
         refine gnd rfl rfl rfl (gnd rfl rfl rfl (goff rfl rfl rfl (pf_ rfl rfl (nn_ (cf_ rfl (gw_skip (nx_blk_nrm (nx_then (gw_region (ad_ rfl rfl (mv_ rfl (wl_nil ?_))))))))))))
         exact nx_round (i + 1, ky, mo) ⟨by dsimp only; omega, by rw [hstep]; exact hs2.symm⟩ (by dsimp only; omega) ⟨rfl, rfl, rfl, rfl, rfl, rfl, rfl, rfl, rfl, rfl, rfl, (some_int (by omega)), trivial⟩ (fun _ hm => hm.pick [0, 1, 2] [] [0, 1] rfl rfl)
       ·refine wa_set 77 rfl (congrArg Value.bool e3) ?_
        have hcb : countsB ⟨ke, cl, cf, ct, dy, mi⟩ cls fr tt = false := counts_in e3
        have hs2 := bestS_no (st := (ky, mo)) (cents := cents) hIX.symm hy hcb
        refine wtf 21 28 4194303 rfl rfl rfl z ?_
        refine wtf 22 28 8388607 rfl rfl rfl z ?_
        refine wtf 23 28 16777215 rfl rfl rfl z ?_
        refine wtf 24 28 33554431 rfl rfl rfl z ?_
        refine wtf 25 28 67108863 rfl rfl rfl z ?_
        refine wt 26 28 134217727 rfl z (ov_pick_f rfl rfl) ?_
        refine wt 27 28 268435455 rfl z (ov_assign rfl) ?_
        refine wa_done (by kernel_rfl) ?_
        refine nx_then (sr_ (mv_ rfl (fd_ fo262_5 rfl rfl (lk_ sc3 3 rfl rfl rfl ?_))))
        refine wl_ov (ov_mul rfl rfl (by omega) (by omega)) rfl ?_
        refine wl_ov (ov_quo rfl rfl (by omega) (by omega) (by omega)) rfl ?_
        refine sg_ rfl (nn_ (sr_ (mv_ rfl (mv_ rfl (goff rfl rfl rfl (goff rfl rfl rfl (goff rfl rfl rfl (gnd rfl rfl rfl (gnd rfl rfl rfl (gnd rfl rfl rfl (goff rfl rfl rfl ?_)))))))))))
        refine goff rfl rfl rfl (gnd rfl rfl rfl (gnd rfl rfl rfl (gnd rfl rfl rfl (gnd rfl rfl rfl (gnd rfl rfl rfl (gnd rfl rfl rfl (gnd rfl rfl rfl (gnd rfl rfl rfl (goff rfl rfl rfl (pf_ rfl rfl (nn_ (cf_ rfl ?_))))))))))))
        refine gw_skip (nx_blk_nrm (nx_then (gw_region (ad_ rfl rfl (mv_ rfl (wl_nil ?_))))))
        exact nx_round (i + 1, ky, mo) ⟨by dsimp only; omega, by rw [hstep]; exact hs2.symm⟩ (by dsimp only; omega) ⟨rfl, rfl, rfl, rfl, rfl, rfl, rfl, rfl, rfl, rfl, rfl, (some_int (by omega)), trivial⟩ (fun _ hm => hm.pick [0, 1, 2] [] [0, 1] rfl rfl)
      ·refine wa_set 66 rfl (congrArg Value.bool e2) ?_
       have hcb : countsB ⟨ke, cl, cf, ct, dy, mi⟩ cls fr tt = false := counts_cls e1 e2
       have hs2 := bestS_no (st := (ky, mo)) (cents := cents) hIX.symm hy hcb
       refine wtf 10 28 2047 rfl rfl rfl z ?_
       refine wtf 11 28 4095 rfl rfl rfl z ?_
       refine wtf 12 28 8191 rfl rfl rfl z ?_
       refine wtf 13 28 16383 rfl rfl rfl z ?_
       refine wtf 14 28 32767 rfl rfl rfl z ?_
       refine wtf 15 28 65535 rfl rfl rfl z ?_
       refine wtf 16 28 131071 rfl rfl rfl z ?_
       refine wtf 17 28 262143 rfl rfl rfl z ?_
       refine wtf 18 28 524287 rfl rfl rfl z ?_
       refine wt 19 28 1048575 rfl z (ov_pick_f rfl rfl) ?_
       refine wt 20 28 2097151 rfl z (ov_move rfl) ?_
       refine wtf 21 28 4194303 rfl rfl rfl z ?_
       refine wtf 22 28 8388607 rfl rfl rfl z ?_
       refine wtf 23 28 16777215 rfl rfl rfl z ?_
       refine wtf 24 28 33554431 rfl rfl rfl z ?_
       refine wtf 25 28 67108863 rfl rfl rfl z ?_
       refine wt 26 28 134217727 rfl z (ov_pick_f rfl rfl) ?_
       refine wt 27 28 268435455 rfl z (ov_assign rfl) ?_
       refine wa_done (by kernel_rfl) ?_
       refine nx_then (sr_ (mv_ rfl (fd_ fo262_5 rfl rfl (lk_ sc3 3 rfl rfl rfl ?_))))
       refine wl_ov (ov_mul rfl rfl (by omega) (by omega)) rfl ?_
       refine wl_ov (ov_quo rfl rfl (by omega) (by omega) (by omega)) rfl ?_
       refine sg_ rfl (nn_ (sr_ (mv_ rfl (mv_ rfl (goff rfl rfl rfl (goff rfl rfl rfl (goff rfl rfl rfl (gnd rfl rfl rfl (gnd rfl rfl rfl (gnd rfl rfl rfl (goff rfl rfl rfl ?_)))))))))))
       refine goff rfl rfl rfl (gnd rfl rfl rfl (gnd rfl rfl rfl (gnd rfl rfl rfl (gnd rfl rfl rfl (gnd rfl rfl rfl (gnd rfl rfl rfl (gnd rfl rfl rfl (gnd rfl rfl rfl (goff rfl rfl rfl (pf_ rfl rfl (nn_ (cf_ rfl ?_))))))))))))
       refine gw_skip (nx_blk_nrm (nx_then (gw_region (ad_ rfl rfl (mv_ rfl (wl_nil ?_))))))
       exact nx_round (i + 1, ky, mo) ⟨by dsimp only; omega, by rw [hstep]; exact hs2.symm⟩ (by dsimp only; omega) ⟨rfl, rfl, rfl, rfl, rfl, rfl, rfl, rfl, rfl, rfl, rfl, (some_int (by omega)), trivial⟩ (fun _ hm => hm.pick [0, 1, 2] [] [0, 1] rfl rfl)
   ·have hi : ¬ (((i : Nat) : Int) < ((n1 : Nat) : Int)) := by simpa using hh
    clear hh
    refine gw_exit ?_
    refine nx_then_exit (nx_then_exit ?_)
    refine nx_blk_here ?_
    refine nx_then (sr_ ?_)
    have hin1 : i = n1 := by omega
    subst hin1
    rw [List.take_of_length_le (by omega)] at hi1
    have hv : bestV l ks cls fr tt cents = (ky, mo) := by unfold bestV; rw [if_pos hB0, hi1]; rfl
    refine mv_ rfl (mv_ rfl (sg_ rfl (sg_ rfl (sg_ rfl (nn_ ?_)))))
    refine gw_ret ?_
    refine nx_ret3 rfl rfl rfl rfl fun wx hm => ?_
    exact ⟨by rw [hv, hB0], hm.g⟩
set_option maxRecDepth 100000 in
set_option maxHeartbeats 2000000 in
theorem codeOf_any (l : List Cd) (A : Option Addr) (n c0 : Nat) (ks : List ByteArray) (A1 : Option Addr) (n1 c1 : Nat) (cls : ByteArray) (fr tt cents : Int) (w : World) (hl : SlT cdEnc 6 262 w A n l) (hn : n ≤ 1000000) (hs : SlT sgEnc 1 9 w A1 n1 ks) (hn1 : n1 ≤ 1000000) (hcodes : codesE l = 0) (h0 : 0 ≤ fr) (hlt : fr < tt) (htt : tt ≤ 5761439) (hct0 : 0 ≤ cents) (hct1 : cents ≤ 1000000000) :
  Calls Tryz.prog 112 #[.slice A n c0, .slice A1 n1 c1, .string cls, .agg #[.int .i64 fr, .int .i64 tt], .int .i64 cents] w (fun e w' => e = .returned (.tuple #[.string (bestC l ks cls fr tt cents).1, .int .i64 (max 0 (bestC l ks cls fr tt cents).2)]) ∧ w.grownBy w' none) := by
 refine gw_enter ⟨73, w, none, []⟩ Tryz.func112 rfl Tryz.ntmps112 rfl (mem0 (X := [SlOld cdEnc 6 262 w.heap.size none A n l, SlOld sgEnc 1 9 w.heap.size none A1 n1 ks]) (allF_cons hl.old (allF_cons hs.old allF_nil)) (allL_cons SlOld.lasts (allL_cons SlOld.lasts allL_nil))) ?_
 refine sr_ ?_
 have hlen := hl.len
 have hslen := hs.len
 refine wl_box rfl rfl rfl fun g1 => ?_
 refine sg_ rfl (sg_ rfl (nn_ (sr_ (sg_ rfl (sg_ rfl ?_)))))
 refine wl_set 13 (v' := .int .i64 (-1)) rfl rfl ?_
 refine nn_ (gw_seq (sr_ (mv_ rfl (wl_ov (ov_len es29 rfl) rfl (mv_ rfl (nn_ (gw_block ?_)))))))
 refine gw_loop (γ := Nat × ByteArray × Int) (fun (g : Nat × ByteArray × Int) => g.1 ≤ n ∧ (g.2.1, g.2.2) = (l.take g.1).foldl (bestT ks cls fr tt cents) (⟨#[]⟩, -1)) (fun (g : Nat × ByteArray × Int) => [(1, .slice A1 n1 c1), (2, .string cls), (4, .int .i64 cents), (8, .pointer (some ⟨g1, 0, none⟩)), (10, .string ⟨#[]⟩), (11, .int .i64 0), (12, .string g.2.1), (13, .int .i64 g.2.2), (17, .slice A n c0), (18, .int .i64 ((n : Nat) : Int)), (19, .int .i64 ((g.1 : Nat) : Int))]) (fun (g : Nat × ByteArray × Int) => fun _ => True) (fun (g : Nat × ByteArray × Int) => [(g1, 35, [.int .i64 fr, .int .i64 tt])]) (fun (g : Nat × ByteArray × Int) => []) (fun (g : Nat × ByteArray × Int) => [SlOld cdEnc 6 262 w.heap.size none A n l, SlOld sgEnc 1 9 w.heap.size none A1 n1 ks]) (fun (g : Nat × ByteArray × Int) => n - g.1) (0, ⟨#[]⟩, -1) ⟨Nat.zero_le _, rfl⟩ ⟨rfl, rfl, rfl, rfl, rfl, rfl, rfl, rfl, rfl, rfl, rfl, trivial⟩ (fun _ hm => hm.pick [0] [] [0, 1] rfl rfl) ?_
 rintro ⟨i, ky, mo⟩ hinv
 replace hinv : i ≤ n ∧ (ky, mo) = (l.take i).foldl (bestT ks cls fr tt cents) (⟨#[]⟩, -1) := hinv
 dsimp only
 refine sr_ ?_
 obtain ⟨hi0, hi1⟩ := hinv
 refine wl_ov (ov_lss rfl rfl) rfl (nn_ (gw_seq ?_))
 refine gw_cond rfl (fun hh => ?_) (fun hh => ?_)
 ·have hi : ((i : Nat) : Int) < ((n : Nat) : Int) := by simpa using hh
  clear hh
  refine gw_skip (nx_then (gw_seq (gw_block (sr_ ?_))))
  obtain ⟨b, off, hA, _, _⟩ := hl.get (by omega)
  subst hA
  obtain ⟨y, hy⟩ : ∃ x, l[i]? = some x := ⟨_, List.getElem?_eq_getElem (by omega)⟩
  obtain ⟨ke, cl, cf, ct, dy, mi⟩ := y
  obtain ⟨_, ⟨f1, f2, f3⟩, ⟨f4, f5⟩, f6, f7⟩ := (codesE_ok hcodes).2.2 _ (List.mem_of_getElem? hy)
  dsimp only at f1 f2 f3 f4 f5 f6 f7
  have hob := off_bound hct0 hct1 f6 f7
  have hob0 := hob.1
  have hob1 := hob.2
  have hstep := fold_take (bestT ks cls fr tt cents) (⟨#[]⟩, -1) hy
  rw [← hi1] at hstep
  refine wl_ov (ov_index (j := i) es29 rfl rfl (by omega)) rfl ?_
  refine wl_ov (ov_elem (vs := [.string ke, .string cl, .int .i64 cf, .int .i64 ct, .int .i64 dy, .int .i64 mi]) rz262 rfl (fun _ hm => (hm.fact 0 rfl).1) hy rfl rfl) rfl ?_
  refine wl_alloc zc262 rfl fun g2 => ?_
  refine wl_stores (cs' := [.string ke, .string cl, .int .i64 cf, .int .i64 ct, .int .i64 dy, .int .i64 mi]) 0 rz262 rfl rfl rfl rfl rfl rfl rfl rfl ?_
  refine nn_ (sr_ (mv_ rfl (fd_ fo262_5 rfl rfl (lk_ sc3 0 rfl rfl rfl ?_))))
  refine wl_ov (ov_mul rfl rfl (by omega) (by omega)) rfl ?_
  refine wl_ov (ov_quo rfl rfl (by omega) (by omega) (by omega)) rfl ?_
  refine sg_ rfl (nn_ (gw_seq ?_))
  refine gd (fun wz => Blk wz g2 262 [.string ke, .string cl, .int .i64 cf, .int .i64 ct, .int .i64 dy, .int .i64 mi] ∧ Blk wz g1 35 [.int .i64 fr, .int .i64 tt] ∧ (SlOld cdEnc 6 262 w.heap.size none (some ⟨b, off, none⟩) n l) wz ∧ (SlOld sgEnc 1 9 w.heap.size none A1 n1 ks) wz ∧ True) mixed (fun _ hm => ⟨hm.blkI 0 rfl, hm.blkI 1 rfl, hm.fact 0 rfl, hm.fact 1 rfl, trivial⟩) fun z => ?_
  refine wt 0 38 1 rfl z (ov_move rfl) ?_
  refine wt 1 38 3 rfl z (ov_field fo262_0 rfl rfl) ?_
  refine wt 2 38 7 rfl z (ov_load sc9 rfl (fun _ hm => hm.1) rfl) ?_
  refine wa1 3 rfl ?_
  refine wl_callv rfl cb50 rfl rfl (fun wx hm => (contains_str ks A1 n1 c1 ke wx (hm.fact 1 rfl).1 hn1)) ?_
  refine wl_nil ?_
  refine nw 38 15 (fun _ hm => ⟨hm.blkI 0 rfl, hm.blkI 1 rfl, hm.fact 0 rfl, hm.fact 1 rfl, trivial⟩) fun z => ?_
  refine wt 4 38 31 rfl z (ov_move rfl) ?_
  rcases Bool.eq_false_or_eq_true (ks.any (fun y => ke.toList == y.toList)) with d1 | d1
  ·refine wa_set 32 rfl (congrArg Value.bool d1) ?_
   refine wto 5 38 63 rfl rfl rfl z (ov_field fo262_1 rfl rfl) ?_
   refine wto 6 38 127 rfl rfl rfl z (ov_load sc9 rfl (fun _ hm => hm.1) rfl) ?_
   refine wto 7 38 255 rfl rfl rfl z (ov_seql rfl rfl) ?_
   refine wto 8 38 511 rfl rfl rfl z (ov_move rfl) ?_
   rcases Bool.eq_false_or_eq_true (cl.toList == (⟨#[]⟩ : ByteArray).toList) with e1 | e1
   ·refine wa_set 36 rfl (congrArg Value.bool e1) ?_
    have e1 : emptyS cl = true := e1
    refine wtf 9 38 1023 rfl rfl rfl z ?_
    refine wtf 10 38 2047 rfl rfl rfl z ?_
    refine wtf 11 38 4095 rfl rfl rfl z ?_
    refine wtf 12 38 8191 rfl rfl rfl z ?_
    refine wto 13 38 16383 rfl rfl rfl z (ov_pick_t rfl rfl) ?_
    refine wt 14 38 32767 rfl z (ov_pick_t rfl rfl) ?_
    refine wt 15 38 65535 rfl z (ov_move rfl) ?_
    refine wto 16 38 131071 rfl rfl rfl z (ov_field fo35_0 rfl rfl) ?_
    refine wto 17 38 262143 rfl rfl rfl z (ov_load sc3 rfl (fun _ hm => hm.2.1) rfl) ?_
    refine wto 18 38 524287 rfl rfl rfl z (ov_quo rfl rfl (by omega) (by omega) (by omega)) ?_
    refine wto 19 38 1048575 rfl rfl rfl z (ov_field fo262_2 rfl rfl) ?_
    refine wto 20 38 2097151 rfl rfl rfl z (ov_load sc3 rfl (fun _ hm => hm.1) rfl) ?_
    refine wto 21 38 4194303 rfl rfl rfl z (ov_field fo262_3 rfl rfl) ?_
    refine wto 22 38 8388607 rfl rfl rfl z (ov_load sc3 rfl (fun _ hm => hm.1) rfl) ?_
    refine wto 23 38 16777215 rfl rfl rfl z (ov_sub rfl rfl (by omega) (by omega)) ?_
    refine wa1 24 rfl ?_
    refine wl_guard_on rfl rfl rfl ?_
    refine wl_callw rfl cb133 rfl rfl (fun wx hm => (rin_any _ _ _ wx)) ?_
    refine wl_nil ?_
    refine nw 38 33554431 (fun _ hm => ⟨hm.blkI 0 rfl, hm.blkI 1 rfl, hm.fact 0 rfl, hm.fact 1 rfl, trivial⟩) fun z => ?_
    refine wt 25 38 67108863 rfl z (ov_pick_t rfl rfl) ?_
    refine wt 26 38 134217727 rfl z (ov_move rfl) ?_
    rcases Bool.eq_false_or_eq_true (inB (fr / 1440) cf (ct - 1)) with e3 | e3
    ·refine wa_set 54 rfl (congrArg Value.bool e3) ?_
     refine wto 27 38 268435455 rfl rfl rfl z (ov_loads rz35 rfl (fun _ hm => hm.2.1) rfl rfl) ?_
     refine wto 29 38 805306367 rfl rfl rfl z (ov_field fo262_4 rfl rfl) ?_
     refine wto 30 38 1879048191 rfl rfl rfl z (ov_load sc3 rfl (fun _ hm => hm.1) rfl) ?_
     refine wa1 28 rfl ?_
     refine wl_guard_on rfl rfl rfl ?_
     refine wl_callv rfl cb115 rfl rfl (fun wx hm => (daysOf_any fr tt wx h0 (by omega) htt)) ?_
     refine wl_nil ?_
     refine nw 38 2147483647 (fun _ hm => ⟨hm.blkI 0 rfl, hm.blkI 1 rfl, hm.fact 0 rfl, hm.fact 1 rfl, trivial⟩) fun z => ?_
     refine wto 31 38 4294967295 rfl rfl rfl z (ov_geq rfl rfl) ?_
     refine wt 32 38 8589934591 rfl z (ov_pick_t rfl rfl) ?_
     refine wt 33 38 17179869183 rfl z (ov_move rfl) ?_
     rcases Bool.eq_false_or_eq_true (decide (dy ≤ daysV fr tt)) with e4 | e4
     ·refine wa_set 61 rfl (congrArg Value.bool e4) ?_
      have hcb : countsB ⟨ke, cl, cf, ct, dy, mi⟩ cls fr tt = true := counts_yes (.inl e1) e3 (of_decide_eq_true e4)
      refine wto 34 38 34359738367 rfl rfl rfl z (ov_move rfl) ?_
      refine wto 35 38 68719476735 rfl rfl rfl z (ov_move rfl) ?_
      refine wto 36 38 137438953471 rfl rfl rfl z (ov_gtr rfl rfl) ?_
      refine wt 37 38 274877906943 rfl z (ov_pick_t rfl rfl) ?_
      refine wa_done (by kernel_rfl) ?_
      refine nx_then ?_
      refine gw_cond rfl (fun hh => ?_) (fun hh => ?_)
      ·have d2 : mo < (cents * mi) / 1000 := by simpa using hh
       clear hh
       refine gw_region (fd_ fo262_0 rfl rfl (lk_ sc9 0 rfl rfl rfl (mv_ rfl (sg_ rfl (sg_ rfl (wl_nil (nx_blk_nrm (nx_then (gw_region (ad_ rfl rfl (mv_ rfl (wl_nil ?_))))))))))))
       exact nx_round (i + 1, ke, cents * mi / 1000) ⟨by dsimp only; omega, by rw [hstep]; unfold bestT; rw [if_pos ⟨d1, hcb, d2⟩]; rfl⟩ (by dsimp only; omega) ⟨rfl, rfl, rfl, rfl, rfl, rfl, rfl, rfl, rfl, rfl, (some_int (by omega)), trivial⟩ (fun _ hm => hm.pick [1] [] [0, 1] rfl rfl)
      ·have d2 : ¬ (mo < (cents * mi) / 1000) := by simpa using hh
       clear hh
       refine gw_skip (nx_blk_nrm (nx_then (gw_region (ad_ rfl rfl (mv_ rfl (wl_nil ?_))))))
       exact nx_round (i + 1, ky, mo) ⟨by dsimp only; omega, by rw [hstep]; unfold bestT; rw [if_neg (fun h => d2 h.2.2)]⟩ (by dsimp only; omega) ⟨rfl, rfl, rfl, rfl, rfl, rfl, rfl, rfl, rfl, rfl, (some_int (by omega)), trivial⟩ (fun _ hm => hm.pick [1] [] [0, 1] rfl rfl)
     ·refine wa_set 61 rfl (congrArg Value.bool e4) ?_
      have hcb : countsB ⟨ke, cl, cf, ct, dy, mi⟩ cls fr tt = false := counts_days (of_decide_eq_false e4)
      refine wtf 34 38 34359738367 rfl rfl rfl z ?_
      refine wtf 35 38 68719476735 rfl rfl rfl z ?_
      refine wtf 36 38 137438953471 rfl rfl rfl z ?_
      refine wt 37 38 274877906943 rfl z (ov_pick_f rfl rfl) ?_
      refine wa_done (by kernel_rfl) ?_
      refine nx_then (cf_ rfl (gw_skip (nx_blk_nrm (nx_then (gw_region (ad_ rfl rfl (mv_ rfl (wl_nil ?_))))))))
      exact nx_round (i + 1, ky, mo) ⟨by dsimp only; omega, by rw [hstep]; unfold bestT; rw [if_neg (fun h => by rw [hcb] at h; exact absurd h.2.1 (by decide))]⟩ (by dsimp only; omega) ⟨rfl, rfl, rfl, rfl, rfl, rfl, rfl, rfl, rfl, rfl, (some_int (by omega)), trivial⟩ (fun _ hm => hm.pick [1] [] [0, 1] rfl rfl)
    ·refine wa_set 54 rfl (congrArg Value.bool e3) ?_
     have hcb : countsB ⟨ke, cl, cf, ct, dy, mi⟩ cls fr tt = false := counts_in e3
     refine wtf 27 38 268435455 rfl rfl rfl z ?_
     refine wtf 28 38 536870911 rfl rfl rfl z ?_
     refine wtf 29 38 1073741823 rfl rfl rfl z ?_
     refine wtf 30 38 2147483647 rfl rfl rfl z ?_
     refine wtf 31 38 4294967295 rfl rfl rfl z ?_
     refine wt 32 38 8589934591 rfl z (ov_pick_f rfl rfl) ?_
     refine wt 33 38 17179869183 rfl z (ov_move rfl) ?_
     refine wtf 34 38 34359738367 rfl rfl rfl z ?_
     refine wtf 35 38 68719476735 rfl rfl rfl z ?_
     refine wtf 36 38 137438953471 rfl rfl rfl z ?_
     refine wt 37 38 274877906943 rfl z (ov_pick_f rfl rfl) ?_
     refine wa_done (by kernel_rfl) ?_
     refine nx_then (cf_ rfl (gw_skip (nx_blk_nrm (nx_then (gw_region (ad_ rfl rfl (mv_ rfl (wl_nil ?_))))))))
     exact nx_round (i + 1, ky, mo) ⟨by dsimp only; omega, by rw [hstep]; unfold bestT; rw [if_neg (fun h => by rw [hcb] at h; exact absurd h.2.1 (by decide))]⟩ (by dsimp only; omega) ⟨rfl, rfl, rfl, rfl, rfl, rfl, rfl, rfl, rfl, rfl, (some_int (by omega)), trivial⟩ (fun _ hm => hm.pick [1] [] [0, 1] rfl rfl)
   ·refine wa_set 36 rfl (congrArg Value.bool e1) ?_
    have e1 : emptyS cl = false := e1
    refine wto 9 38 1023 rfl rfl rfl z (ov_field fo262_1 rfl rfl) ?_
    refine wto 10 38 2047 rfl rfl rfl z (ov_load sc9 rfl (fun _ hm => hm.1) rfl) ?_
    refine wto 11 38 4095 rfl rfl rfl z (ov_move rfl) ?_
    refine wto 12 38 8191 rfl rfl rfl z (ov_seql rfl rfl) ?_
    refine wto 13 38 16383 rfl rfl rfl z (ov_pick_f rfl rfl) ?_
    refine wt 14 38 32767 rfl z (ov_pick_t rfl rfl) ?_
    refine wt 15 38 65535 rfl z (ov_move rfl) ?_
    rcases Bool.eq_false_or_eq_true (cl.toList == cls.toList) with e2 | e2
    ·refine wa_set 43 rfl (congrArg Value.bool e2) ?_
     refine wto 16 38 131071 rfl rfl rfl z (ov_field fo35_0 rfl rfl) ?_
     refine wto 17 38 262143 rfl rfl rfl z (ov_load sc3 rfl (fun _ hm => hm.2.1) rfl) ?_
     refine wto 18 38 524287 rfl rfl rfl z (ov_quo rfl rfl (by omega) (by omega) (by omega)) ?_
     refine wto 19 38 1048575 rfl rfl rfl z (ov_field fo262_2 rfl rfl) ?_
     refine wto 20 38 2097151 rfl rfl rfl z (ov_load sc3 rfl (fun _ hm => hm.1) rfl) ?_
     refine wto 21 38 4194303 rfl rfl rfl z (ov_field fo262_3 rfl rfl) ?_
     refine wto 22 38 8388607 rfl rfl rfl z (ov_load sc3 rfl (fun _ hm => hm.1) rfl) ?_
     refine wto 23 38 16777215 rfl rfl rfl z (ov_sub rfl rfl (by omega) (by omega)) ?_
     refine wa1 24 rfl ?_
     refine wl_guard_on rfl rfl rfl ?_
     refine wl_callw rfl cb133 rfl rfl (fun wx hm => (rin_any _ _ _ wx)) ?_
     refine wl_nil ?_
     refine nw 38 33554431 (fun _ hm => ⟨hm.blkI 0 rfl, hm.blkI 1 rfl, hm.fact 0 rfl, hm.fact 1 rfl, trivial⟩) fun z => ?_
     refine wt 25 38 67108863 rfl z (ov_pick_t rfl rfl) ?_
     refine wt 26 38 134217727 rfl z (ov_move rfl) ?_
     rcases Bool.eq_false_or_eq_true (inB (fr / 1440) cf (ct - 1)) with e3 | e3
     ·refine wa_set 54 rfl (congrArg Value.bool e3) ?_
      refine wto 27 38 268435455 rfl rfl rfl z (ov_loads rz35 rfl (fun _ hm => hm.2.1) rfl rfl) ?_
      refine wto 29 38 805306367 rfl rfl rfl z (ov_field fo262_4 rfl rfl) ?_
      refine wto 30 38 1879048191 rfl rfl rfl z (ov_load sc3 rfl (fun _ hm => hm.1) rfl) ?_
      refine wa1 28 rfl ?_
      refine wl_guard_on rfl rfl rfl ?_
      refine wl_callv rfl cb115 rfl rfl (fun wx hm => (daysOf_any fr tt wx h0 (by omega) htt)) ?_
      refine wl_nil ?_
      refine nw 38 2147483647 (fun _ hm => ⟨hm.blkI 0 rfl, hm.blkI 1 rfl, hm.fact 0 rfl, hm.fact 1 rfl, trivial⟩) fun z => ?_
      refine wto 31 38 4294967295 rfl rfl rfl z (ov_geq rfl rfl) ?_
      refine wt 32 38 8589934591 rfl z (ov_pick_t rfl rfl) ?_
      refine wt 33 38 17179869183 rfl z (ov_move rfl) ?_
      rcases Bool.eq_false_or_eq_true (decide (dy ≤ daysV fr tt)) with e4 | e4
      ·refine wa_set 61 rfl (congrArg Value.bool e4) ?_
       have hcb : countsB ⟨ke, cl, cf, ct, dy, mi⟩ cls fr tt = true := counts_yes (.inr e2) e3 (of_decide_eq_true e4)
       refine wto 34 38 34359738367 rfl rfl rfl z (ov_move rfl) ?_
       refine wto 35 38 68719476735 rfl rfl rfl z (ov_move rfl) ?_
       refine wto 36 38 137438953471 rfl rfl rfl z (ov_gtr rfl rfl) ?_
       refine wt 37 38 274877906943 rfl z (ov_pick_t rfl rfl) ?_
       refine wa_done (by kernel_rfl) ?_
       refine nx_then ?_
       refine gw_cond rfl (fun hh => ?_) (fun hh => ?_)
       ·have d2 : mo < (cents * mi) / 1000 := by simpa using hh
        clear hh
        refine gw_region (fd_ fo262_0 rfl rfl (lk_ sc9 0 rfl rfl rfl (mv_ rfl (sg_ rfl (sg_ rfl (wl_nil (nx_blk_nrm (nx_then (gw_region (ad_ rfl rfl (mv_ rfl (wl_nil ?_))))))))))))
        exact nx_round (i + 1, ke, cents * mi / 1000) ⟨by dsimp only; omega, by rw [hstep]; unfold bestT; rw [if_pos ⟨d1, hcb, d2⟩]; rfl⟩ (by dsimp only; omega) ⟨rfl, rfl, rfl, rfl, rfl, rfl, rfl, rfl, rfl, rfl, (some_int (by omega)), trivial⟩ (fun _ hm => hm.pick [1] [] [0, 1] rfl rfl)
       ·have d2 : ¬ (mo < (cents * mi) / 1000) := by simpa using hh
        clear hh
        refine gw_skip (nx_blk_nrm (nx_then (gw_region (ad_ rfl rfl (mv_ rfl (wl_nil ?_))))))
        exact nx_round (i + 1, ky, mo) ⟨by dsimp only; omega, by rw [hstep]; unfold bestT; rw [if_neg (fun h => d2 h.2.2)]⟩ (by dsimp only; omega) ⟨rfl, rfl, rfl, rfl, rfl, rfl, rfl, rfl, rfl, rfl, (some_int (by omega)), trivial⟩ (fun _ hm => hm.pick [1] [] [0, 1] rfl rfl)
      ·refine wa_set 61 rfl (congrArg Value.bool e4) ?_
       have hcb : countsB ⟨ke, cl, cf, ct, dy, mi⟩ cls fr tt = false := counts_days (of_decide_eq_false e4)
       refine wtf 34 38 34359738367 rfl rfl rfl z ?_
       refine wtf 35 38 68719476735 rfl rfl rfl z ?_
       refine wtf 36 38 137438953471 rfl rfl rfl z ?_
       refine wt 37 38 274877906943 rfl z (ov_pick_f rfl rfl) ?_
       refine wa_done (by kernel_rfl) ?_
       refine nx_then (cf_ rfl (gw_skip (nx_blk_nrm (nx_then (gw_region (ad_ rfl rfl (mv_ rfl (wl_nil ?_))))))))
       exact nx_round (i + 1, ky, mo) ⟨by dsimp only; omega, by rw [hstep]; unfold bestT; rw [if_neg (fun h => by rw [hcb] at h; exact absurd h.2.1 (by decide))]⟩ (by dsimp only; omega) ⟨rfl, rfl, rfl, rfl, rfl, rfl, rfl, rfl, rfl, rfl, (some_int (by omega)), trivial⟩ (fun _ hm => hm.pick [1] [] [0, 1] rfl rfl)
     ·refine wa_set 54 rfl (congrArg Value.bool e3) ?_
      have hcb : countsB ⟨ke, cl, cf, ct, dy, mi⟩ cls fr tt = false := counts_in e3
      refine wtf 27 38 268435455 rfl rfl rfl z ?_
      refine wtf 28 38 536870911 rfl rfl rfl z ?_
      refine wtf 29 38 1073741823 rfl rfl rfl z ?_
      refine wtf 30 38 2147483647 rfl rfl rfl z ?_
      refine wtf 31 38 4294967295 rfl rfl rfl z ?_
      refine wt 32 38 8589934591 rfl z (ov_pick_f rfl rfl) ?_
      refine wt 33 38 17179869183 rfl z (ov_move rfl) ?_
      refine wtf 34 38 34359738367 rfl rfl rfl z ?_
      refine wtf 35 38 68719476735 rfl rfl rfl z ?_
      refine wtf 36 38 137438953471 rfl rfl rfl z ?_
      refine wt 37 38 274877906943 rfl z (ov_pick_f rfl rfl) ?_
      refine wa_done (by kernel_rfl) ?_
      refine nx_then (cf_ rfl (gw_skip (nx_blk_nrm (nx_then (gw_region (ad_ rfl rfl (mv_ rfl (wl_nil ?_))))))))
      exact nx_round (i + 1, ky, mo) ⟨by dsimp only; omega, by rw [hstep]; unfold bestT; rw [if_neg (fun h => by rw [hcb] at h; exact absurd h.2.1 (by decide))]⟩ (by dsimp only; omega) ⟨rfl, rfl, rfl, rfl, rfl, rfl, rfl, rfl, rfl, rfl, (some_int (by omega)), trivial⟩ (fun _ hm => hm.pick [1] [] [0, 1] rfl rfl)
    ·refine wa_set 43 rfl (congrArg Value.bool e2) ?_
     have hcb : countsB ⟨ke, cl, cf, ct, dy, mi⟩ cls fr tt = false := counts_cls e1 e2
     refine wtf 16 38 131071 rfl rfl rfl z ?_
     refine wtf 17 38 262143 rfl rfl rfl z ?_
     refine wtf 18 38 524287 rfl rfl rfl z ?_
     refine wtf 19 38 1048575 rfl rfl rfl z ?_
     refine wtf 20 38 2097151 rfl rfl rfl z ?_
     refine wtf 21 38 4194303 rfl rfl rfl z ?_
     refine wtf 22 38 8388607 rfl rfl rfl z ?_
     refine wtf 23 38 16777215 rfl rfl rfl z ?_
     refine wtf 24 38 33554431 rfl rfl rfl z ?_
     refine wt 25 38 67108863 rfl z (ov_pick_f rfl rfl) ?_
     refine wt 26 38 134217727 rfl z (ov_move rfl) ?_
     refine wtf 27 38 268435455 rfl rfl rfl z ?_
     refine wtf 28 38 536870911 rfl rfl rfl z ?_
     refine wtf 29 38 1073741823 rfl rfl rfl z ?_
     refine wtf 30 38 2147483647 rfl rfl rfl z ?_
     refine wtf 31 38 4294967295 rfl rfl rfl z ?_
     refine wt 32 38 8589934591 rfl z (ov_pick_f rfl rfl) ?_
     refine wt 33 38 17179869183 rfl z (ov_move rfl) ?_
     refine wtf 34 38 34359738367 rfl rfl rfl z ?_
     refine wtf 35 38 68719476735 rfl rfl rfl z ?_
     refine wtf 36 38 137438953471 rfl rfl rfl z ?_
     refine wt 37 38 274877906943 rfl z (ov_pick_f rfl rfl) ?_
     refine wa_done (by kernel_rfl) ?_
     refine nx_then (cf_ rfl (gw_skip (nx_blk_nrm (nx_then (gw_region (ad_ rfl rfl (mv_ rfl (wl_nil ?_))))))))
     exact nx_round (i + 1, ky, mo) ⟨by dsimp only; omega, by rw [hstep]; unfold bestT; rw [if_neg (fun h => by rw [hcb] at h; exact absurd h.2.1 (by decide))]⟩ (by dsimp only; omega) ⟨rfl, rfl, rfl, rfl, rfl, rfl, rfl, rfl, rfl, rfl, (some_int (by omega)), trivial⟩ (fun _ hm => hm.pick [1] [] [0, 1] rfl rfl)
  ·refine wa_set 32 rfl (congrArg Value.bool d1) ?_
   refine wtf 5 38 63 rfl rfl rfl z ?_
   refine wtf 6 38 127 rfl rfl rfl z ?_
   refine wtf 7 38 255 rfl rfl rfl z ?_
   refine wtf 8 38 511 rfl rfl rfl z ?_
   refine wtu 9 38 1023 rfl rfl rfl z ?_
   refine wtu 10 38 2047 rfl rfl rfl z ?_
   refine wtu 11 38 4095 rfl rfl rfl z ?_
   refine wtu 12 38 8191 rfl rfl rfl z ?_
   refine wtf 13 38 16383 rfl rfl rfl z ?_
   refine wt 14 38 32767 rfl z (ov_pick_f rfl rfl) ?_
   refine wt 15 38 65535 rfl z (ov_move rfl) ?_
   refine wtf 16 38 131071 rfl rfl rfl z ?_
   refine wtf 17 38 262143 rfl rfl rfl z ?_
   refine wtf 18 38 524287 rfl rfl rfl z ?_
   refine wtf 19 38 1048575 rfl rfl rfl z ?_
   refine wtf 20 38 2097151 rfl rfl rfl z ?_
   refine wtf 21 38 4194303 rfl rfl rfl z ?_
   refine wtf 22 38 8388607 rfl rfl rfl z ?_
   refine wtf 23 38 16777215 rfl rfl rfl z ?_
   refine wtf 24 38 33554431 rfl rfl rfl z ?_
   refine wt 25 38 67108863 rfl z (ov_pick_f rfl rfl) ?_
   refine wt 26 38 134217727 rfl z (ov_move rfl) ?_
   refine wtf 27 38 268435455 rfl rfl rfl z ?_
   refine wtf 28 38 536870911 rfl rfl rfl z ?_
   refine wtf 29 38 1073741823 rfl rfl rfl z ?_
   refine wtf 30 38 2147483647 rfl rfl rfl z ?_
   refine wtf 31 38 4294967295 rfl rfl rfl z ?_
   refine wt 32 38 8589934591 rfl z (ov_pick_f rfl rfl) ?_
   refine wt 33 38 17179869183 rfl z (ov_move rfl) ?_
   refine wtf 34 38 34359738367 rfl rfl rfl z ?_
   refine wtf 35 38 68719476735 rfl rfl rfl z ?_
   refine wtf 36 38 137438953471 rfl rfl rfl z ?_
   refine wt 37 38 274877906943 rfl z (ov_pick_f rfl rfl) ?_
   refine wa_done (by kernel_rfl) ?_
   refine nx_then (cf_ rfl (gw_skip (nx_blk_nrm (nx_then (gw_region (ad_ rfl rfl (mv_ rfl (wl_nil ?_))))))))
   exact nx_round (i + 1, ky, mo) ⟨by dsimp only; omega, by rw [hstep]; unfold bestT; rw [if_neg (fun h => by rw [d1] at h; exact absurd h.1 (by decide))]⟩ (by dsimp only; omega) ⟨rfl, rfl, rfl, rfl, rfl, rfl, rfl, rfl, rfl, rfl, (some_int (by omega)), trivial⟩ (fun _ hm => hm.pick [1] [] [0, 1] rfl rfl)
 ·have hi : ¬ (((i : Nat) : Int) < ((n : Nat) : Int)) := by simpa using hh
  clear hh
  refine gw_exit ?_
  refine nx_then_exit (nx_then_exit ?_)
  refine nx_blk_here ?_
  refine nx_then (sr_ ?_)
  have hin1 : i = n := by omega
  subst hin1
  rw [List.take_of_length_le (by omega)] at hi1
  have hv : bestC l ks cls fr tt cents = (ky, mo) := by unfold bestC; rw [hi1]
  refine mv_ rfl (mv_ rfl ?_)
  refine wl_ov (ov_max rfl rfl) rfl ?_
  refine sg_ rfl (sg_ rfl (nn_ ?_))
  refine gw_ret ?_
  refine nx_ret2 rfl rfl rfl fun wx hm => ?_
  exact ⟨by rw [hv], hm.g⟩
end Go.Proofs.YtnmpniaocjmkfaaGreatDoor
namespace Go.Proofs.YtnmpniaocjmkfaaGreatDoor
open Go.RowKit
structure Ex where
  key : ByteArray
  once : Int
  day : Int
  most : Int
def exEnc (x : Ex) : List Value := [.string x.key, .int .i64 x.once, .int .i64 x.day, .int .i64 x.most]
def ExOk (x : Ex) : Prop := x.key.size ≤ 1000000
def leEx (p : Option Ex) (b : Ex) : Bool := match p with
  | none => false
  | some q => leB b.key q.key
def exE (p : Option Ex) (b : Ex) : Int := if !keyB b.key then 5 else if leEx p b then 7 else if !inB b.once 0 1000000 then 1 else if !inB b.day 0 1000000 then 1 else if !inB b.most (-1) 1000000 then 1 else 0
def extrasE (l : List Ex) : Int := if 30 < l.length then 2 else scanE exE none l
def prevEx (l : List Ex) (k : Nat) : ByteArray := match prevOf l k with
  | none => ⟨#[]⟩
  | some q => q.key
theorem prevEx_succ {l : List Ex} {k : Nat} {x : Ex} (h : l[k]? = some x) : prevEx l (k + 1) = x.key := by
  unfold prevEx prevOf; rw [if_neg (by omega), Nat.add_sub_cancel, h]
theorem prevEx_le {l : List Ex} {k : Nat} {b : Ex} (h : keyB b.key = true) : leB b.key (prevEx l k) = leEx (prevOf l k) b := by
  unfold prevEx leEx
  cases prevOf l k with
  | none => exact key_low h
  | some q => rfl
set_option maxRecDepth 100000 in
set_option maxHeartbeats 1000000 in
theorem checkExtras_any (l : List Ex) (A : Option Addr) (n c : Nat) (w : World) (hl : SlT exEnc 4 256 w A n l) (hok : ∀ b ∈ l, ExOk b) (hn : n ≤ 1000000) :
  Calls Tryz.prog 104 #[.slice A n c] w (GotE w (extrasE l)) := by
 refine gw_enter ⟨52, w, none, []⟩ Tryz.func104 rfl Tryz.ntmps104 rfl (mem0 (X := [SlOld exEnc 4 256 w.heap.size none A n l]) (allF_cons hl.old allF_nil) (allL_cons SlOld.lasts allL_nil)) ?_
 refine sr_ ?_
 have hlen := hl.len
 refine sg_ rfl (nn_ (gw_seq (sr_ (mv_ rfl (wl_ov (ov_len es27 rfl) rfl ?_)))))
 refine wl_ov (ov_gtr rfl rfl) rfl ?_
 refine nn_ ?_
 refine gw_cond rfl (fun hh => ?_) (fun hh => ?_)
 ·have h1 : 30 < ((n : Nat) : Int) := by simpa using hh
  clear hh
  refine sr_ (sg_ rfl (nn_ ?_))
  refine gw_ret ?_
  refine nx_then_ret ?_
  refine nx_ret1 rfl rfl fun wx hm => ?_
  exact ⟨ret_int (by unfold extrasE; rw [if_pos (by omega)]), hm.g⟩
 ·have h1 : ¬ (30 < ((n : Nat) : Int)) := by simpa using hh
  clear hh
  refine gw_skip (nx_then (gw_seq (sr_ (mv_ rfl (wl_ov (ov_len es27 rfl) rfl (mv_ rfl (nn_ (gw_block ?_))))))))
  refine gw_loop (γ := Nat) (fun (k : Nat) => k ≤ n ∧ extrasE l = scanE exE (prevOf l k) (l.drop k)) (fun (k : Nat) => [(0, .slice A n c), (8, .slice A n c), (9, .int .i64 ((n : Nat) : Int)), (10, .int .i64 ((k : Nat) : Int))]) (fun (k : Nat) => fun _ => True) (fun (k : Nat) => []) (fun (k : Nat) => []) (fun (k : Nat) => [SlOld exEnc 4 256 w.heap.size none A n l]) (fun (k : Nat) => n - k) 0 ⟨Nat.zero_le _, by unfold extrasE; rw [if_neg (by omega)]; rfl⟩ ⟨rfl, rfl, rfl, rfl, trivial⟩ (fun _ hm => hm.pick [] [] [0] rfl rfl) ?_
  intro k hinv
  replace hinv : k ≤ n ∧ extrasE l = scanE exE (prevOf l k) (l.drop k) := hinv
  refine sr_ (wl_ov (ov_lss rfl rfl) rfl (nn_ (gw_seq ?_)))
  refine gw_cond rfl (fun hh => ?_) (fun hh => ?_)
  ·have hk : ((k : Nat) : Int) < ((n : Nat) : Int) := by simpa using hh
   clear hh
   refine gw_skip (nx_then (gw_seq (gw_block (sr_ ?_))))
   obtain ⟨b, off, hA, _, _⟩ := hl.get (by omega)
   subst hA
   obtain ⟨x, hx⟩ : ∃ x, l[k]? = some x := ⟨_, List.getElem?_eq_getElem (by omega)⟩
   obtain ⟨ke, on, dy, mo⟩ := x
   have hat := scanE_at exE l k _ hx
   have hk1 : ke.size ≤ 1000000 := hok _ (List.mem_of_getElem? hx)
   refine mv_ rfl ?_
   refine wl_ov (ov_index (j := k) es27 rfl rfl (by omega)) rfl ?_
   refine wl_ov (ov_elem (vs := [.string ke, .int .i64 on, .int .i64 dy, .int .i64 mo]) rz256 rfl (fun _ hm => (hm.fact 0 rfl).1) hx rfl rfl) rfl ?_
   refine wl_alloc zc256 rfl fun g1 => ?_
   refine sg_ rfl ?_
   refine wl_stores (cs' := [.string ke, .int .i64 on, .int .i64 dy, .int .i64 mo]) 0 rz256 rfl rfl rfl rfl rfl rfl rfl rfl ?_
   refine nn_ (gw_block (sr_ (fd_ fo256_0 rfl rfl (lk_ sc9 0 rfl rfl rfl ?_))))
   refine wl_callw rfl cb137 rfl rfl (fun wx hm => (isKey_any _ wx (by omega))) ?_
   refine wl_ov (ov_un_not rfl) rfl (sg_ rfl (nn_ ?_))
   refine gw_cond rfl (fun hh => ?_) (fun hh => ?_)
   ·have h2 : (keyB ke) = false := by simpa using hh
    clear hh
    refine sr_ (sg_ rfl (nn_ ?_))
    refine gw_ret ?_
    refine nx_blk_ret (nx_blk_ret (nx_then_ret (nx_then_ret (nx_blk_ret (nx_then_ret ?_)))))
    have hE : exE (prevOf l k) ⟨ke, on, dy, mo⟩ = 5 := by unfold exE; simp [h2]
    refine nx_ret1 rfl rfl fun wx hm => ?_
    exact ⟨ret_int (by rw [hinv.2, hat, if_neg (by rw [hE]; decide), hE]), hm.g⟩
   ·have h2 : (keyB ke) = true := by simpa using hh
    clear hh
    refine gw_seq ?_
    by_cases hk0 : k = 0
    ·have hO : leEx (prevOf l k) ⟨ke, on, dy, mo⟩ = false := by rw [prevOf_zero hk0]; rfl
     refine gd (fun wz => Blk wz g1 256 [.string ke, .int .i64 on, .int .i64 dy, .int .i64 mo] ∧ (SlOld exEnc 4 256 w.heap.size none (some ⟨b, off, none⟩) n l) wz ∧ True) mixed (fun _ hm => ⟨hm.blkI 0 rfl, hm.fact 0 rfl, trivial⟩) fun z => ?_
     refine wt 0 14 1 rfl z (ov_move rfl) ?_
     refine wt 1 14 3 rfl z (ov_gtr rfl rfl) ?_
     refine wa_set 22 (v' := .bool false) rfl (congrArg Value.bool (decide_eq_false (by omega))) ?_
     refine wt 2 14 7 rfl z (ov_move rfl) ?_
     refine wtf 3 14 15 rfl rfl rfl z ?_
     refine wtf 4 14 31 rfl rfl rfl z ?_
     refine wtf 5 14 63 rfl rfl rfl z ?_
     refine wtf 6 14 127 rfl rfl rfl z ?_
     refine wtf 7 14 255 rfl rfl rfl z ?_
     refine wtf 8 14 511 rfl rfl rfl z ?_
     refine wtf 9 14 1023 rfl rfl rfl z ?_
     refine wtf 10 14 2047 rfl rfl rfl z ?_
     refine wtf 11 14 4095 rfl rfl rfl z ?_
     refine wt 12 14 8191 rfl z (ov_pick_f rfl rfl) ?_
     refine wt 13 14 16383 rfl z (ov_assign rfl) ?_
     refine wa_done (by kernel_rfl) ?_
     refine nx_then (cf_ rfl (sr_ (fd_ fo256_1 rfl rfl (lk_ sc3 0 rfl rfl rfl ?_))))
     refine wl_callw rfl cb175 rfl rfl (fun wx hm => (in_any _ _ _ wx)) ?_
     refine wl_ov (ov_un_not rfl) rfl (mv_ rfl ?_)
     rcases Bool.eq_false_or_eq_true (!(inB on 0 1000000)) with h4 | h4
     ·refine wl_set 39 rfl (congrArg Value.bool h4) ?_
      refine goff rfl rfl rfl (goff rfl rfl rfl (goff rfl rfl rfl (goff rfl rfl rfl (pt_ rfl rfl (mv_ rfl (goff rfl rfl rfl (goff rfl rfl rfl (goff rfl rfl rfl (goff rfl rfl rfl (pt_ rfl rfl (sg_ rfl (nn_ ?_))))))))))))
      refine ct_ rfl (sr_ (sg_ rfl (nn_ ?_)))
      refine gw_ret ?_
      refine nx_blk_ret (nx_blk_ret (nx_then_ret (nx_then_ret (nx_blk_ret (nx_then_ret ?_)))))
      have hE : exE (prevOf l k) ⟨ke, on, dy, mo⟩ = 1 := by unfold exE; simp [h2, hO, h4]
      refine nx_ret1 rfl rfl fun wx hm => ?_
      exact ⟨ret_int (by rw [hinv.2, hat, if_neg (by rw [hE]; decide), hE]), hm.g⟩
     ·refine wl_set 39 rfl (congrArg Value.bool h4) ?_
      refine wl_guard_on rfl rfl rfl (fd_ fo256_2 rfl rfl (wl_guard_on rfl rfl rfl (lk_ sc3 0 rfl rfl rfl (wl_guard_on rfl rfl rfl ?_))))
      refine wl_callw rfl cb175 rfl rfl (fun wx hm => (in_any _ _ _ wx)) ?_
      refine wl_guard_on rfl rfl rfl (wl_ov (ov_un_not rfl) rfl (pf_ rfl rfl (mv_ rfl ?_)))
      rcases Bool.eq_false_or_eq_true (!(inB dy 0 1000000)) with h5 | h5
      ·refine wl_set 45 rfl (congrArg Value.bool h5) ?_
       refine goff rfl rfl rfl (goff rfl rfl rfl (goff rfl rfl rfl (goff rfl rfl rfl (pt_ rfl rfl (sg_ rfl (nn_ (ct_ rfl (sr_ (sg_ rfl (nn_ ?_))))))))))
       refine gw_ret ?_
       refine nx_blk_ret (nx_blk_ret (nx_then_ret (nx_then_ret (nx_blk_ret (nx_then_ret ?_)))))
       have hE : exE (prevOf l k) ⟨ke, on, dy, mo⟩ = 1 := by unfold exE; simp [h2, hO, h4, h5]
       refine nx_ret1 rfl rfl fun wx hm => ?_
       exact ⟨ret_int (by rw [hinv.2, hat, if_neg (by rw [hE]; decide), hE]), hm.g⟩
      ·refine wl_set 45 rfl (congrArg Value.bool h5) ?_
       refine wl_guard_on rfl rfl rfl (fd_ fo256_3 rfl rfl (wl_guard_on rfl rfl rfl (lk_ sc3 0 rfl rfl rfl (wl_guard_on rfl rfl rfl ?_))))
       refine wl_callw rfl cb175 rfl rfl (fun wx hm => (in_any _ _ _ wx)) ?_
       refine wl_guard_on rfl rfl rfl (wl_ov (ov_un_not rfl) rfl (pf_ rfl rfl (sg_ rfl (nn_ ?_))))
       refine gw_cond rfl (fun hh => ?_) (fun hh => ?_)
       ·have h6 : (inB mo (-1) 1000000) = false := by simpa using hh
        clear hh
        refine sr_ (sg_ rfl (nn_ ?_))
        refine gw_ret ?_
        refine nx_blk_ret (nx_blk_ret (nx_then_ret (nx_then_ret (nx_blk_ret (nx_then_ret ?_)))))
        have hE : exE (prevOf l k) ⟨ke, on, dy, mo⟩ = 1 := by unfold exE; simp [h2, hO, h4, h5, h6]
        refine nx_ret1 rfl rfl fun wx hm => ?_
        exact ⟨ret_int (by rw [hinv.2, hat, if_neg (by rw [hE]; decide), hE]), hm.g⟩
       ·have h6 : (inB mo (-1) 1000000) = true := by simpa using hh
        clear hh
        refine gw_skip (nx_blk_nrm (nx_blk_nrm (nx_then (gw_region ?_))))
        have hE : exE (prevOf l k) ⟨ke, on, dy, mo⟩ = 0 := by unfold exE; simp [h2, hO, h4, h5, h6]
        refine ad_ rfl rfl (mv_ rfl (wl_nil ?_))
        exact nx_round (k + 1) ⟨by omega, by rw [hinv.2, hat, if_pos hE]⟩ (by omega) ⟨rfl, rfl, rfl, (some_int (by omega)), trivial⟩ (fun _ hm => hm.pick [] [] [0] rfl rfl)
    ·obtain ⟨y, hy⟩ : ∃ x, l[k - 1]? = some x := ⟨_, List.getElem?_eq_getElem (by omega)⟩
     obtain ⟨p0, p1, p2, p3⟩ := y
     refine gd (fun wz => Blk wz g1 256 [.string ke, .int .i64 on, .int .i64 dy, .int .i64 mo] ∧ (SlOld exEnc 4 256 w.heap.size none (some ⟨b, off, none⟩) n l) wz ∧ True) mixed (fun _ hm => ⟨hm.blkI 0 rfl, hm.fact 0 rfl, trivial⟩) fun z => ?_
     refine wt 0 14 1 rfl z (ov_move rfl) ?_
     refine wt 1 14 3 rfl z (ov_gtr rfl rfl) ?_
     refine wa_set 22 (v' := .bool true) rfl (congrArg Value.bool (decide_eq_true (by omega))) ?_
     refine wt 2 14 7 rfl z (ov_move rfl) ?_
     refine wto 3 14 15 rfl rfl rfl z (ov_field fo256_0 rfl rfl) ?_
     refine wto 4 14 31 rfl rfl rfl z (ov_load sc9 rfl (fun _ hm => hm.1) rfl) ?_
     refine wto 5 14 63 rfl rfl rfl z (ov_move rfl) ?_
     refine wto 6 14 127 rfl rfl rfl z (ov_move rfl) ?_
     refine wto 7 14 255 rfl rfl rfl z (ov_sub rfl rfl (by omega) (by omega)) ?_
     refine wa_set 28 (v' := .int .i64 ((k - 1 : Nat) : Int)) rfl (congrArg (Value.int .i64) (by omega)) ?_
     refine wto 8 14 511 rfl rfl rfl z (ov_index (j := k - 1) es27 rfl rfl (by omega)) ?_
     refine wto 9 14 1023 rfl rfl rfl z (ov_field fo256_0 rfl rfl) ?_
     refine wto 10 14 2047 rfl rfl rfl z (ov_elem1 (k := 0) (v := .string p0) sc9 rfl (fun _ hm => (hm.2.1).1) hy rfl rfl) ?_
     refine wto 11 14 4095 rfl rfl rfl z (ov_sleq rfl rfl) ?_
     refine wt 12 14 8191 rfl z (ov_pick_t rfl rfl) ?_
     refine wt 13 14 16383 rfl z (ov_assign rfl) ?_
     refine wa_done (by kernel_rfl) ?_
     refine nx_then ?_
     refine gw_cond rfl (fun hh => ?_) (fun hh => ?_)
     ·have h9 : (Op.bytesLess ke.toList p0.toList || ke.toList == p0.toList) = true := by simpa using hh
      clear hh
      refine sr_ ?_
      have hO : leEx (prevOf l k) ⟨ke, on, dy, mo⟩ = true := by rw [prevOf_pos hk0 hy]; exact h9
      refine sg_ rfl (nn_ ?_)
      refine gw_ret ?_
      refine nx_blk_ret (nx_blk_ret (nx_then_ret (nx_then_ret (nx_blk_ret (nx_then_ret ?_)))))
      have hE : exE (prevOf l k) ⟨ke, on, dy, mo⟩ = 7 := by unfold exE; simp [h2, hO]
      refine nx_ret1 rfl rfl fun wx hm => ?_
      exact ⟨ret_int (by rw [hinv.2, hat, if_neg (by rw [hE]; decide), hE]), hm.g⟩
     ·have h9 : (Op.bytesLess ke.toList p0.toList || ke.toList == p0.toList) = false := by simpa using hh
      clear hh
      refine sr_ ?_
      have hO : leEx (prevOf l k) ⟨ke, on, dy, mo⟩ = false := by rw [prevOf_pos hk0 hy]; exact h9
      refine fd_ fo256_1 rfl rfl (lk_ sc3 0 rfl rfl rfl ?_)
      refine wl_callw rfl cb175 rfl rfl (fun wx hm => (in_any _ _ _ wx)) ?_
      refine wl_ov (ov_un_not rfl) rfl (mv_ rfl ?_)
      rcases Bool.eq_false_or_eq_true (!(inB on 0 1000000)) with h4 | h4
      ·refine wl_set 39 rfl (congrArg Value.bool h4) ?_
       refine goff rfl rfl rfl (goff rfl rfl rfl (goff rfl rfl rfl (goff rfl rfl rfl (pt_ rfl rfl (mv_ rfl (goff rfl rfl rfl (goff rfl rfl rfl (goff rfl rfl rfl (goff rfl rfl rfl (pt_ rfl rfl (sg_ rfl (nn_ ?_))))))))))))
       refine ct_ rfl (sr_ (sg_ rfl (nn_ ?_)))
       refine gw_ret ?_
       refine nx_blk_ret (nx_blk_ret (nx_then_ret (nx_then_ret (nx_blk_ret (nx_then_ret ?_)))))
       have hE : exE (prevOf l k) ⟨ke, on, dy, mo⟩ = 1 := by unfold exE; simp [h2, hO, h4]
       refine nx_ret1 rfl rfl fun wx hm => ?_
       exact ⟨ret_int (by rw [hinv.2, hat, if_neg (by rw [hE]; decide), hE]), hm.g⟩
      ·refine wl_set 39 rfl (congrArg Value.bool h4) ?_
       refine wl_guard_on rfl rfl rfl (fd_ fo256_2 rfl rfl (wl_guard_on rfl rfl rfl (lk_ sc3 0 rfl rfl rfl (wl_guard_on rfl rfl rfl ?_))))
       refine wl_callw rfl cb175 rfl rfl (fun wx hm => (in_any _ _ _ wx)) ?_
       refine wl_guard_on rfl rfl rfl (wl_ov (ov_un_not rfl) rfl (pf_ rfl rfl (mv_ rfl ?_)))
       rcases Bool.eq_false_or_eq_true (!(inB dy 0 1000000)) with h5 | h5
       ·refine wl_set 45 rfl (congrArg Value.bool h5) ?_
        refine goff rfl rfl rfl (goff rfl rfl rfl (goff rfl rfl rfl (goff rfl rfl rfl (pt_ rfl rfl (sg_ rfl (nn_ (ct_ rfl (sr_ (sg_ rfl (nn_ ?_))))))))))
        refine gw_ret ?_
        refine nx_blk_ret (nx_blk_ret (nx_then_ret (nx_then_ret (nx_blk_ret (nx_then_ret ?_)))))
        have hE : exE (prevOf l k) ⟨ke, on, dy, mo⟩ = 1 := by unfold exE; simp [h2, hO, h4, h5]
        refine nx_ret1 rfl rfl fun wx hm => ?_
        exact ⟨ret_int (by rw [hinv.2, hat, if_neg (by rw [hE]; decide), hE]), hm.g⟩
       ·refine wl_set 45 rfl (congrArg Value.bool h5) ?_
        refine wl_guard_on rfl rfl rfl (fd_ fo256_3 rfl rfl (wl_guard_on rfl rfl rfl (lk_ sc3 0 rfl rfl rfl (wl_guard_on rfl rfl rfl ?_))))
        refine wl_callw rfl cb175 rfl rfl (fun wx hm => (in_any _ _ _ wx)) ?_
        refine wl_guard_on rfl rfl rfl (wl_ov (ov_un_not rfl) rfl (pf_ rfl rfl (sg_ rfl (nn_ ?_))))
        refine gw_cond rfl (fun hh => ?_) (fun hh => ?_)
        ·have h6 : (inB mo (-1) 1000000) = false := by simpa using hh
         clear hh
         refine sr_ (sg_ rfl (nn_ ?_))
         refine gw_ret ?_
         refine nx_blk_ret (nx_blk_ret (nx_then_ret (nx_then_ret (nx_blk_ret (nx_then_ret ?_)))))
         have hE : exE (prevOf l k) ⟨ke, on, dy, mo⟩ = 1 := by unfold exE; simp [h2, hO, h4, h5, h6]
         refine nx_ret1 rfl rfl fun wx hm => ?_
         exact ⟨ret_int (by rw [hinv.2, hat, if_neg (by rw [hE]; decide), hE]), hm.g⟩
        ·have h6 : (inB mo (-1) 1000000) = true := by simpa using hh
         clear hh
         refine gw_skip (nx_blk_nrm (nx_blk_nrm (nx_then (gw_region ?_))))
         have hE : exE (prevOf l k) ⟨ke, on, dy, mo⟩ = 0 := by unfold exE; simp [h2, hO, h4, h5, h6]
         refine ad_ rfl rfl (mv_ rfl (wl_nil ?_))
         exact nx_round (k + 1) ⟨by omega, by rw [hinv.2, hat, if_pos hE]⟩ (by omega) ⟨rfl, rfl, rfl, (some_int (by omega)), trivial⟩ (fun _ hm => hm.pick [] [] [0] rfl rfl)
  ·have hk : ¬ (((k : Nat) : Int) < ((n : Nat) : Int)) := by simpa using hh
   clear hh
   refine gw_exit ?_
   refine nx_then_exit (nx_then_exit ?_)
   refine nx_blk_here ?_
   refine nx_then (sr_ (sg_ rfl (nn_ ?_)))
   refine gw_ret ?_
   refine nx_ret1 rfl rfl fun wx hm => ?_
   exact ⟨ret_int (by rw [hinv.2, scanE_end _ _ _ _ (by omega)]), hm.g⟩
set_option maxRecDepth 100000 in
set_option maxHeartbeats 1000000 in
theorem extrasFault_any (l : List Ex) (A : Option Addr) (n c : Nat) (w : World) (hl : SlT exEnc 4 256 w A n l) (hok : ∀ b ∈ l, ExOk b) (hn : n ≤ 1000000) :
  Calls Tryz.prog 98 #[.slice A n c] w (GotE w (extrasE l)) := by
 refine gw_enter ⟨45, w, none, []⟩ Tryz.func98 rfl Tryz.ntmps98 rfl (mem0 (X := [SlOld exEnc 4 256 w.heap.size none A n l]) (allF_cons hl.old allF_nil) (allL_cons SlOld.lasts allL_nil)) ?_
 refine sr_ ?_
 have hlen := hl.len
 refine sg_ rfl (nn_ (gw_seq (sr_ (mv_ rfl (wl_ov (ov_len es27 rfl) rfl ?_)))))
 refine wl_ov (ov_gtr rfl rfl) rfl ?_
 refine nn_ ?_
 refine gw_cond rfl (fun hh => ?_) (fun hh => ?_)
 ·have h1 : 30 < ((n : Nat) : Int) := by simpa using hh
  clear hh
  refine sr_ (sg_ rfl (nn_ ?_))
  refine gw_ret ?_
  refine nx_then_ret ?_
  refine nx_ret1 rfl rfl fun wx hm => ?_
  exact ⟨ret_int (by unfold extrasE; rw [if_pos (by omega)]), hm.g⟩
 ·have h1 : ¬ (30 < ((n : Nat) : Int)) := by simpa using hh
  clear hh
  refine gw_skip (nx_then (sr_ (sg_ rfl (nn_ (gw_seq (sr_ (mv_ rfl (wl_ov (ov_len es27 rfl) rfl (mv_ rfl (wl_nil ?_))))))))))
  refine nx_then (gw_block ?_)
  refine gw_loop (γ := Nat) (fun (k : Nat) => k ≤ n ∧ extrasE l = scanE exE (prevOf l k) (l.drop k)) (fun (k : Nat) => [(3, .string (prevEx l k)), (9, .slice A n c), (10, .int .i64 ((n : Nat) : Int)), (11, .int .i64 ((k : Nat) : Int))]) (fun (k : Nat) => fun _ => True) (fun (k : Nat) => []) (fun (k : Nat) => []) (fun (k : Nat) => [SlOld exEnc 4 256 w.heap.size none A n l]) (fun (k : Nat) => n - k) 0 ⟨Nat.zero_le _, by unfold extrasE; rw [if_neg (by omega)]; rfl⟩ ⟨rfl, rfl, rfl, rfl, trivial⟩ (fun _ hm => hm.pick [] [] [0] rfl rfl) ?_
  intro k hinv
  replace hinv : k ≤ n ∧ extrasE l = scanE exE (prevOf l k) (l.drop k) := hinv
  refine sr_ (wl_ov (ov_lss rfl rfl) rfl (nn_ (gw_seq ?_)))
  refine gw_cond rfl (fun hh => ?_) (fun hh => ?_)
  ·have hk : ((k : Nat) : Int) < ((n : Nat) : Int) := by simpa using hh
   clear hh
   refine gw_skip (nx_then (gw_seq (gw_block (sr_ ?_))))
   obtain ⟨b, off, hA, _, _⟩ := hl.get (by omega)
   subst hA
   obtain ⟨x, hx⟩ : ∃ x, l[k]? = some x := ⟨_, List.getElem?_eq_getElem (by omega)⟩
   obtain ⟨ke, on, dy, mo⟩ := x
   have hat := scanE_at exE l k _ hx
   have hk1 : ke.size ≤ 1000000 := hok _ (List.mem_of_getElem? hx)
   refine wl_ov (ov_index (j := k) es27 rfl rfl (by omega)) rfl ?_
   refine wl_ov (ov_elem (vs := [.string ke, .int .i64 on, .int .i64 dy, .int .i64 mo]) rz256 rfl (fun _ hm => (hm.fact 0 rfl).1) hx rfl rfl) rfl ?_
   refine wl_alloc zc256 rfl fun g1 => ?_
   refine wl_stores (cs' := [.string ke, .int .i64 on, .int .i64 dy, .int .i64 mo]) 0 rz256 rfl rfl rfl rfl rfl rfl rfl rfl ?_
   refine nn_ (gw_seq (gw_block (sr_ (fd_ fo256_0 rfl rfl (lk_ sc9 0 rfl rfl rfl ?_)))))
   refine wl_callv rfl cb108 rfl rfl (fun wx hm => (key_any _ wx (by omega))) ?_
   refine wl_ov (ov_un_not rfl) rfl (sg_ rfl (nn_ ?_))
   refine gw_cond rfl (fun hh => ?_) (fun hh => ?_)
   ·have h2 : (keyB ke) = false := by simpa using hh
    clear hh
    refine sr_ (sg_ rfl (nn_ ?_))
    refine gw_ret ?_
    refine nx_blk_ret (nx_then_ret (nx_blk_ret (nx_then_ret (nx_then_ret (nx_blk_ret (nx_then_ret ?_))))))
    have hE : exE (prevOf l k) ⟨ke, on, dy, mo⟩ = 5 := by unfold exE; simp [h2]
    refine nx_ret1 rfl rfl fun wx hm => ?_
    exact ⟨ret_int (by rw [hinv.2, hat, if_neg (by rw [hE]; decide), hE]), hm.g⟩
   ·have h2 : (keyB ke) = true := by simpa using hh
    clear hh
    refine sr_ (fd_ fo256_0 rfl rfl (lk_ sc9 0 rfl rfl rfl (mv_ rfl ?_)))
    refine wl_ov (ov_sleq rfl rfl) rfl ?_
    refine sg_ rfl (nn_ ?_)
    refine gw_cond rfl (fun hh => ?_) (fun hh => ?_)
    ·have h9 : (Op.bytesLess ke.toList (prevEx l k).toList || ke.toList == (prevEx l k).toList) = true := by simpa using hh
     clear hh
     refine sr_ ?_
     have hO : leEx (prevOf l k) ⟨ke, on, dy, mo⟩ = true := (prevEx_le (b := ⟨ke, on, dy, mo⟩) (by simpa using h2)).symm.trans h9
     refine sg_ rfl (nn_ ?_)
     refine gw_ret ?_
     refine nx_blk_ret (nx_then_ret (nx_blk_ret (nx_then_ret (nx_then_ret (nx_blk_ret (nx_then_ret ?_))))))
     have hE : exE (prevOf l k) ⟨ke, on, dy, mo⟩ = 7 := by unfold exE; simp [h2, hO]
     refine nx_ret1 rfl rfl fun wx hm => ?_
     exact ⟨ret_int (by rw [hinv.2, hat, if_neg (by rw [hE]; decide), hE]), hm.g⟩
    ·have h9 : (Op.bytesLess ke.toList (prevEx l k).toList || ke.toList == (prevEx l k).toList) = false := by simpa using hh
     clear hh
     refine sr_ ?_
     have hO : leEx (prevOf l k) ⟨ke, on, dy, mo⟩ = false := (prevEx_le (b := ⟨ke, on, dy, mo⟩) (by simpa using h2)).symm.trans h9
     refine fd_ fo256_1 rfl rfl (lk_ sc3 0 rfl rfl rfl ?_)
     refine wl_callw rfl cb133 rfl rfl (fun wx hm => (rin_any _ _ _ wx)) ?_
     refine wl_ov (ov_un_not rfl) rfl (mv_ rfl ?_)
     rcases Bool.eq_false_or_eq_true (!(inB on 0 1000000)) with h4 | h4
     ·refine wl_set 30 rfl (congrArg Value.bool h4) ?_
      refine goff rfl rfl rfl (goff rfl rfl rfl (goff rfl rfl rfl (goff rfl rfl rfl (pt_ rfl rfl (mv_ rfl (goff rfl rfl rfl (goff rfl rfl rfl (goff rfl rfl rfl (goff rfl rfl rfl (pt_ rfl rfl (sg_ rfl (nn_ ?_))))))))))))
      refine ct_ rfl (sr_ (sg_ rfl (nn_ ?_)))
      refine gw_ret ?_
      refine nx_blk_ret (nx_then_ret (nx_blk_ret (nx_then_ret (nx_then_ret (nx_blk_ret (nx_then_ret ?_))))))
      have hE : exE (prevOf l k) ⟨ke, on, dy, mo⟩ = 1 := by unfold exE; simp [h2, hO, h4]
      refine nx_ret1 rfl rfl fun wx hm => ?_
      exact ⟨ret_int (by rw [hinv.2, hat, if_neg (by rw [hE]; decide), hE]), hm.g⟩
     ·refine wl_set 30 rfl (congrArg Value.bool h4) ?_
      refine wl_guard_on rfl rfl rfl (fd_ fo256_2 rfl rfl (wl_guard_on rfl rfl rfl (lk_ sc3 0 rfl rfl rfl (wl_guard_on rfl rfl rfl ?_))))
      refine wl_callw rfl cb133 rfl rfl (fun wx hm => (rin_any _ _ _ wx)) ?_
      refine wl_guard_on rfl rfl rfl (wl_ov (ov_un_not rfl) rfl (pf_ rfl rfl (mv_ rfl ?_)))
      rcases Bool.eq_false_or_eq_true (!(inB dy 0 1000000)) with h5 | h5
      ·refine wl_set 36 rfl (congrArg Value.bool h5) ?_
       refine goff rfl rfl rfl (goff rfl rfl rfl (goff rfl rfl rfl (goff rfl rfl rfl (pt_ rfl rfl (sg_ rfl (nn_ (ct_ rfl (sr_ (sg_ rfl (nn_ ?_))))))))))
       refine gw_ret ?_
       refine nx_blk_ret (nx_then_ret (nx_blk_ret (nx_then_ret (nx_then_ret (nx_blk_ret (nx_then_ret ?_))))))
       have hE : exE (prevOf l k) ⟨ke, on, dy, mo⟩ = 1 := by unfold exE; simp [h2, hO, h4, h5]
       refine nx_ret1 rfl rfl fun wx hm => ?_
       exact ⟨ret_int (by rw [hinv.2, hat, if_neg (by rw [hE]; decide), hE]), hm.g⟩
      ·refine wl_set 36 rfl (congrArg Value.bool h5) ?_
       refine wl_guard_on rfl rfl rfl (fd_ fo256_3 rfl rfl (wl_guard_on rfl rfl rfl (lk_ sc3 0 rfl rfl rfl (wl_guard_on rfl rfl rfl ?_))))
       refine wl_callw rfl cb133 rfl rfl (fun wx hm => (rin_any _ _ _ wx)) ?_
       refine wl_guard_on rfl rfl rfl (wl_ov (ov_un_not rfl) rfl (pf_ rfl rfl (sg_ rfl (nn_ ?_))))
       refine gw_cond rfl (fun hh => ?_) (fun hh => ?_)
       ·have h6 : (inB mo (-1) 1000000) = false := by simpa using hh
        clear hh
        refine sr_ (sg_ rfl (nn_ ?_))
        refine gw_ret ?_
        refine nx_blk_ret (nx_then_ret (nx_blk_ret (nx_then_ret (nx_then_ret (nx_blk_ret (nx_then_ret ?_))))))
        have hE : exE (prevOf l k) ⟨ke, on, dy, mo⟩ = 1 := by unfold exE; simp [h2, hO, h4, h5, h6]
        refine nx_ret1 rfl rfl fun wx hm => ?_
        exact ⟨ret_int (by rw [hinv.2, hat, if_neg (by rw [hE]; decide), hE]), hm.g⟩
       ·have h6 : (inB mo (-1) 1000000) = true := by simpa using hh
        clear hh
        refine gw_skip (nx_blk_nrm (nx_then (gw_region ?_)))
        have hE : exE (prevOf l k) ⟨ke, on, dy, mo⟩ = 0 := by unfold exE; simp [h2, hO, h4, h5, h6]
        refine fd_ fo256_0 rfl rfl (lk_ sc9 0 rfl rfl rfl (sg_ rfl (wl_nil (nx_blk_nrm (nx_then (gw_region (ad_ rfl rfl (mv_ rfl (wl_nil ?_)))))))))
        exact nx_round (k + 1) ⟨by omega, by rw [hinv.2, hat, if_pos hE]⟩ (by omega) ⟨(congrArg (fun z => some (Value.string z)) (prevEx_succ hx).symm), rfl, rfl, (some_int (by omega)), trivial⟩ (fun _ hm => hm.pick [] [] [0] rfl rfl)
  ·have hk : ¬ (((k : Nat) : Int) < ((n : Nat) : Int)) := by simpa using hh
   clear hh
   refine gw_exit ?_
   refine nx_then_exit (nx_then_exit ?_)
   refine nx_blk_here ?_
   refine nx_then (sr_ (sg_ rfl (nn_ ?_)))
   refine gw_ret ?_
   refine nx_ret1 rfl rfl fun wx hm => ?_
   exact ⟨ret_int (by rw [hinv.2, scanE_end _ _ _ _ (by omega)]), hm.g⟩
theorem ex_len (x : Ex) : (exEnc x).length = 4 := rfl
theorem extrasE_ok {l : List Ex} (h : extrasE l = 0) : l.length ≤ 30 ∧ ∀ x ∈ l, keyB x.key = true ∧ (0 ≤ x.once ∧ x.once ≤ 1000000) ∧ (0 ≤ x.day ∧ x.day ≤ 1000000) ∧ (-1 ≤ x.most ∧ x.most ≤ 1000000) := by
  unfold extrasE at h
  split at h
  · cases h
  · refine ⟨by omega, fun x hx => ?_⟩
    obtain ⟨q, hq⟩ := scan_each h x hx
    unfold exE at hq
    repeat (split at hq; · cases hq)
    rename_i h1 h2 h3 h4 h5
    simp [inB] at h1 h3 h4 h5
    exact ⟨h1, h3, h4, h5⟩
def exP (k : ByteArray) (x : Ex) : Bool := x.key.toList == k.toList
/-- What an extra costs. -/
def exV (x : Ex) (n : Int) : Int := x.once + (if 0 ≤ x.most then min (x.day * n) x.most else x.day * n)
def exAt (l : List Ex) (k : ByteArray) (n : Int) : Int := match l[(ixP (exP k) l 0).toNat]? with
  | some x => exV x n
  | none => 0
theorem exV_step {x : Ex} (h1 : 0 ≤ x.day) (j : Nat) : (if 0 ≤ x.most then min ((exV x j - x.once) + x.day) x.most else (exV x j - x.once) + x.day) = exV x (j + 1 : Nat) - x.once := by
  unfold exV
  have e : x.day * ((j + 1 : Nat) : Int) = x.day * (j : Int) + x.day := by rw [Int.natCast_add, Int.mul_add]; simp
  rw [e]
  by_cases hm : 0 ≤ x.most
  · simp only [hm, if_true]; omega
  · simp only [hm, if_false]; omega
theorem exV_bound {x : Ex} {n : Int} (h1 : 0 ≤ x.once ∧ x.once ≤ 1000000) (h2 : 0 ≤ x.day ∧ x.day ≤ 1000000) (h3 : -1 ≤ x.most ∧ x.most ≤ 1000000) (hn : 0 ≤ n ∧ n ≤ 120) : (0 ≤ x.day * n ∧ x.day * n ≤ 120000000) ∧ 0 ≤ exV x n ∧ exV x n ≤ 121000000 := by
  have a : 0 ≤ x.day * n := Int.mul_nonneg h2.1 hn.1
  have b := Int.mul_le_mul h2.2 hn.2 hn.1 (by omega)
  unfold exV
  refine ⟨⟨a, by omega⟩, ?_⟩
  split <;> omega
set_option maxRecDepth 100000 in
set_option maxHeartbeats 400000 in
theorem pred_extraAt_1_tariff (ke : ByteArray) (on : Int) (dy : Int) (mo : Int) (gk : Nat) (k : ByteArray) (w : World) (hk : Blk w gk 9 [.string k]) :
  Calls Tryz.prog 254 #[.agg #[.string ke, .int .i64 on, .int .i64 dy, .int .i64 mo], .pointer (some ⟨gk, 0, none⟩)] w (fun e w' => e = .returned (.bool (exP k ⟨ke, on, dy, mo⟩)) ∧ w.grownBy w' none) := by
 refine gw_enter ⟨8, w, none, []⟩ Tryz.func254 rfl Tryz.ntmps254 rfl (mem0 (X := [BlkOld w.heap.size none gk 9 [.string k]]) (allF_cons hk.old allF_nil) (allL_cons BlkOld.lasts allL_nil)) ?_
 refine sr_ ?_
 refine wl_box rfl rfl rfl fun g1 => ?_
 refine sg_ rfl (nn_ (sr_ (fd_ fo256_0 rfl rfl (lk_ sc9 0 rfl rfl rfl ?_))))
 refine wl_ov (ov_load (v := .string k) sc9 rfl (fun _ hm => (hm.fact 0 rfl).2) rfl) rfl ?_
 refine wl_ov (ov_seql rfl rfl) rfl (sg_ rfl (nn_ ?_))
 refine gw_ret ?_
 refine nx_ret1 rfl rfl fun wx hm => ?_
 exact ⟨rfl, hm.g⟩
set_option maxRecDepth 100000 in
set_option maxHeartbeats 400000 in
theorem index_extraAt_1_tariff (l : List Ex) (A : Option Addr) (n c0 : Nat) (gk : Nat) (k : ByteArray) (w : World) (hl : SlT exEnc 4 256 w A n l) (hn : n ≤ 1000000) (hk : Blk w gk 9 [.string k]) :
  Calls Tryz.prog 253 #[.slice A n c0, .func (.func 254) #[] #[.pointer (some ⟨gk, 0, none⟩)]] w (GotE w (ixP (exP k) l 0)) := by
 refine gw_enter ⟨19, w, none, []⟩ Tryz.func253 rfl Tryz.ntmps253 rfl (mem0 (X := [SlOld exEnc 4 256 w.heap.size none A n l, BlkOld w.heap.size none gk 9 [.string k]]) (allF_cons hl.old (allF_cons hk.old allF_nil)) (allL_cons SlOld.lasts (allL_cons BlkOld.lasts allL_nil))) ?_
 refine sr_ ?_
 have hlen := hl.len
 refine sg_ rfl (nn_ (gw_seq (sr_ (mv_ rfl (wl_ov (ov_len es27 rfl) rfl (mv_ rfl (nn_ (gw_block ?_))))))))
 refine gw_loop (γ := Nat) (fun (i : Nat) => i ≤ n ∧ ixP (exP k) l 0 = ixP (exP k) (l.drop i) i) (fun (i : Nat) => [(0, .slice A n c0), (1, .func (.func 254) #[] #[.pointer (some ⟨gk, 0, none⟩)]), (7, .int .i64 ((n : Nat) : Int)), (8, .int .i64 ((i : Nat) : Int))]) (fun (i : Nat) => fun _ => True) (fun (i : Nat) => []) (fun (i : Nat) => []) (fun (i : Nat) => [SlOld exEnc 4 256 w.heap.size none A n l, BlkOld w.heap.size none gk 9 [.string k]]) (fun (i : Nat) => n - i) 0 ⟨Nat.zero_le _, rfl⟩ ⟨rfl, rfl, rfl, rfl, trivial⟩ (fun _ hm => hm.pick [] [] [0, 1] rfl rfl) ?_
 intro i hinv
 replace hinv : i ≤ n ∧ ixP (exP k) l 0 = ixP (exP k) (l.drop i) i := hinv
 refine sr_ (wl_ov (ov_lss rfl rfl) rfl (nn_ (gw_seq ?_)))
 refine gw_cond rfl (fun hh => ?_) (fun hh => ?_)
 ·have hi : ((i : Nat) : Int) < ((n : Nat) : Int) := by simpa using hh
  clear hh
  refine gw_skip (nx_then (gw_seq (gw_block (sr_ ?_))))
  obtain ⟨b, off, hA, _, _⟩ := hl.get (by omega)
  subst hA
  obtain ⟨x, hx⟩ : ∃ x, l[i]? = some x := ⟨_, List.getElem?_eq_getElem (by omega)⟩
  obtain ⟨ke, on, dy, mo⟩ := x
  have hat := ixP_at (p := exP k) hx
  refine mv_ rfl (sg_ rfl (nn_ (sr_ (mv_ rfl (mv_ rfl (mv_ rfl ?_))))))
  refine wl_ov (ov_index (j := i) es27 rfl rfl (by omega)) rfl ?_
  refine wl_ov (ov_elem (vs := [.string ke, .int .i64 on, .int .i64 dy, .int .i64 mo]) rz256 rfl (fun _ hm => (hm.fact 0 rfl).1) hx rfl rfl) rfl ?_
  refine wl_callv rfl cb254 rfl rfl (fun wx hm => (pred_extraAt_1_tariff ke on dy mo gk k wx (hm.fact 1 rfl).2)) ?_
  refine nn_ ?_
  refine gw_cond rfl (fun hh => ?_) (fun hh => ?_)
  ·have hq : (exP k ⟨ke, on, dy, mo⟩) = true := by simpa using hh
   clear hh
   refine sr_ (mv_ rfl (sg_ rfl (nn_ ?_)))
   refine gw_ret ?_
   refine nx_blk_ret (nx_then_ret (nx_then_ret (nx_blk_ret (nx_then_ret ?_))))
   refine nx_ret1 rfl rfl fun wx hm => ?_
   exact ⟨ret_int (by rw [hinv.2, hat, if_pos hq]), hm.g⟩
  ·have hq : (exP k ⟨ke, on, dy, mo⟩) = false := by simpa using hh
   clear hh
   refine gw_skip (nx_blk_nrm (nx_then (gw_region (ad_ rfl rfl (mv_ rfl (wl_nil ?_))))))
   exact nx_round (i + 1) ⟨by omega, by rw [hinv.2, hat, if_neg (by rw [hq]; decide)]⟩ (by omega) ⟨rfl, rfl, rfl, (some_int (by omega)), trivial⟩ (fun _ hm => hm.pick [] [] [0, 1] rfl rfl)
 ·have hi : ¬ (((i : Nat) : Int) < ((n : Nat) : Int)) := by simpa using hh
  clear hh
  refine gw_exit ?_
  refine nx_then_exit (nx_then_exit ?_)
  refine nx_blk_here ?_
  refine nx_then (sr_ (sg_ rfl ?_))
  refine wl_set 4 (v' := .int .i64 (-1)) rfl rfl ?_
  refine nn_ ?_
  refine gw_ret ?_
  refine nx_ret1 rfl rfl fun wx hm => ?_
  exact ⟨ret_int (by rw [hinv.2, List.drop_eq_nil_of_le (by omega)]; rfl), hm.g⟩
set_option maxRecDepth 100000 in
set_option maxHeartbeats 400000 in
theorem extraAt_any (l : List Ex) (A : Option Addr) (n c0 : Nat) (k : ByteArray) (w : World) (hl : SlT exEnc 4 256 w A n l) (hn : n ≤ 1000000) :
  Calls Tryz.prog 199 #[.slice A n c0, .string k] w (GotE w (ixP (exP k) l 0)) := by
 refine gw_enter ⟨8, w, none, []⟩ Tryz.func199 rfl Tryz.ntmps199 rfl (mem0 (X := [SlOld exEnc 4 256 w.heap.size none A n l]) (allF_cons hl.old allF_nil) (allL_cons SlOld.lasts allL_nil)) ?_
 refine sr_ ?_
 refine wl_box rfl rfl rfl fun g1 => ?_
 refine sg_ rfl (nn_ (sr_ (mv_ rfl (wl_ov (ov_makeFunc rfl rfl) rfl ?_))))
 refine wl_callv rfl cb253 rfl rfl (fun wx hm => (index_extraAt_1_tariff l A n c0 _ k wx (hm.fact 0 rfl).1 hn (hm.blkI 0 rfl))) ?_
 refine sg_ rfl (nn_ ?_)
 refine gw_ret ?_
 refine nx_ret1 rfl rfl fun wx hm => ?_
 exact ⟨rfl, hm.g⟩
set_option maxRecDepth 100000 in
set_option maxHeartbeats 400000 in
theorem extraCost_any (ke : ByteArray) (on dy mo nn : Int) (w : World) (h1 : 0 ≤ (⟨ke, on, dy, mo⟩ : Ex).once ∧ (⟨ke, on, dy, mo⟩ : Ex).once ≤ 1000000) (h2 : 0 ≤ (⟨ke, on, dy, mo⟩ : Ex).day ∧ (⟨ke, on, dy, mo⟩ : Ex).day ≤ 1000000) (h3 : -1 ≤ (⟨ke, on, dy, mo⟩ : Ex).most ∧ (⟨ke, on, dy, mo⟩ : Ex).most ≤ 1000000) (h4 : 0 ≤ nn ∧ nn ≤ 120) :
  Calls Tryz.prog 201 #[.agg #[.string ke, .int .i64 on, .int .i64 dy, .int .i64 mo], .int .i64 nn] w (GotE w (exV ⟨ke, on, dy, mo⟩ nn)) := by
 refine gw_enter ⟨21, w, none, []⟩ Tryz.func201 rfl Tryz.ntmps201 rfl (mem0 (X := []) allF_nil allL_nil) ?_
 refine sr_ ?_
 obtain ⟨⟨a1, a2⟩, a3, a4⟩ := exV_bound (x := ⟨ke, on, dy, mo⟩) h1 h2 h3 h4
 dsimp only at a1 a2
 obtain ⟨h10, h11⟩ := h1
 obtain ⟨h20, h21⟩ := h2
 obtain ⟨h30, h31⟩ := h3
 unfold exV at a3 a4
 dsimp only at a3 a4 h10 h11 h20 h21 h30 h31
 refine wl_box rfl rfl rfl fun g1 => ?_
 refine sg_ rfl (nn_ (sr_ (fd_ fo256_2 rfl rfl (lk_ sc3 0 rfl rfl rfl (mv_ rfl ?_)))))
 refine wl_ov (ov_mul rfl rfl (by omega) (by omega)) rfl ?_
 refine sg_ rfl (nn_ (gw_seq (sr_ (fd_ fo256_3 rfl rfl (lk_ sc3 0 rfl rfl rfl ?_)))))
 refine wl_ov (ov_geq rfl rfl) rfl ?_
 refine nn_ ?_
 refine gw_cond rfl (fun hh => ?_) (fun hh => ?_)
 ·have hm0 : 0 ≤ mo := by simpa using hh
  clear hh
  refine gw_region ?_
  rw [if_pos hm0] at a3 a4
  refine mv_ rfl (fd_ fo256_3 rfl rfl (lk_ sc3 0 rfl rfl rfl ?_))
  refine wl_ov (ov_min rfl rfl) rfl ?_
  refine sg_ rfl (nn_ (sr_ (fd_ fo256_1 rfl rfl (lk_ sc3 0 rfl rfl rfl (mv_ rfl (ad_ rfl rfl (sg_ rfl (nn_ ?_))))))))
  refine gw_ret ?_
  refine nx_ret1 rfl rfl fun wx hm => ?_
  exact ⟨ret_int (by unfold exV; rw [if_pos (show 0 ≤ mo from hm0)]), hm.g⟩
 ·have hm0 : ¬ (0 ≤ mo) := by simpa using hh
  clear hh
  refine gw_skip (nx_then (sr_ ?_))
  rw [if_neg hm0] at a3 a4
  refine fd_ fo256_1 rfl rfl (lk_ sc3 0 rfl rfl rfl (mv_ rfl (ad_ rfl rfl (sg_ rfl (nn_ ?_)))))
  refine gw_ret ?_
  refine nx_ret1 rfl rfl fun wx hm => ?_
  exact ⟨ret_int (by unfold exV; rw [if_neg (show ¬ 0 ≤ mo from hm0)]), hm.g⟩
set_option maxRecDepth 100000 in
set_option maxHeartbeats 400000 in
theorem extraOf_any (l : List Ex) (A : Option Addr) (n c0 : Nat) (k : ByteArray) (nn : Nat) (w : World) (hl : SlT exEnc 4 256 w A n l) (hn : n ≤ 1000000) (hx0 : extrasE l = 0) (hnn : nn ≤ 120) :
  Calls Tryz.prog 114 #[.slice A n c0, .string k, .int .i64 ((nn : Nat) : Int)] w (fun e w' => e = .returned (.tuple #[.int .i64 (if 0 ≤ ixP (exP k) l 0 then exAt l k ((nn : Nat) : Int) else 0), .bool (decide (0 ≤ ixP (exP k) l 0))]) ∧ w.grownBy w' none) := by
 refine gw_enter ⟨41, w, none, []⟩ Tryz.func114 rfl Tryz.ntmps114 rfl (mem0 (X := [SlOld exEnc 4 256 w.heap.size none A n l]) (allF_cons hl.old allF_nil) (allL_cons SlOld.lasts allL_nil)) ?_
 refine sr_ ?_
 have hlen := hl.len
 refine sg_ rfl (sg_ rfl (nn_ (gw_seq (sr_ (mv_ rfl (wl_ov (ov_len es27 rfl) rfl (mv_ rfl (nn_ (gw_block ?_)))))))))
 refine gw_loop (γ := Nat) (fun (i : Nat) => i ≤ n ∧ ixP (exP k) l 0 = ixP (exP k) (l.drop i) i) (fun (i : Nat) => [(1, .string k), (2, .int .i64 ((nn : Nat) : Int)), (11, .slice A n c0), (12, .int .i64 ((n : Nat) : Int)), (13, .int .i64 ((i : Nat) : Int))]) (fun (i : Nat) => fun _ => True) (fun (i : Nat) => []) (fun (i : Nat) => []) (fun (i : Nat) => [SlOld exEnc 4 256 w.heap.size none A n l]) (fun (i : Nat) => n - i) 0 ⟨Nat.zero_le _, rfl⟩ ⟨rfl, rfl, rfl, rfl, rfl, trivial⟩ (fun _ hm => hm.pick [] [] [0] rfl rfl) ?_
 intro i hinv
 replace hinv : i ≤ n ∧ ixP (exP k) l 0 = ixP (exP k) (l.drop i) i := hinv
 refine sr_ (wl_ov (ov_lss rfl rfl) rfl (nn_ (gw_seq ?_)))
 refine gw_cond rfl (fun hh => ?_) (fun hh => ?_)
 ·have hi : ((i : Nat) : Int) < ((n : Nat) : Int) := by simpa using hh
  clear hh
  refine gw_skip (nx_then (gw_seq (gw_block (sr_ ?_))))
  obtain ⟨b, off, hA, _, _⟩ := hl.get (by omega)
  subst hA
  obtain ⟨x, hx⟩ : ∃ x, l[i]? = some x := ⟨_, List.getElem?_eq_getElem (by omega)⟩
  obtain ⟨ke, on, dy, mo⟩ := x
  have hat := ixP_at (p := exP k) hx
  obtain ⟨_, ⟨e1, e2⟩, ⟨e3, e4⟩, e5, e6⟩ := (extrasE_ok hx0).2 _ (List.mem_of_getElem? hx)
  dsimp only at e1 e2 e3 e4 e5 e6
  refine wl_ov (ov_index (j := i) es27 rfl rfl (by omega)) rfl ?_
  refine wl_ov (ov_elem (vs := [.string ke, .int .i64 on, .int .i64 dy, .int .i64 mo]) rz256 rfl (fun _ hm => (hm.fact 0 rfl).1) hx rfl rfl) rfl ?_
  refine wl_alloc zc256 rfl fun g1 => ?_
  refine wl_stores (cs' := [.string ke, .int .i64 on, .int .i64 dy, .int .i64 mo]) 0 rz256 rfl rfl rfl rfl rfl rfl rfl rfl ?_
  refine nn_ (gw_seq (sr_ (fd_ fo256_0 rfl rfl (lk_ sc9 0 rfl rfl rfl (mv_ rfl (wl_ov (ov_sneq rfl rfl) rfl (nn_ ?_)))))))
  refine gw_cond rfl (fun hh => ?_) (fun hh => ?_)
  ·have hq : (ke.toList == k.toList) = false := by simpa using hh
   clear hh
   refine gw_exit ?_
   refine nx_then_exit ?_
   refine nx_blk_here ?_
   refine nx_then (gw_region ?_)
   have hq : exP k ⟨ke, on, dy, mo⟩ = false := by unfold exP; simpa using hq
   refine ad_ rfl rfl (mv_ rfl (wl_nil ?_))
   exact nx_round (i + 1) ⟨by omega, by rw [hinv.2, hat, if_neg (by rw [hq]; decide)]⟩ (by omega) ⟨rfl, rfl, rfl, rfl, (some_int (by omega)), trivial⟩ (fun _ hm => hm.pick [] [] [0] rfl rfl)
  ·have hq : (ke.toList == k.toList) = true := by simpa using hh
   clear hh
   refine gw_skip (nx_then (sr_ ?_))
   have hq : exP k ⟨ke, on, dy, mo⟩ = true := by unfold exP; simpa using hq
   have hix : ixP (exP k) l 0 = ((i : Nat) : Int) := by rw [hinv.2, hat, if_pos hq]
   refine sg_ rfl (nn_ (gw_seq (sr_ (mv_ rfl (mv_ rfl (nn_ (gw_block ?_)))))))
   refine gw_loop (γ := Nat × Int) (fun (g : Nat × Int) => g.1 ≤ nn ∧ g.2 = exV ⟨ke, on, dy, mo⟩ ((g.1 : Nat) : Int) - on) (fun (g : Nat × Int) => [(1, .string k), (2, .int .i64 ((nn : Nat) : Int)), (9, .pointer (some ⟨g1, 0, none⟩)), (10, .int .i64 g.2), (11, .slice (some ⟨b, off, none⟩) n c0), (12, .int .i64 ((n : Nat) : Int)), (13, .int .i64 ((i : Nat) : Int)), (21, .int .i64 ((nn : Nat) : Int)), (22, .int .i64 ((g.1 : Nat) : Int))]) (fun (g : Nat × Int) => fun _ => True) (fun (g : Nat × Int) => [(g1, 256, [.string ke, .int .i64 on, .int .i64 dy, .int .i64 mo])]) (fun (g : Nat × Int) => []) (fun (g : Nat × Int) => [SlOld exEnc 4 256 w.heap.size none (some ⟨b, off, none⟩) n l]) (fun (g : Nat × Int) => nn - g.1) (0, 0) ⟨Nat.zero_le _, by unfold exV; dsimp only; split <;> simp <;> omega⟩ ⟨rfl, rfl, rfl, rfl, rfl, rfl, rfl, rfl, rfl, trivial⟩ (fun _ hm => hm.pick [0] [] [0] rfl rfl) ?_
   rintro ⟨j, v⟩ hinv
   replace hinv : j ≤ nn ∧ v = exV ⟨ke, on, dy, mo⟩ ((j : Nat) : Int) - on := hinv
   dsimp only
   refine sr_ ?_
   obtain ⟨hj0, hj1⟩ := hinv
   have hvb := (exV_bound (x := ⟨ke, on, dy, mo⟩) (n := ((j : Nat) : Int)) ⟨e1, e2⟩ ⟨e3, e4⟩ ⟨e5, e6⟩ (by omega)).2
   have hvb0 := hvb.1
   have hvb1 := hvb.2
   refine wl_ov (ov_lss rfl rfl) rfl (nn_ (gw_seq ?_))
   refine gw_cond rfl (fun hh => ?_) (fun hh => ?_)
   ·have hj : ((j : Nat) : Int) < ((nn : Nat) : Int) := by simpa using hh
    clear hh
    refine gw_skip (nx_then (gw_seq (gw_block (sr_ (mv_ rfl (fd_ fo256_2 rfl rfl (lk_ sc3 0 rfl rfl rfl (ad_ rfl rfl (sg_ rfl (nn_ (gw_seq ?_)))))))))))
    refine gw_region (fd_ fo256_3 rfl rfl (lk_ sc3 0 rfl rfl rfl ?_))
    refine wl_ov (ov_geq rfl rfl) rfl ?_
    refine nn_ ?_
    refine gw_cond rfl (fun hh => ?_) (fun hh => ?_)
    ·have hm0 : 0 ≤ mo := by simpa using hh
     clear hh
     refine gw_region (mv_ rfl (fd_ fo256_3 rfl rfl (lk_ sc3 0 rfl rfl rfl ?_)))
     refine wl_ov (ov_min rfl rfl) rfl ?_
     refine sg_ rfl (wl_nil (nx_blk_nrm (nx_then (gw_region (ad_ rfl rfl (mv_ rfl (wl_nil ?_)))))))
     exact nx_round (j + 1, min (v + dy) mo) ⟨by dsimp only; omega, by dsimp only; rw [hj1, ← exV_step (x := ⟨ke, on, dy, mo⟩) e3 j, if_pos (show 0 ≤ mo from hm0)]⟩ (by dsimp only; omega) ⟨rfl, rfl, rfl, rfl, rfl, rfl, rfl, rfl, (some_int (by omega)), trivial⟩ (fun _ hm => hm.pick [0] [] [0] rfl rfl)
    ·have hm0 : ¬ (0 ≤ mo) := by simpa using hh
     clear hh
     refine gw_skip (nx_blk_nrm (nx_then (gw_region (ad_ rfl rfl (mv_ rfl (wl_nil ?_))))))
     exact nx_round (j + 1, v + dy) ⟨by dsimp only; omega, by dsimp only; rw [hj1, ← exV_step (x := ⟨ke, on, dy, mo⟩) e3 j, if_neg (show ¬ 0 ≤ mo from hm0)]⟩ (by dsimp only; omega) ⟨rfl, rfl, rfl, rfl, rfl, rfl, rfl, rfl, (some_int (by omega)), trivial⟩ (fun _ hm => hm.pick [0] [] [0] rfl rfl)
   ·have hj : ¬ (((j : Nat) : Int) < ((nn : Nat) : Int)) := by simpa using hh
    clear hh
    refine gw_exit ?_
    refine nx_then_exit (nx_then_exit ?_)
    refine nx_blk_here ?_
    refine nx_then (sr_ (fd_ fo256_1 rfl rfl (lk_ sc3 0 rfl rfl rfl (mv_ rfl (ad_ rfl rfl (sg_ rfl (sg_ rfl (nn_ ?_))))))))
    refine gw_ret ?_
    refine nx_blk_ret (nx_then_ret (nx_then_ret (nx_blk_ret (nx_then_ret ?_))))
    refine nx_ret2 rfl rfl rfl fun wx hm => ?_
    have hjn : j = nn := by omega
    subst hjn
    have hv : exAt l k ((j : Nat) : Int) = exV ⟨ke, on, dy, mo⟩ ((j : Nat) : Int) := by unfold exAt; rw [hix, Int.toNat_natCast, hx]
    refine ⟨?_, hm.g⟩
    rw [hix, decide_eq_true (show 0 ≤ ((i : Nat) : Int) by omega), if_pos (show 0 ≤ ((i : Nat) : Int) by omega), hv, hj1, show on + (exV ⟨ke, on, dy, mo⟩ ((j : Nat) : Int) - on) = exV ⟨ke, on, dy, mo⟩ ((j : Nat) : Int) by omega]
 ·have hi : ¬ (((i : Nat) : Int) < ((n : Nat) : Int)) := by simpa using hh
  clear hh
  refine gw_exit ?_
  refine nx_then_exit (nx_then_exit ?_)
  refine nx_blk_here ?_
  refine nx_then (sr_ (sg_ rfl (sg_ rfl (nn_ ?_))))
  refine gw_ret ?_
  refine nx_ret2 rfl rfl rfl fun wx hm => ?_
  have hix : ixP (exP k) l 0 = -1 := by rw [hinv.2, List.drop_eq_nil_of_le (by omega)]; rfl
  exact ⟨by rw [hix]; rfl, hm.g⟩
theorem ex_two {a b : Ex} {q : Nat} (ha : a.key.size ≤ 1000000) (hb : b.key.size ≤ 1000000) : ∀ x ∈ [a, b].take q, ExOk x := fun x hx => by
  have h := List.mem_of_mem_take hx
  rcases List.mem_cons.1 h with rfl | h
  · exact ha
  · rw [List.mem_singleton.1 h]; exact hb
set_option maxRecDepth 100000 in
set_option maxHeartbeats 1000000 in
theorem gextras_any (w : World) (B sb m : Nat) (hS : Strm 25 w B sb m) (hm : m ≤ 100000000000) :
  Calls Tryz.prog 89 #[.pointer (some ⟨sb, 0, none⟩)] w (fun e w' => ∃ (A : Option Addr) (n c : Nat) (l : List Ex), e = .returned (.slice A n c) ∧ SlT exEnc 4 256 w' A n l ∧ (∀ x ∈ l, ExOk x) ∧ n ≤ 2 ∧ n ≤ c ∧ Strm 25 w' B sb (m + 30) ∧ w.grownBy w' (some sb)) := by
 refine gw_enter ⟨42, w, (some sb), []⟩ Tryz.func89 rfl Tryz.ntmps89 rfl (memS (X := []) hS allF_nil allL_nil) ?_
 refine sr_ (sg_ rfl (nn_ (sr_ (mv_ rfl ?_))))
 refine wl_buildSlice (e := 3) (cs := [.int .i64 0, .int .i64 5, .int .i64 100]) rfl (by kernel_rfl) rfl fun g1 => ?_
 refine wl_got (γ := Int) (val := fun v => .int .i64 v) (φ := fun v => v ∈ ([0, 5, 100] : List Int)) rfl cb24 rfl rfl rfl rfl (fun wx hm => (pick_any [0, 5, 100] _ _ _ wx B sb _ hm.k (by omega) (by simp) (by simp) (hm.blkI 0 rfl) (hm.neRow 0 rfl rfl))) fun v2 hv2 => ?_
 have bv2 : 0 ≤ v2 ∧ v2 ≤ 100 := mem_rng hv2 (by decide)
 have bv20 := bv2.1
 have bv21 := bv2.2
 clear bv2
 refine mv_ rfl ?_
 refine wl_buildSlice (e := 3) (cs := [.int .i64 0, .int .i64 2]) rfl (by kernel_rfl) rfl fun g3 => ?_
 refine wl_got (γ := Int) (val := fun v => .int .i64 v) (φ := fun v => v ∈ ([0, 2] : List Int)) rfl cb24 rfl rfl rfl rfl (fun wx hm => (pick_any [0, 2] _ _ _ wx B sb _ hm.k (by omega) (by simp) (by simp) (hm.blkI 0 rfl) (hm.neRow 0 rfl rfl))) fun v4 hv4 => ?_
 have bv4 : 0 ≤ v4 ∧ v4 ≤ 2 := mem_rng hv4 (by decide)
 have bv40 := bv4.1
 have bv41 := bv4.2
 clear bv4
 refine mv_ rfl ?_
 refine wl_buildSlice (e := 3) (cs := [.int .i64 (-1), .int .i64 0, .int .i64 7]) rfl (by kernel_rfl) rfl fun g5 => ?_
 refine wl_got (γ := Int) (val := fun v => .int .i64 v) (φ := fun v => v ∈ ([-1, 0, 7] : List Int)) rfl cb24 rfl rfl rfl rfl (fun wx hm => (pick_any [-1, 0, 7] _ _ _ wx B sb _ hm.k (by omega) (by simp) (by simp) (hm.blkI 0 rfl) (hm.neRow 0 rfl rfl))) fun v6 hv6 => ?_
 have bv6 : -1 ≤ v6 ∧ v6 ≤ 7 := mem_rng hv6 (by decide)
 have bv60 := bv6.1
 have bv61 := bv6.2
 clear bv6
 refine wl_ov (ov_build (cs := [.string ⟨#[109, 97, 112]⟩, .int .i64 v2, .int .i64 v4, .int .i64 v6]) rfl (by kernel_rfl)) rfl ?_
 refine mv_ rfl ?_
 refine wl_buildSlice (e := 3) (cs := [.int .i64 0, .int .i64 10]) rfl (by kernel_rfl) rfl fun g7 => ?_
 refine wl_got (γ := Int) (val := fun v => .int .i64 v) (φ := fun v => v ∈ ([0, 10] : List Int)) rfl cb24 rfl rfl rfl rfl (fun wx hm => (pick_any [0, 10] _ _ _ wx B sb _ hm.k (by omega) (by simp) (by simp) (hm.blkI 0 rfl) (hm.neRow 0 rfl rfl))) fun v8 hv8 => ?_
 have bv8 : 0 ≤ v8 ∧ v8 ≤ 10 := mem_rng hv8 (by decide)
 have bv80 := bv8.1
 have bv81 := bv8.2
 clear bv8
 refine mv_ rfl ?_
 refine wl_buildSlice (e := 3) (cs := [.int .i64 0, .int .i64 3, .int .i64 50]) rfl (by kernel_rfl) rfl fun g9 => ?_
 refine wl_got (γ := Int) (val := fun v => .int .i64 v) (φ := fun v => v ∈ ([0, 3, 50] : List Int)) rfl cb24 rfl rfl rfl rfl (fun wx hm => (pick_any [0, 3, 50] _ _ _ wx B sb _ hm.k (by omega) (by simp) (by simp) (hm.blkI 0 rfl) (hm.neRow 0 rfl rfl))) fun v10 hv10 => ?_
 have bv10 : 0 ≤ v10 ∧ v10 ≤ 50 := mem_rng hv10 (by decide)
 have bv100 := bv10.1
 have bv101 := bv10.2
 clear bv10
 refine mv_ rfl ?_
 refine wl_buildSlice (e := 3) (cs := [.int .i64 (-1), .int .i64 (-1), .int .i64 20, .int .i64 1000]) rfl (by kernel_rfl) rfl fun g11 => ?_
 refine wl_got (γ := Int) (val := fun v => .int .i64 v) (φ := fun v => v ∈ ([-1, -1, 20, 1000] : List Int)) rfl cb24 rfl rfl rfl rfl (fun wx hm => (pick_any [-1, -1, 20, 1000] _ _ _ wx B sb _ hm.k (by omega) (by simp) (by simp) (hm.blkI 0 rfl) (hm.neRow 0 rfl rfl))) fun v12 hv12 => ?_
 have bv12 : -1 ≤ v12 ∧ v12 ≤ 1000 := mem_rng hv12 (by decide)
 have bv120 := bv12.1
 have bv121 := bv12.2
 clear bv12
 refine wl_ov (ov_build (cs := [.string ⟨#[115, 101, 97, 116]⟩, .int .i64 v8, .int .i64 v10, .int .i64 v12]) rfl (by kernel_rfl)) rfl ?_
 refine wl_buildSlice (e := 256) (cs := [.string ⟨#[109, 97, 112]⟩, .int .i64 v2, .int .i64 v4, .int .i64 v6, .string ⟨#[115, 101, 97, 116]⟩, .int .i64 v8, .int .i64 v10, .int .i64 v12]) rfl (by kernel_rfl) rfl fun g13 => ?_
 refine sg_ rfl (nn_ (gw_seq (sr_ (mv_ rfl ?_))))
 refine wl_got (γ := Bool) (val := fun v => .bool v) (φ := fun v => True) rfl cb70 rfl rfl rfl rfl (fun wx hm => ((flip_any _ wx B sb _ hm.k (by omega) (by omega) (by omega)).mono fun _ _ ⟨v, he, hS, hg⟩ => ⟨v, trivial, he, hS, hg⟩)) fun f14 _ => ?_
 refine nn_ ?_
 refine gw_cond rfl (fun hh => ?_) (fun hh => ?_)
 ·have hf : f14 = true := by simpa using hh
  clear hh
  refine gw_region (mv_ rfl (mv_ rfl ?_))
  refine wl_buildSlice (e := 9) (cs := [.string ⟨#[]⟩, .string ⟨#[65]⟩, .string ⟨#[109, 97, 112]⟩, .string ⟨#[115, 101, 97, 116]⟩]) rfl (by kernel_rfl) rfl fun g15 => ?_
  refine wl_got (γ := ByteArray) (val := fun v => .string v) (φ := fun v => v ∈ ([⟨#[]⟩, ⟨#[65]⟩, ⟨#[109, 97, 112]⟩, ⟨#[115, 101, 97, 116]⟩] : List ByteArray)) rfl cb60 rfl rfl rfl rfl (fun wx hm => (some_any [⟨#[]⟩, ⟨#[65]⟩, ⟨#[109, 97, 112]⟩, ⟨#[115, 101, 97, 116]⟩] _ _ _ wx B sb _ hm.k (by omega) (by simp) (by simp) (hm.blkI 0 rfl) (hm.neRow 0 rfl rfl))) fun s16 hs16 => ?_
  have zs16 : s16.size ≤ 100 := mem_sz hs16 (by decide)
  refine mv_ rfl ?_
  refine wl_got (γ := Int) (val := fun v => .int .i64 v) (φ := fun v => -2000000000000000 ≤ v ∧ v ≤ 2000000000000000) rfl cb119 rfl rfl rfl rfl (fun wx hm => (odd_any _ _ wx B sb _ hm.k (by omega) (by omega) (by omega) (by omega))) fun v17 hv17 => ?_
  refine mv_ rfl ?_
  refine wl_got (γ := Int) (val := fun v => .int .i64 v) (φ := fun v => -2000000000000000 ≤ v ∧ v ≤ 2000000000000000) rfl cb119 rfl rfl rfl rfl (fun wx hm => (odd_any _ _ wx B sb _ hm.k (by omega) (by omega) (by omega) (by omega))) fun v18 hv18 => ?_
  refine wl_ov (ov_build (cs := [.string s16, .int .i64 v17, .int .i64 0, .int .i64 v18]) rfl (by kernel_rfl)) rfl ?_
  refine wl_ov (ov_index (j := 1) es27 rfl rfl (by decide)) rfl ?_
  refine wl_stores (cs' := [.string ⟨#[109, 97, 112]⟩, .int .i64 v2, .int .i64 v4, .int .i64 v6, .string s16, .int .i64 v17, .int .i64 0, .int .i64 v18]) 1 rz256 rfl rfl rfl rfl rfl rfl rfl rfl ?_
  refine nn_ (sr_ (mv_ rfl (mv_ rfl ?_)))
  refine wl_buildSlice (e := 3) (cs := [.int .i64 0, .int .i64 1, .int .i64 2, .int .i64 2]) rfl (by kernel_rfl) rfl fun g19 => ?_
  refine wl_got (γ := Int) (val := fun v => .int .i64 v) (φ := fun v => v ∈ ([0, 1, 2, 2] : List Int)) rfl cb24 rfl rfl rfl rfl (fun wx hm => (pick_any [0, 1, 2, 2] _ _ _ wx B sb _ hm.k (by omega) (by simp) (by simp) (hm.blkI 0 rfl) (hm.neRow 0 rfl rfl))) fun vp hvp => ?_
  have bvp : 0 ≤ vp ∧ vp ≤ 2 := mem_rng hvp (by decide)
  have bvp0 := bvp.1
  have bvp1 := bvp.2
  clear bvp
  obtain ⟨q, rfl⟩ := Int.eq_ofNat_of_zero_le bvp0
  have hq2 : q ≤ 2 := by omega
  refine wl_ov (ov_sliceHi (hi := q) es27 rfl rfl rfl (by omega)) rfl ?_
  refine sg_ rfl (nn_ ?_)
  refine gw_ret ?_
  refine nx_ret1 rfl rfl fun wx hm => ?_
  have hS := SlT.ofBlk (l := ([⟨⟨#[109, 97, 112]⟩, v2, v4, v6⟩, ⟨s16, v17, 0, v18⟩] : List Ex)) ex_len (hm.blkI 2 rfl)
  exact ⟨_, q, 2, ([⟨⟨#[109, 97, 112]⟩, v2, v4, v6⟩, ⟨s16, v17, 0, v18⟩] : List Ex).take q, rfl, hS.takeT hq2, ex_two (show (⟨#[109, 97, 112]⟩ : ByteArray).size ≤ 1000000 by decide) (show (s16 : ByteArray).size ≤ 1000000 by omega), hq2, hq2, hm.k.more (by omega), hm.g⟩
 ·have hf : f14 = false := by simpa using hh
  clear hh
  refine gw_skip (nx_then (sr_ (mv_ rfl (mv_ rfl ?_))))
  refine wl_buildSlice (e := 3) (cs := [.int .i64 0, .int .i64 1, .int .i64 2, .int .i64 2]) rfl (by kernel_rfl) rfl fun g20 => ?_
  refine wl_got (γ := Int) (val := fun v => .int .i64 v) (φ := fun v => v ∈ ([0, 1, 2, 2] : List Int)) rfl cb24 rfl rfl rfl rfl (fun wx hm => (pick_any [0, 1, 2, 2] _ _ _ wx B sb _ hm.k (by omega) (by simp) (by simp) (hm.blkI 0 rfl) (hm.neRow 0 rfl rfl))) fun vp hvp => ?_
  have bvp : 0 ≤ vp ∧ vp ≤ 2 := mem_rng hvp (by decide)
  have bvp0 := bvp.1
  have bvp1 := bvp.2
  clear bvp
  obtain ⟨q, rfl⟩ := Int.eq_ofNat_of_zero_le bvp0
  have hq2 : q ≤ 2 := by omega
  refine wl_ov (ov_sliceHi (hi := q) es27 rfl rfl rfl (by omega)) rfl ?_
  refine sg_ rfl (nn_ ?_)
  refine gw_ret ?_
  refine nx_ret1 rfl rfl fun wx hm => ?_
  have hS := SlT.ofBlk (l := ([⟨⟨#[109, 97, 112]⟩, v2, v4, v6⟩, ⟨⟨#[115, 101, 97, 116]⟩, v8, v10, v12⟩] : List Ex)) ex_len (hm.blkI 1 rfl)
  exact ⟨_, q, 2, ([⟨⟨#[109, 97, 112]⟩, v2, v4, v6⟩, ⟨⟨#[115, 101, 97, 116]⟩, v8, v10, v12⟩] : List Ex).take q, rfl, hS.takeT hq2, ex_two (show (⟨#[109, 97, 112]⟩ : ByteArray).size ≤ 1000000 by decide) (show (⟨#[115, 101, 97, 116]⟩ : ByteArray).size ≤ 1000000 by decide), hq2, hq2, hm.k.more (by omega), hm.g⟩
end Go.Proofs.YtnmpniaocjmkfaaGreatDoor
namespace Go.Proofs.YtnmpniaocjmkfaaGreatDoor
open Go.RowKit
structure Fe where
  a : ByteArray
  b : ByteArray
  cents : Int
def feEnc (x : Fe) : List Value := [.string x.a, .string x.b, .int .i64 x.cents]
theorem fee_len (x : Fe) : (feEnc x).length = 3 := rfl
def FeOk (x : Fe) : Prop := x.a.size ≤ 1000000 ∧ x.b.size ≤ 1000000
def feLt (q r : Fe) : Bool := ltS q.a r.a || (eqS q.a r.a && ltS q.b r.b)
def leFe (p : Option Fe) (x : Fe) : Bool := match p with
  | none => false
  | some q => !feLt q x
def feeE (p : Option Fe) (x : Fe) : Int :=
  if keyB x.a = false then 5 else if keyB x.b = false then 5 else if (x.a.toList == x.b.toList) = true then 14 else
  if leFe p x = true then 7 else if inB x.cents 0 1000000 = false then 1 else 0
def feesE (l : List Fe) : Int := if 500 < l.length then 2 else scanE feeE none l
theorem feesE_ok {l : List Fe} (h : feesE l = 0) : l.length ≤ 500 ∧ ∀ x ∈ l, (x.a.toList == x.b.toList) = false ∧ 0 ≤ x.cents ∧ x.cents ≤ 1000000 := by
  unfold feesE at h
  split at h
  · cases h
  · refine ⟨by omega, fun x hx => ?_⟩
    obtain ⟨q, hq⟩ := scan_each h x hx
    unfold feeE at hq
    repeat (split at hq; · cases hq)
    rename_i h1 h2 h3 h4 h5
    exact ⟨by simpa using h3, inB_iff.1 (by simpa using h5)⟩
theorem cmpS_lt {a b : ByteArray} : (0 ≤ cmpS a b) ↔ ltS a b = false := by
  unfold cmpS ltS
  cases h : Go.Op.bytesLess a.toList b.toList
  · by_cases e : (a.toList == b.toList) = true
    · rw [e]; simp
    · have e : (a.toList == b.toList) = false := by simpa using e
      rw [e]; simp
  · simp
theorem or_fe (q r : Fe) : 0 ≤ firstE [cmpS q.a r.a, cmpS q.b r.b] ↔ feLt q r = false := by
  unfold feLt eqS
  rw [firstE_pair]
  by_cases h : cmpS q.a r.a = 0
  · rw [if_pos h]
    obtain ⟨h1, h2⟩ := cmpS_zero.1 h
    rw [cmpS_lt, h2]
    unfold ltS
    rw [h2, bl_irrefl]; simp
  · rw [if_neg h, cmpS_lt]
    have hne : (q.a.toList == r.a.toList) = false ∨ ltS q.a r.a = true := by
      cases h1 : ltS q.a r.a
      · left
        cases h2 : (q.a.toList == r.a.toList)
        · rfl
        · exact absurd (cmpS_zero.2 ⟨h1, by simpa using h2⟩) h
      · exact .inr rfl
    rcases hne with h1 | h1
    · rw [h1]; simp
    · rw [h1]; simp
theorem lt_fe (q r : Fe) : (Go.Op.bytesLess r.a.toList q.a.toList || (r.a.toList == q.a.toList && (Go.Op.bytesLess r.b.toList q.b.toList || r.b.toList == q.b.toList))) = !feLt q r := by
  have key : ∀ x y : ByteArray, (Go.Op.bytesLess x.toList y.toList || x.toList == y.toList) = !ltS y x := fun x y => by
    unfold ltS
    cases h1 : Go.Op.bytesLess x.toList y.toList
    · cases h2 : Go.Op.bytesLess y.toList x.toList
      · rw [bl_tri h1 h2]; simp
      · have e := bl_ne h2
        have e2 : (x.toList == y.toList) = false := by simpa using fun h => e h.symm
        rw [e2]; rfl
    · rw [bl_asymm h1]; rfl
  unfold feLt eqS
  rw [key r.b q.b]
  unfold ltS
  cases h1 : Go.Op.bytesLess r.a.toList q.a.toList
  · cases h2 : Go.Op.bytesLess q.a.toList r.a.toList
    · rw [bl_tri h1 h2]; simp
    · have e := bl_ne h2
      have e2 : (r.a.toList == q.a.toList) = false := by simpa using fun h => e h.symm
      rw [e2]; simp
  · have e := bl_ne h1
    have e2 : (q.a.toList == r.a.toList) = false := by simpa using fun h => e h.symm
    rw [bl_asymm h1, e2]; simp
theorem ar257 : arrSz Tryz.prog 257 = some (2, 1) := by kernel_rfl
set_option maxRecDepth 100000 in
set_option maxHeartbeats 1000000 in
theorem checkFees_any (l : List Fe) (A : Option Addr) (n c : Nat) (w : World) (hl : SlT feEnc 3 260 w A n l) (hok : ∀ b ∈ l, FeOk b) (hn : n ≤ 1000000) :
  Calls Tryz.prog 105 #[.slice A n c] w (GotE w (feesE l)) := by
 refine gw_enter ⟨64, w, none, []⟩ Tryz.func105 rfl Tryz.ntmps105 rfl (mem0 (X := [SlOld feEnc 3 260 w.heap.size none A n l]) (allF_cons hl.old allF_nil) (allL_cons SlOld.lasts allL_nil)) ?_
 refine sr_ ?_
 have hlen := hl.len
 refine sg_ rfl (nn_ (gw_seq (sr_ (mv_ rfl (wl_ov (ov_len es28 rfl) rfl ?_)))))
 refine wl_ov (ov_gtr rfl rfl) rfl ?_
 refine nn_ ?_
 refine gw_cond rfl (fun hh => ?_) (fun hh => ?_)
 ·have h1 : 500 < ((n : Nat) : Int) := by simpa using hh
  clear hh
  refine sr_ (sg_ rfl (nn_ ?_))
  refine gw_ret ?_
  refine nx_then_ret ?_
  refine nx_ret1 rfl rfl fun wx hm => ?_
  exact ⟨ret_int (by unfold feesE; rw [if_pos (by omega)]), hm.g⟩
 ·have h1 : ¬ (500 < ((n : Nat) : Int)) := by simpa using hh
  clear hh
  refine gw_skip (nx_then (gw_seq (sr_ (mv_ rfl (wl_ov (ov_len es28 rfl) rfl (mv_ rfl (nn_ (gw_block ?_))))))))
  refine gw_loop (γ := Nat) (fun (k : Nat) => k ≤ n ∧ feesE l = scanE feeE (prevOf l k) (l.drop k)) (fun (k : Nat) => [(0, .slice A n c), (8, .slice A n c), (9, .int .i64 ((n : Nat) : Int)), (10, .int .i64 ((k : Nat) : Int))]) (fun (k : Nat) => fun _ => True) (fun (k : Nat) => []) (fun (k : Nat) => []) (fun (k : Nat) => [SlOld feEnc 3 260 w.heap.size none A n l]) (fun (k : Nat) => n - k) 0 ⟨Nat.zero_le _, by unfold feesE; rw [if_neg (by omega)]; rfl⟩ ⟨rfl, rfl, rfl, rfl, trivial⟩ (fun _ hm => hm.pick [] [] [0] rfl rfl) ?_
  intro k hinv
  replace hinv : k ≤ n ∧ feesE l = scanE feeE (prevOf l k) (l.drop k) := hinv
  refine sr_ (wl_ov (ov_lss rfl rfl) rfl (nn_ (gw_seq ?_)))
  refine gw_cond rfl (fun hh => ?_) (fun hh => ?_)
  ·have hk : ((k : Nat) : Int) < ((n : Nat) : Int) := by simpa using hh
   clear hh
   refine gw_skip (nx_then (gw_seq (gw_block (sr_ ?_))))
   obtain ⟨b, off, hA, _, _⟩ := hl.get (by omega)
   subst hA
   obtain ⟨x, hx⟩ : ∃ x, l[k]? = some x := ⟨_, List.getElem?_eq_getElem (by omega)⟩
   obtain ⟨ka, kb, ce⟩ := x
   have hat := scanE_at feeE l k _ hx
   obtain ⟨hs1, hs2⟩ := hok _ (List.mem_of_getElem? hx)
   have hs1 : ka.size ≤ 1000000 := hs1
   have hs2 : kb.size ≤ 1000000 := hs2
   refine mv_ rfl ?_
   refine wl_ov (ov_index (j := k) es28 rfl rfl (by omega)) rfl ?_
   refine wl_ov (ov_elem (vs := [.string ka, .string kb, .int .i64 ce]) rz260 rfl (fun _ hm => (hm.fact 0 rfl).1) hx rfl rfl) rfl ?_
   refine wl_alloc zc260 rfl fun g1 => ?_
   refine sg_ rfl ?_
   refine wl_stores (cs' := [.string ka, .string kb, .int .i64 ce]) 0 rz260 rfl rfl rfl rfl rfl rfl rfl rfl ?_
   refine nn_ (gw_block (sr_ (fd_ fo260_0 rfl rfl (lk_ sc9 0 rfl rfl rfl ?_))))
   refine wl_callw rfl cb137 rfl rfl (fun wx hm => (isKey_any _ wx (by omega))) ?_
   refine wl_ov (ov_un_not rfl) rfl (mv_ rfl ?_)
   rcases Bool.eq_false_or_eq_true (!(keyB ka)) with h2 | h2
   ·refine wl_set 20 rfl (congrArg Value.bool h2) ?_
    have h2 : keyB ka = false := by simpa using h2
    refine goff rfl rfl rfl (goff rfl rfl rfl (goff rfl rfl rfl (goff rfl rfl rfl (pt_ rfl rfl (sg_ rfl (nn_ (ct_ rfl (sr_ (sg_ rfl (nn_ ?_))))))))))
    refine gw_ret ?_
    refine nx_blk_ret (nx_blk_ret (nx_then_ret (nx_then_ret (nx_blk_ret (nx_then_ret ?_)))))
    have hE : feeE (prevOf l k) ⟨ka, kb, ce⟩ = 5 := by unfold feeE leFe; simp [h2]
    refine nx_ret1 rfl rfl fun wx hm => ?_
    exact ⟨ret_int (by rw [hinv.2, hat, if_neg (by rw [hE]; decide), hE]), hm.g⟩
   ·refine wl_set 20 rfl (congrArg Value.bool h2) ?_
    have h2 : keyB ka = true := by simpa using h2
    refine wl_guard_on rfl rfl rfl (fd_ fo260_1 rfl rfl (wl_guard_on rfl rfl rfl (lk_ sc9 0 rfl rfl rfl (wl_guard_on rfl rfl rfl ?_))))
    refine wl_callw rfl cb137 rfl rfl (fun wx hm => (isKey_any _ wx (by omega))) ?_
    refine wl_guard_on rfl rfl rfl (wl_ov (ov_un_not rfl) rfl (pf_ rfl rfl (sg_ rfl (nn_ ?_))))
    refine gw_cond rfl (fun hh => ?_) (fun hh => ?_)
    ·have h3 : (keyB kb) = false := by simpa using hh
     clear hh
     refine sr_ ?_
     have h3 : keyB kb = false := by simpa using h3
     refine sg_ rfl (nn_ ?_)
     refine gw_ret ?_
     refine nx_blk_ret (nx_blk_ret (nx_then_ret (nx_then_ret (nx_blk_ret (nx_then_ret ?_)))))
     have hE : feeE (prevOf l k) ⟨ka, kb, ce⟩ = 5 := by unfold feeE leFe; simp [h2, h3]
     refine nx_ret1 rfl rfl fun wx hm => ?_
     exact ⟨ret_int (by rw [hinv.2, hat, if_neg (by rw [hE]; decide), hE]), hm.g⟩
    ·have h3 : (keyB kb) = true := by simpa using hh
     clear hh
     refine sr_ ?_
     have h3 : keyB kb = true := by simpa using h3
     refine fd_ fo260_0 rfl rfl (lk_ sc9 0 rfl rfl rfl (fd_ fo260_1 rfl rfl (lk_ sc9 0 rfl rfl rfl (wl_ov (ov_seql rfl rfl) rfl (sg_ rfl (nn_ ?_))))))
     refine gw_cond rfl (fun hh => ?_) (fun hh => ?_)
     ·have h4 : (ka.toList == kb.toList) = true := by simpa using hh
      clear hh
      refine sr_ (sg_ rfl (nn_ ?_))
      refine gw_ret ?_
      refine nx_blk_ret (nx_blk_ret (nx_then_ret (nx_then_ret (nx_blk_ret (nx_then_ret ?_)))))
      have hE : feeE (prevOf l k) ⟨ka, kb, ce⟩ = 14 := by unfold feeE leFe; simp [h2, h3, (beq_iff_eq.1 h4)]
      refine nx_ret1 rfl rfl fun wx hm => ?_
      exact ⟨ret_int (by rw [hinv.2, hat, if_neg (by rw [hE]; decide), hE]), hm.g⟩
     ·have h4 : (ka.toList == kb.toList) = false := by simpa using hh
      clear hh
      refine gw_seq ?_
      have h4 : ¬ ka.toList = kb.toList := by simpa using h4
      by_cases hk0 : k = 0
      ·refine gd (fun wz => Blk wz g1 260 [.string ka, .string kb, .int .i64 ce] ∧ (SlOld feEnc 3 260 w.heap.size none (some ⟨b, off, none⟩) n l) wz ∧ True) mixed (fun _ hm => ⟨hm.blkI 0 rfl, hm.fact 0 rfl, trivial⟩) fun z => ?_
       refine wt 0 26 1 rfl z (ov_move rfl) ?_
       refine wt 1 26 3 rfl z (ov_gtr rfl rfl) ?_
       refine wa_set 34 (v' := .bool false) rfl (congrArg Value.bool (decide_eq_false (by omega))) ?_
       refine wt 2 26 7 rfl z (ov_move rfl) ?_
       refine wtf 3 26 15 rfl rfl rfl z ?_
       refine wtf 4 26 31 rfl rfl rfl z ?_
       refine wtf 5 26 63 rfl rfl rfl z ?_
       refine wtf 6 26 127 rfl rfl rfl z ?_
       refine wtf 7 26 255 rfl rfl rfl z ?_
       refine wtf 8 26 511 rfl rfl rfl z ?_
       refine wtf 9 26 1023 rfl rfl rfl z ?_
       refine wtf 10 26 2047 rfl rfl rfl z ?_
       refine wtf 11 26 4095 rfl rfl rfl z ?_
       refine wtf 12 26 8191 rfl rfl rfl z ?_
       refine wtf 13 26 16383 rfl rfl rfl z ?_
       refine wtf 14 26 32767 rfl rfl rfl z ?_
       refine wtf 15 26 65535 rfl rfl rfl z ?_
       refine wtf 16 26 131071 rfl rfl rfl z ?_
       refine wtf 17 26 262143 rfl rfl rfl z ?_
       refine wtf 18 26 524287 rfl rfl rfl z ?_
       refine wtf 19 26 1048575 rfl rfl rfl z ?_
       refine wtf 20 26 2097151 rfl rfl rfl z ?_
       refine wtf 21 26 4194303 rfl rfl rfl z ?_
       refine wtf 22 26 8388607 rfl rfl rfl z ?_
       refine wtf 23 26 16777215 rfl rfl rfl z ?_
       refine wt 24 26 33554431 rfl z (ov_pick_f rfl rfl) ?_
       refine wt 25 26 67108863 rfl z (ov_assign rfl) ?_
       refine wa_done (by kernel_rfl) ?_
       refine nx_then (cf_ rfl (sr_ (fd_ fo260_2 rfl rfl (lk_ sc3 0 rfl rfl rfl ?_))))
       refine wl_callw rfl cb175 rfl rfl (fun wx hm => (in_any _ _ _ wx)) ?_
       refine wl_ov (ov_un_not rfl) rfl (sg_ rfl (nn_ ?_))
       refine gw_cond rfl (fun hh => ?_) (fun hh => ?_)
       ·have h9 : (inB ce 0 1000000) = false := by simpa using hh
        clear hh
        refine sr_ (sg_ rfl (nn_ ?_))
        refine gw_ret ?_
        refine nx_blk_ret (nx_blk_ret (nx_then_ret (nx_then_ret (nx_blk_ret (nx_then_ret ?_)))))
        have hE : feeE (prevOf l k) ⟨ka, kb, ce⟩ = 1 := by unfold feeE leFe; rw [pv_zero hk0]; simp [h2, h3, h4, h9]
        refine nx_ret1 rfl rfl fun wx hm => ?_
        exact ⟨ret_int (by rw [hinv.2, hat, if_neg (by rw [hE]; decide), hE]), hm.g⟩
       ·have h9 : (inB ce 0 1000000) = true := by simpa using hh
        clear hh
        refine gw_skip (nx_blk_nrm (nx_blk_nrm (nx_then (gw_region ?_))))
        have hE : feeE (prevOf l k) ⟨ka, kb, ce⟩ = 0 := by unfold feeE leFe; rw [pv_zero hk0]; simp [h2, h3, h4, h9]
        refine ad_ rfl rfl (mv_ rfl (wl_nil ?_))
        exact nx_round (k + 1) ⟨by omega, by rw [hinv.2, hat, if_pos hE]⟩ (by omega) ⟨rfl, rfl, rfl, (some_int (by omega)), trivial⟩ (fun _ hm => hm.pick [] [] [0] rfl rfl)
      ·obtain ⟨y, hy⟩ : ∃ x, l[k - 1]? = some x := ⟨_, List.getElem?_eq_getElem (by omega)⟩
       obtain ⟨p0, p1, p2⟩ := y
       have hpv := pv_pos hk0 hy
       refine gd (fun wz => Blk wz g1 260 [.string ka, .string kb, .int .i64 ce] ∧ (SlOld feEnc 3 260 w.heap.size none (some ⟨b, off, none⟩) n l) wz ∧ True) mixed (fun _ hm => ⟨hm.blkI 0 rfl, hm.fact 0 rfl, trivial⟩) fun z => ?_
       refine wt 0 26 1 rfl z (ov_move rfl) ?_
       refine wt 1 26 3 rfl z (ov_gtr rfl rfl) ?_
       refine wa_set 34 (v' := .bool true) rfl (congrArg Value.bool (decide_eq_true (by omega))) ?_
       refine wt 2 26 7 rfl z (ov_move rfl) ?_
       refine wto 3 26 15 rfl rfl rfl z (ov_move rfl) ?_
       refine wto 4 26 31 rfl rfl rfl z (ov_move rfl) ?_
       refine wto 5 26 63 rfl rfl rfl z (ov_sub rfl rfl (by omega) (by omega)) ?_
       refine wa_set 38 (v' := .int .i64 ((k - 1 : Nat) : Int)) rfl (congrArg (Value.int .i64) (by omega)) ?_
       refine wto 6 26 127 rfl rfl rfl z (ov_index (j := k - 1) es28 rfl rfl (by omega)) ?_
       refine wto 7 26 255 rfl rfl rfl z (ov_field fo260_0 rfl rfl) ?_
       refine wto 8 26 511 rfl rfl rfl z (ov_elem1 (k := 0) (v := .string p0) sc9 rfl (fun _ hm => (hm.2.1).1) hy rfl rfl) ?_
       refine wto 9 26 1023 rfl rfl rfl z (ov_field fo260_0 rfl rfl) ?_
       refine wto 10 26 2047 rfl rfl rfl z (ov_load sc9 rfl (fun _ hm => hm.1) rfl) ?_
       refine wto 12 26 6143 rfl rfl rfl z (ov_move rfl) ?_
       refine wto 13 26 14335 rfl rfl rfl z (ov_move rfl) ?_
       refine wto 14 26 30719 rfl rfl rfl z (ov_sub rfl rfl (by omega) (by omega)) ?_
       refine wa_set 47 (v' := .int .i64 ((k - 1 : Nat) : Int)) rfl (congrArg (Value.int .i64) (by omega)) ?_
       refine wto 15 26 63487 rfl rfl rfl z (ov_index (j := k - 1) es28 rfl rfl (by omega)) ?_
       refine wto 16 26 129023 rfl rfl rfl z (ov_field fo260_1 rfl rfl) ?_
       refine wto 17 26 260095 rfl rfl rfl z (ov_elem1 (k := 1) (v := .string p1) sc9 rfl (fun _ hm => (hm.2.1).1) hy rfl rfl) ?_
       refine wto 18 26 522239 rfl rfl rfl z (ov_field fo260_1 rfl rfl) ?_
       refine wto 19 26 1046527 rfl rfl rfl z (ov_load sc9 rfl (fun _ hm => hm.1) rfl) ?_
       refine wa1 11 rfl ?_
       refine wl_guard_on rfl rfl rfl ?_
       refine wl_callv rfl cb154 rfl rfl (fun wx hm => (cmp_string _ _ wx)) ?_
       refine wl_nil ?_
       refine nw 26 1048575 (fun _ hm => ⟨hm.blkI 0 rfl, hm.fact 0 rfl, trivial⟩) fun z => ?_
       refine wa1 20 rfl ?_
       refine wl_guard_on rfl rfl rfl ?_
       refine wl_callv rfl cb154 rfl rfl (fun wx hm => (cmp_string _ _ wx)) ?_
       refine wl_nil ?_
       refine nw 26 2097151 (fun _ hm => ⟨hm.blkI 0 rfl, hm.fact 0 rfl, trivial⟩) fun z => ?_
       refine wa1 21 rfl ?_
       refine wl_guard_on rfl rfl rfl ?_
       refine wl_buildSlice (e := 3) (cs := [.int .i64 (cmpS p0 ka), .int .i64 (cmpS p1 kb)]) rfl (by kernel_rfl) rfl fun g2 => ?_
       refine wl_nil ?_
       refine nw 26 4194303 (fun _ hm => ⟨hm.blkI 1 rfl, hm.fact 0 rfl, trivial⟩) fun z => ?_
       refine wa1 22 rfl ?_
       refine wl_guard_on rfl rfl rfl ?_
       refine wl_callv rfl cb152 rfl rfl (fun wx hm => (or_two _ _ _ _ _ wx (hm.blkI 0 rfl))) ?_
       refine wl_nil ?_
       refine nw 26 8388607 (fun _ hm => ⟨hm.blkI 1 rfl, hm.fact 0 rfl, trivial⟩) fun z => ?_
       refine wto 23 26 16777215 rfl rfl rfl z (ov_geq rfl rfl) ?_
       refine wt 24 26 33554431 rfl z (ov_pick_t rfl rfl) ?_
       refine wt 25 26 67108863 rfl z (ov_assign rfl) ?_
       refine wa_done (by kernel_rfl) ?_
       refine nx_then ?_
       refine gw_cond rfl (fun hh => ?_) (fun hh => ?_)
       ·have h8 : 0 ≤ firstE [cmpS p0 ka, cmpS p1 kb] := by simpa using hh
        clear hh
        refine sr_ ?_
        have h8 : feLt ⟨p0, p1, p2⟩ ⟨ka, kb, ce⟩ = false := (or_fe ⟨p0, p1, p2⟩ ⟨ka, kb, ce⟩).1 h8
        refine sg_ rfl (nn_ ?_)
        refine gw_ret ?_
        refine nx_blk_ret (nx_blk_ret (nx_then_ret (nx_then_ret (nx_blk_ret (nx_then_ret ?_)))))
        have hE : feeE (prevOf l k) ⟨ka, kb, ce⟩ = 7 := by unfold feeE leFe; rw [hpv]; simp [h2, h3, h4, h8]
        refine nx_ret1 rfl rfl fun wx hm => ?_
        exact ⟨ret_int (by rw [hinv.2, hat, if_neg (by rw [hE]; decide), hE]), hm.g⟩
       ·have h8 : ¬ (0 ≤ firstE [cmpS p0 ka, cmpS p1 kb]) := by simpa using hh
        clear hh
        refine sr_ ?_
        have h8 : feLt ⟨p0, p1, p2⟩ ⟨ka, kb, ce⟩ = true := by
         cases h : feLt ⟨p0, p1, p2⟩ ⟨ka, kb, ce⟩
         ·exact absurd ((or_fe ⟨p0, p1, p2⟩ ⟨ka, kb, ce⟩).2 h) h8
         ·rfl
        refine fd_ fo260_2 rfl rfl (lk_ sc3 1 rfl rfl rfl ?_)
        refine wl_callw rfl cb175 rfl rfl (fun wx hm => (in_any _ _ _ wx)) ?_
        refine wl_ov (ov_un_not rfl) rfl (sg_ rfl (nn_ ?_))
        refine gw_cond rfl (fun hh => ?_) (fun hh => ?_)
        ·have h9 : (inB ce 0 1000000) = false := by simpa using hh
         clear hh
         refine sr_ (sg_ rfl (nn_ ?_))
         refine gw_ret ?_
         refine nx_blk_ret (nx_blk_ret (nx_then_ret (nx_then_ret (nx_blk_ret (nx_then_ret ?_)))))
         have hE : feeE (prevOf l k) ⟨ka, kb, ce⟩ = 1 := by unfold feeE leFe; rw [hpv]; simp [h2, h3, h4, h8, h9]
         refine nx_ret1 rfl rfl fun wx hm => ?_
         exact ⟨ret_int (by rw [hinv.2, hat, if_neg (by rw [hE]; decide), hE]), hm.g⟩
        ·have h9 : (inB ce 0 1000000) = true := by simpa using hh
         clear hh
         refine gw_skip (nx_blk_nrm (nx_blk_nrm (nx_then (gw_region ?_))))
         have hE : feeE (prevOf l k) ⟨ka, kb, ce⟩ = 0 := by unfold feeE leFe; rw [hpv]; simp [h2, h3, h4, h8, h9]
         refine ad_ rfl rfl (mv_ rfl (wl_nil ?_))
         exact nx_round (k + 1) ⟨by omega, by rw [hinv.2, hat, if_pos hE]⟩ (by omega) ⟨rfl, rfl, rfl, (some_int (by omega)), trivial⟩ (fun _ hm => hm.pick [] [] [0] rfl rfl)
  ·have hk : ¬ (((k : Nat) : Int) < ((n : Nat) : Int)) := by simpa using hh
   clear hh
   refine gw_exit ?_
   refine nx_then_exit (nx_then_exit ?_)
   refine nx_blk_here ?_
   refine nx_then (sr_ (sg_ rfl (nn_ ?_)))
   refine gw_ret ?_
   refine nx_ret1 rfl rfl fun wx hm => ?_
   exact ⟨ret_int (by rw [hinv.2, scanE_end _ _ _ _ (by omega)]), hm.g⟩
set_option maxRecDepth 100000 in
set_option maxHeartbeats 1000000 in
theorem feesFault_any (l : List Fe) (A : Option Addr) (n c : Nat) (w : World) (hl : SlT feEnc 3 260 w A n l) (hok : ∀ b ∈ l, FeOk b) (hn : n ≤ 1000000) :
  Calls Tryz.prog 99 #[.slice A n c] w (GotE w (feesE l)) := by
 refine gw_enter ⟨74, w, none, []⟩ Tryz.func99 rfl Tryz.ntmps99 rfl (mem0 (X := [SlOld feEnc 3 260 w.heap.size none A n l]) (allF_cons hl.old allF_nil) (allL_cons SlOld.lasts allL_nil)) ?_
 refine sr_ ?_
 have hlen := hl.len
 refine sg_ rfl (nn_ (gw_seq (sr_ (mv_ rfl (wl_ov (ov_len es28 rfl) rfl ?_)))))
 refine wl_ov (ov_gtr rfl rfl) rfl ?_
 refine nn_ ?_
 refine gw_cond rfl (fun hh => ?_) (fun hh => ?_)
 ·have h1 : 500 < ((n : Nat) : Int) := by simpa using hh
  clear hh
  refine sr_ (sg_ rfl (nn_ ?_))
  refine gw_ret ?_
  refine nx_then_ret ?_
  refine nx_ret1 rfl rfl fun wx hm => ?_
  exact ⟨ret_int (by unfold feesE; rw [if_pos (by omega)]), hm.g⟩
 ·have h1 : ¬ (500 < ((n : Nat) : Int)) := by simpa using hh
  clear hh
  refine gw_skip (nx_then (gw_seq (sr_ (mv_ rfl (wl_ov (ov_len es28 rfl) rfl (mv_ rfl (nn_ (gw_block ?_))))))))
  refine gw_loop (γ := Nat) (fun (k : Nat) => k ≤ n ∧ feesE l = scanE feeE (prevOf l k) (l.drop k)) (fun (k : Nat) => [(0, .slice A n c), (8, .slice A n c), (9, .int .i64 ((n : Nat) : Int)), (10, .int .i64 ((k : Nat) : Int))]) (fun (k : Nat) => fun _ => True) (fun (k : Nat) => []) (fun (k : Nat) => []) (fun (k : Nat) => [SlOld feEnc 3 260 w.heap.size none A n l]) (fun (k : Nat) => n - k) 0 ⟨Nat.zero_le _, by unfold feesE; rw [if_neg (by omega)]; rfl⟩ ⟨rfl, rfl, rfl, rfl, trivial⟩ (fun _ hm => hm.pick [] [] [0] rfl rfl) ?_
  intro k hinv
  replace hinv : k ≤ n ∧ feesE l = scanE feeE (prevOf l k) (l.drop k) := hinv
  refine sr_ (wl_ov (ov_lss rfl rfl) rfl (nn_ (gw_seq ?_)))
  refine gw_cond rfl (fun hh => ?_) (fun hh => ?_)
  ·have hk : ((k : Nat) : Int) < ((n : Nat) : Int) := by simpa using hh
   clear hh
   refine gw_skip (nx_then (gw_seq (gw_block (sr_ ?_))))
   obtain ⟨b, off, hA, _, _⟩ := hl.get (by omega)
   subst hA
   obtain ⟨x, hx⟩ : ∃ x, l[k]? = some x := ⟨_, List.getElem?_eq_getElem (by omega)⟩
   obtain ⟨ka, kb, ce⟩ := x
   have hat := scanE_at feeE l k _ hx
   obtain ⟨hs1, hs2⟩ := hok _ (List.mem_of_getElem? hx)
   have hs1 : ka.size ≤ 1000000 := hs1
   have hs2 : kb.size ≤ 1000000 := hs2
   refine mv_ rfl ?_
   refine wl_ov (ov_index (j := k) es28 rfl rfl (by omega)) rfl ?_
   refine wl_ov (ov_elem (vs := [.string ka, .string kb, .int .i64 ce]) rz260 rfl (fun _ hm => (hm.fact 0 rfl).1) hx rfl rfl) rfl ?_
   refine wl_alloc zc260 rfl fun g1 => ?_
   refine sg_ rfl ?_
   refine wl_stores (cs' := [.string ka, .string kb, .int .i64 ce]) 0 rz260 rfl rfl rfl rfl rfl rfl rfl rfl ?_
   refine nn_ (gw_block (sr_ (fd_ fo260_0 rfl rfl (lk_ sc9 0 rfl rfl rfl ?_))))
   refine wl_callv rfl cb108 rfl rfl (fun wx hm => (key_any _ wx (by omega))) ?_
   refine wl_ov (ov_un_not rfl) rfl (mv_ rfl ?_)
   rcases Bool.eq_false_or_eq_true (!(keyB ka)) with h2 | h2
   ·refine wl_set 20 rfl (congrArg Value.bool h2) ?_
    have h2 : keyB ka = false := by simpa using h2
    refine goff rfl rfl rfl (goff rfl rfl rfl (goff rfl rfl rfl (goff rfl rfl rfl (pt_ rfl rfl (sg_ rfl (nn_ (ct_ rfl (sr_ (sg_ rfl (nn_ ?_))))))))))
    refine gw_ret ?_
    refine nx_blk_ret (nx_blk_ret (nx_then_ret (nx_then_ret (nx_blk_ret (nx_then_ret ?_)))))
    have hE : feeE (prevOf l k) ⟨ka, kb, ce⟩ = 5 := by unfold feeE leFe; simp [h2]
    refine nx_ret1 rfl rfl fun wx hm => ?_
    exact ⟨ret_int (by rw [hinv.2, hat, if_neg (by rw [hE]; decide), hE]), hm.g⟩
   ·refine wl_set 20 rfl (congrArg Value.bool h2) ?_
    have h2 : keyB ka = true := by simpa using h2
    refine wl_guard_on rfl rfl rfl (fd_ fo260_1 rfl rfl (wl_guard_on rfl rfl rfl (lk_ sc9 0 rfl rfl rfl (wl_guard_on rfl rfl rfl ?_))))
    refine wl_callv rfl cb108 rfl rfl (fun wx hm => (key_any _ wx (by omega))) ?_
    refine wl_guard_on rfl rfl rfl (wl_ov (ov_un_not rfl) rfl (pf_ rfl rfl (sg_ rfl (nn_ ?_))))
    refine gw_cond rfl (fun hh => ?_) (fun hh => ?_)
    ·have h3 : (keyB kb) = false := by simpa using hh
     clear hh
     refine sr_ ?_
     have h3 : keyB kb = false := by simpa using h3
     refine sg_ rfl (nn_ ?_)
     refine gw_ret ?_
     refine nx_blk_ret (nx_blk_ret (nx_then_ret (nx_then_ret (nx_blk_ret (nx_then_ret ?_)))))
     have hE : feeE (prevOf l k) ⟨ka, kb, ce⟩ = 5 := by unfold feeE leFe; simp [h2, h3]
     refine nx_ret1 rfl rfl fun wx hm => ?_
     exact ⟨ret_int (by rw [hinv.2, hat, if_neg (by rw [hE]; decide), hE]), hm.g⟩
    ·have h3 : (keyB kb) = true := by simpa using hh
     clear hh
     refine sr_ ?_
     have h3 : keyB kb = true := by simpa using h3
     refine fd_ fo260_0 rfl rfl (lk_ sc9 0 rfl rfl rfl (fd_ fo260_1 rfl rfl (lk_ sc9 0 rfl rfl rfl (wl_ov (ov_seql rfl rfl) rfl (sg_ rfl (nn_ ?_))))))
     refine gw_cond rfl (fun hh => ?_) (fun hh => ?_)
     ·have h4 : (ka.toList == kb.toList) = true := by simpa using hh
      clear hh
      refine sr_ (sg_ rfl (nn_ ?_))
      refine gw_ret ?_
      refine nx_blk_ret (nx_blk_ret (nx_then_ret (nx_then_ret (nx_blk_ret (nx_then_ret ?_)))))
      have hE : feeE (prevOf l k) ⟨ka, kb, ce⟩ = 14 := by unfold feeE leFe; simp [h2, h3, (beq_iff_eq.1 h4)]
      refine nx_ret1 rfl rfl fun wx hm => ?_
      exact ⟨ret_int (by rw [hinv.2, hat, if_neg (by rw [hE]; decide), hE]), hm.g⟩
     ·have h4 : (ka.toList == kb.toList) = false := by simpa using hh
      clear hh
      refine gw_seq ?_
      have h4 : ¬ ka.toList = kb.toList := by simpa using h4
      by_cases hk0 : k = 0
      ·refine gd (fun wz => Blk wz g1 260 [.string ka, .string kb, .int .i64 ce] ∧ (SlOld feEnc 3 260 w.heap.size none (some ⟨b, off, none⟩) n l) wz ∧ True) mixed (fun _ hm => ⟨hm.blkI 0 rfl, hm.fact 0 rfl, trivial⟩) fun z => ?_
       refine wt 0 36 1 rfl z (ov_move rfl) ?_
       refine wt 1 36 3 rfl z (ov_gtr rfl rfl) ?_
       refine wa_set 34 (v' := .bool false) rfl (congrArg Value.bool (decide_eq_false (by omega))) ?_
       refine wt 2 36 7 rfl z (ov_move rfl) ?_
       refine wtf 3 36 15 rfl rfl rfl z ?_
       refine wtf 4 36 31 rfl rfl rfl z ?_
       refine wtf 5 36 63 rfl rfl rfl z ?_
       refine wtf 6 36 127 rfl rfl rfl z ?_
       refine wtf 7 36 255 rfl rfl rfl z ?_
       refine wtf 8 36 511 rfl rfl rfl z ?_
       refine wtf 9 36 1023 rfl rfl rfl z ?_
       refine wtf 10 36 2047 rfl rfl rfl z ?_
       refine wtf 11 36 4095 rfl rfl rfl z ?_
       refine wtf 12 36 8191 rfl rfl rfl z ?_
       refine wtu 13 36 16383 rfl rfl rfl z ?_
       refine wtu 14 36 32767 rfl rfl rfl z ?_
       refine wtu 15 36 65535 rfl rfl rfl z ?_
       refine wtu 16 36 131071 rfl rfl rfl z ?_
       refine wtu 17 36 262143 rfl rfl rfl z ?_
       refine wtu 18 36 524287 rfl rfl rfl z ?_
       refine wtu 19 36 1048575 rfl rfl rfl z ?_
       refine wtu 20 36 2097151 rfl rfl rfl z ?_
       refine wtu 21 36 4194303 rfl rfl rfl z ?_
       refine wtu 22 36 8388607 rfl rfl rfl z ?_
       refine wtu 23 36 16777215 rfl rfl rfl z ?_
       refine wtu 24 36 33554431 rfl rfl rfl z ?_
       refine wtu 25 36 67108863 rfl rfl rfl z ?_
       refine wtu 26 36 134217727 rfl rfl rfl z ?_
       refine wtu 27 36 268435455 rfl rfl rfl z ?_
       refine wtu 28 36 536870911 rfl rfl rfl z ?_
       refine wtu 29 36 1073741823 rfl rfl rfl z ?_
       refine wtu 30 36 2147483647 rfl rfl rfl z ?_
       refine wtu 31 36 4294967295 rfl rfl rfl z ?_
       refine wtu 32 36 8589934591 rfl rfl rfl z ?_
       refine wtf 33 36 17179869183 rfl rfl rfl z ?_
       refine wt 34 36 34359738367 rfl z (ov_pick_f rfl rfl) ?_
       refine wt 35 36 68719476735 rfl z (ov_assign rfl) ?_
       refine wa_done (by kernel_rfl) ?_
       refine nx_then (cf_ rfl (sr_ (fd_ fo260_2 rfl rfl (lk_ sc3 0 rfl rfl rfl ?_))))
       refine wl_callw rfl cb133 rfl rfl (fun wx hm => (rin_any _ _ _ wx)) ?_
       refine wl_ov (ov_un_not rfl) rfl (sg_ rfl (nn_ ?_))
       refine gw_cond rfl (fun hh => ?_) (fun hh => ?_)
       ·have h9 : (inB ce 0 1000000) = false := by simpa using hh
        clear hh
        refine sr_ (sg_ rfl (nn_ ?_))
        refine gw_ret ?_
        refine nx_blk_ret (nx_blk_ret (nx_then_ret (nx_then_ret (nx_blk_ret (nx_then_ret ?_)))))
        have hE : feeE (prevOf l k) ⟨ka, kb, ce⟩ = 1 := by unfold feeE leFe; rw [pv_zero hk0]; simp [h2, h3, h4, h9]
        refine nx_ret1 rfl rfl fun wx hm => ?_
        exact ⟨ret_int (by rw [hinv.2, hat, if_neg (by rw [hE]; decide), hE]), hm.g⟩
       ·have h9 : (inB ce 0 1000000) = true := by simpa using hh
        clear hh
        refine gw_skip (nx_blk_nrm (nx_blk_nrm (nx_then (gw_region ?_))))
        have hE : feeE (prevOf l k) ⟨ka, kb, ce⟩ = 0 := by unfold feeE leFe; rw [pv_zero hk0]; simp [h2, h3, h4, h9]
        refine ad_ rfl rfl (mv_ rfl (wl_nil ?_))
        exact nx_round (k + 1) ⟨by omega, by rw [hinv.2, hat, if_pos hE]⟩ (by omega) ⟨rfl, rfl, rfl, (some_int (by omega)), trivial⟩ (fun _ hm => hm.pick [] [] [0] rfl rfl)
      ·obtain ⟨y, hy⟩ : ∃ x, l[k - 1]? = some x := ⟨_, List.getElem?_eq_getElem (by omega)⟩
       obtain ⟨p0, p1, p2⟩ := y
       have hpv := pv_pos hk0 hy
       refine gd (fun wz => Blk wz g1 260 [.string ka, .string kb, .int .i64 ce] ∧ (SlOld feEnc 3 260 w.heap.size none (some ⟨b, off, none⟩) n l) wz ∧ True) mixed (fun _ hm => ⟨hm.blkI 0 rfl, hm.fact 0 rfl, trivial⟩) fun z => ?_
       refine wt 0 36 1 rfl z (ov_move rfl) ?_
       refine wt 1 36 3 rfl z (ov_gtr rfl rfl) ?_
       refine wa_set 34 (v' := .bool true) rfl (congrArg Value.bool (decide_eq_true (by omega))) ?_
       refine wt 2 36 7 rfl z (ov_move rfl) ?_
       refine wto 3 36 15 rfl rfl rfl z (ov_field fo260_0 rfl rfl) ?_
       refine wto 4 36 31 rfl rfl rfl z (ov_load sc9 rfl (fun _ hm => hm.1) rfl) ?_
       refine wto 5 36 63 rfl rfl rfl z (ov_move rfl) ?_
       refine wto 6 36 127 rfl rfl rfl z (ov_move rfl) ?_
       refine wto 7 36 255 rfl rfl rfl z (ov_sub rfl rfl (by omega) (by omega)) ?_
       refine wa_set 40 (v' := .int .i64 ((k - 1 : Nat) : Int)) rfl (congrArg (Value.int .i64) (by omega)) ?_
       refine wto 8 36 511 rfl rfl rfl z (ov_index (j := k - 1) es28 rfl rfl (by omega)) ?_
       refine wto 9 36 1023 rfl rfl rfl z (ov_field fo260_0 rfl rfl) ?_
       refine wto 10 36 2047 rfl rfl rfl z (ov_elem1 (k := 0) (v := .string p0) sc9 rfl (fun _ hm => (hm.2.1).1) hy rfl rfl) ?_
       refine wto 11 36 4095 rfl rfl rfl z (ov_slss rfl rfl) ?_
       refine wto 12 36 8191 rfl rfl rfl z (ov_move rfl) ?_
       rcases Bool.eq_false_or_eq_true (Op.bytesLess ka.toList p0.toList) with h5 | h5
       ·refine wa_set 45 rfl (congrArg Value.bool h5) ?_
        have h8 : feLt ⟨p0, p1, p2⟩ ⟨ka, kb, ce⟩ = false := by have h := lt_fe ⟨p0, p1, p2⟩ ⟨ka, kb, ce⟩; simp only at h; rw [h5] at h; simpa using h.symm
        refine wtf 13 36 16383 rfl rfl rfl z ?_
        refine wtf 14 36 32767 rfl rfl rfl z ?_
        refine wtf 15 36 65535 rfl rfl rfl z ?_
        refine wtf 16 36 131071 rfl rfl rfl z ?_
        refine wtf 17 36 262143 rfl rfl rfl z ?_
        refine wtf 18 36 524287 rfl rfl rfl z ?_
        refine wtf 19 36 1048575 rfl rfl rfl z ?_
        refine wtf 20 36 2097151 rfl rfl rfl z ?_
        refine wtf 21 36 4194303 rfl rfl rfl z ?_
        refine wtf 22 36 8388607 rfl rfl rfl z ?_
        refine wtu 23 36 16777215 rfl rfl rfl z ?_
        refine wtu 24 36 33554431 rfl rfl rfl z ?_
        refine wtu 25 36 67108863 rfl rfl rfl z ?_
        refine wtu 26 36 134217727 rfl rfl rfl z ?_
        refine wtu 27 36 268435455 rfl rfl rfl z ?_
        refine wtu 28 36 536870911 rfl rfl rfl z ?_
        refine wtu 29 36 1073741823 rfl rfl rfl z ?_
        refine wtu 30 36 2147483647 rfl rfl rfl z ?_
        refine wtu 31 36 4294967295 rfl rfl rfl z ?_
        refine wtf 32 36 8589934591 rfl rfl rfl z ?_
        refine wto 33 36 17179869183 rfl rfl rfl z (ov_pick_t rfl rfl) ?_
        refine wt 34 36 34359738367 rfl z (ov_pick_t rfl rfl) ?_
        refine wt 35 36 68719476735 rfl z (ov_assign rfl) ?_
        refine wa_done (by kernel_rfl) ?_
        refine nx_then (ct_ rfl (sr_ (sg_ rfl (nn_ ?_))))
        refine gw_ret ?_
        refine nx_blk_ret (nx_blk_ret (nx_then_ret (nx_then_ret (nx_blk_ret (nx_then_ret ?_)))))
        have hE : feeE (prevOf l k) ⟨ka, kb, ce⟩ = 7 := by unfold feeE leFe; rw [hpv]; simp [h2, h3, h4, h8]
        refine nx_ret1 rfl rfl fun wx hm => ?_
        exact ⟨ret_int (by rw [hinv.2, hat, if_neg (by rw [hE]; decide), hE]), hm.g⟩
       ·refine wa_set 45 rfl (congrArg Value.bool h5) ?_
        refine wto 13 36 16383 rfl rfl rfl z (ov_field fo260_0 rfl rfl) ?_
        refine wto 14 36 32767 rfl rfl rfl z (ov_load sc9 rfl (fun _ hm => hm.1) rfl) ?_
        refine wto 15 36 65535 rfl rfl rfl z (ov_move rfl) ?_
        refine wto 16 36 131071 rfl rfl rfl z (ov_move rfl) ?_
        refine wto 17 36 262143 rfl rfl rfl z (ov_sub rfl rfl (by omega) (by omega)) ?_
        refine wa_set 50 (v' := .int .i64 ((k - 1 : Nat) : Int)) rfl (congrArg (Value.int .i64) (by omega)) ?_
        refine wto 18 36 524287 rfl rfl rfl z (ov_index (j := k - 1) es28 rfl rfl (by omega)) ?_
        refine wto 19 36 1048575 rfl rfl rfl z (ov_field fo260_0 rfl rfl) ?_
        refine wto 20 36 2097151 rfl rfl rfl z (ov_elem1 (k := 0) (v := .string p0) sc9 rfl (fun _ hm => (hm.2.1).1) hy rfl rfl) ?_
        refine wto 21 36 4194303 rfl rfl rfl z (ov_seql rfl rfl) ?_
        refine wto 22 36 8388607 rfl rfl rfl z (ov_move rfl) ?_
        rcases Bool.eq_false_or_eq_true (ka.toList == p0.toList) with h6 | h6
        ·refine wa_set 55 rfl (congrArg Value.bool h6) ?_
         refine wto 23 36 16777215 rfl rfl rfl z (ov_field fo260_1 rfl rfl) ?_
         refine wto 24 36 33554431 rfl rfl rfl z (ov_load sc9 rfl (fun _ hm => hm.1) rfl) ?_
         refine wto 25 36 67108863 rfl rfl rfl z (ov_move rfl) ?_
         refine wto 26 36 134217727 rfl rfl rfl z (ov_move rfl) ?_
         refine wto 27 36 268435455 rfl rfl rfl z (ov_sub rfl rfl (by omega) (by omega)) ?_
         refine wa_set 60 (v' := .int .i64 ((k - 1 : Nat) : Int)) rfl (congrArg (Value.int .i64) (by omega)) ?_
         refine wto 28 36 536870911 rfl rfl rfl z (ov_index (j := k - 1) es28 rfl rfl (by omega)) ?_
         refine wto 29 36 1073741823 rfl rfl rfl z (ov_field fo260_1 rfl rfl) ?_
         refine wto 30 36 2147483647 rfl rfl rfl z (ov_elem1 (k := 1) (v := .string p1) sc9 rfl (fun _ hm => (hm.2.1).1) hy rfl rfl) ?_
         refine wto 31 36 4294967295 rfl rfl rfl z (ov_sleq rfl rfl) ?_
         refine wto 32 36 8589934591 rfl rfl rfl z (ov_pick_t rfl rfl) ?_
         refine wto 33 36 17179869183 rfl rfl rfl z (ov_pick_f rfl rfl) ?_
         refine wt 34 36 34359738367 rfl z (ov_pick_t rfl rfl) ?_
         refine wt 35 36 68719476735 rfl z (ov_assign rfl) ?_
         refine wa_done (by kernel_rfl) ?_
         refine nx_then ?_
         refine gw_cond rfl (fun hh => ?_) (fun hh => ?_)
         ·have h7 : (Op.bytesLess kb.toList p1.toList || kb.toList == p1.toList) = true := by simpa using hh
          clear hh
          refine sr_ ?_
          have h8 : feLt ⟨p0, p1, p2⟩ ⟨ka, kb, ce⟩ = false := by have h := lt_fe ⟨p0, p1, p2⟩ ⟨ka, kb, ce⟩; simp only at h; rw [h5, h6, h7] at h; simpa using h.symm
          refine sg_ rfl (nn_ ?_)
          refine gw_ret ?_
          refine nx_blk_ret (nx_blk_ret (nx_then_ret (nx_then_ret (nx_blk_ret (nx_then_ret ?_)))))
          have hE : feeE (prevOf l k) ⟨ka, kb, ce⟩ = 7 := by unfold feeE leFe; rw [hpv]; simp [h2, h3, h4, h8]
          refine nx_ret1 rfl rfl fun wx hm => ?_
          exact ⟨ret_int (by rw [hinv.2, hat, if_neg (by rw [hE]; decide), hE]), hm.g⟩
         ·have h7 : (Op.bytesLess kb.toList p1.toList || kb.toList == p1.toList) = false := by simpa using hh
          clear hh
          refine sr_ ?_
          have h8 : feLt ⟨p0, p1, p2⟩ ⟨ka, kb, ce⟩ = true := by have h := lt_fe ⟨p0, p1, p2⟩ ⟨ka, kb, ce⟩; simp only at h; rw [h5, h6, h7] at h; simpa using h.symm
          refine fd_ fo260_2 rfl rfl (lk_ sc3 0 rfl rfl rfl ?_)
          refine wl_callw rfl cb133 rfl rfl (fun wx hm => (rin_any _ _ _ wx)) ?_
          refine wl_ov (ov_un_not rfl) rfl (sg_ rfl (nn_ ?_))
          refine gw_cond rfl (fun hh => ?_) (fun hh => ?_)
          ·have h9 : (inB ce 0 1000000) = false := by simpa using hh
           clear hh
           refine sr_ (sg_ rfl (nn_ ?_))
           refine gw_ret ?_
           refine nx_blk_ret (nx_blk_ret (nx_then_ret (nx_then_ret (nx_blk_ret (nx_then_ret ?_)))))
           have hE : feeE (prevOf l k) ⟨ka, kb, ce⟩ = 1 := by unfold feeE leFe; rw [hpv]; simp [h2, h3, h4, h8, h9]
           refine nx_ret1 rfl rfl fun wx hm => ?_
           exact ⟨ret_int (by rw [hinv.2, hat, if_neg (by rw [hE]; decide), hE]), hm.g⟩
          ·have h9 : (inB ce 0 1000000) = true := by simpa using hh
           clear hh
           refine gw_skip (nx_blk_nrm (nx_blk_nrm (nx_then (gw_region ?_))))
           have hE : feeE (prevOf l k) ⟨ka, kb, ce⟩ = 0 := by unfold feeE leFe; rw [hpv]; simp [h2, h3, h4, h8, h9]
           refine ad_ rfl rfl (mv_ rfl (wl_nil ?_))
           exact nx_round (k + 1) ⟨by omega, by rw [hinv.2, hat, if_pos hE]⟩ (by omega) ⟨rfl, rfl, rfl, (some_int (by omega)), trivial⟩ (fun _ hm => hm.pick [] [] [0] rfl rfl)
        ·refine wa_set 55 rfl (congrArg Value.bool h6) ?_
         have h8 : feLt ⟨p0, p1, p2⟩ ⟨ka, kb, ce⟩ = true := by have h := lt_fe ⟨p0, p1, p2⟩ ⟨ka, kb, ce⟩; simp only at h; rw [h5, h6] at h; simpa using h.symm
         refine wtf 23 36 16777215 rfl rfl rfl z ?_
         refine wtf 24 36 33554431 rfl rfl rfl z ?_
         refine wtf 25 36 67108863 rfl rfl rfl z ?_
         refine wtf 26 36 134217727 rfl rfl rfl z ?_
         refine wtf 27 36 268435455 rfl rfl rfl z ?_
         refine wtf 28 36 536870911 rfl rfl rfl z ?_
         refine wtf 29 36 1073741823 rfl rfl rfl z ?_
         refine wtf 30 36 2147483647 rfl rfl rfl z ?_
         refine wtf 31 36 4294967295 rfl rfl rfl z ?_
         refine wto 32 36 8589934591 rfl rfl rfl z (ov_pick_f rfl rfl) ?_
         refine wto 33 36 17179869183 rfl rfl rfl z (ov_pick_f rfl rfl) ?_
         refine wt 34 36 34359738367 rfl z (ov_pick_t rfl rfl) ?_
         refine wt 35 36 68719476735 rfl z (ov_assign rfl) ?_
         refine wa_done (by kernel_rfl) ?_
         refine nx_then (cf_ rfl (sr_ (fd_ fo260_2 rfl rfl (lk_ sc3 0 rfl rfl rfl ?_))))
         refine wl_callw rfl cb133 rfl rfl (fun wx hm => (rin_any _ _ _ wx)) ?_
         refine wl_ov (ov_un_not rfl) rfl (sg_ rfl (nn_ ?_))
         refine gw_cond rfl (fun hh => ?_) (fun hh => ?_)
         ·have h9 : (inB ce 0 1000000) = false := by simpa using hh
          clear hh
          refine sr_ (sg_ rfl (nn_ ?_))
          refine gw_ret ?_
          refine nx_blk_ret (nx_blk_ret (nx_then_ret (nx_then_ret (nx_blk_ret (nx_then_ret ?_)))))
          have hE : feeE (prevOf l k) ⟨ka, kb, ce⟩ = 1 := by unfold feeE leFe; rw [hpv]; simp [h2, h3, h4, h8, h9]
          refine nx_ret1 rfl rfl fun wx hm => ?_
          exact ⟨ret_int (by rw [hinv.2, hat, if_neg (by rw [hE]; decide), hE]), hm.g⟩
         ·have h9 : (inB ce 0 1000000) = true := by simpa using hh
          clear hh
          refine gw_skip (nx_blk_nrm (nx_blk_nrm (nx_then (gw_region ?_))))
          have hE : feeE (prevOf l k) ⟨ka, kb, ce⟩ = 0 := by unfold feeE leFe; rw [hpv]; simp [h2, h3, h4, h8, h9]
          refine ad_ rfl rfl (mv_ rfl (wl_nil ?_))
          exact nx_round (k + 1) ⟨by omega, by rw [hinv.2, hat, if_pos hE]⟩ (by omega) ⟨rfl, rfl, rfl, (some_int (by omega)), trivial⟩ (fun _ hm => hm.pick [] [] [0] rfl rfl)
  ·have hk : ¬ (((k : Nat) : Int) < ((n : Nat) : Int)) := by simpa using hh
   clear hh
   refine gw_exit ?_
   refine nx_then_exit (nx_then_exit ?_)
   refine nx_blk_here ?_
   refine nx_then (sr_ (sg_ rfl (nn_ ?_)))
   refine gw_ret ?_
   refine nx_ret1 rfl rfl fun wx hm => ?_
   exact ⟨ret_int (by rw [hinv.2, scanE_end _ _ _ _ (by omega)]), hm.g⟩
def feP (a b : ByteArray) (x : Fe) : Bool := x.a.toList == a.toList && x.b.toList == b.toList
def feAt (l : List Fe) (a b : ByteArray) : Int := match l[(ixP (feP a b) l 0).toNat]? with
  | some x => x.cents
  | none => 0
/-- The error and the fee of FeeOf. -/
def feeOfC (l : List Fe) (a b : ByteArray) : Int := firstE [feesE l, whenE (!keyB a || !keyB b) 5]
def feeOfE (l : List Fe) (a b : ByteArray) : Int := if feeOfC l a b = 0 then (if (a.toList == b.toList) = true then 0 else if 0 ≤ ixP (feP a b) l 0 then 0 else 8) else feeOfC l a b
def feeOfV (l : List Fe) (a b : ByteArray) : Int := if feeOfC l a b = 0 then (if (a.toList == b.toList) = true then 0 else if 0 ≤ ixP (feP a b) l 0 then feAt l a b else 0) else 0
theorem feAt_of {l : List Fe} {a b : ByteArray} {i : Nat} {x : Fe} (h : ixP (feP a b) l 0 = ((i : Nat) : Int)) (hx : l[i]? = some x) : feAt l a b = x.cents := by
  unfold feAt; rw [h, Int.toNat_natCast, hx]
set_option maxRecDepth 100000 in
set_option maxHeartbeats 400000 in
theorem tFeeOf_any (l : List Fe) (A : Option Addr) (n c0 : Nat) (ka kb : ByteArray) (w : World) (hl : SlT feEnc 3 260 w A n l) (hok : ∀ b ∈ l, FeOk b) (hn : n ≤ 1000000) (h1 : ka.size ≤ 1000000) (h2 : kb.size ≤ 1000000) :
  Calls Tryz.prog 203 #[.slice A n c0, .string ka, .string kb] w (fun e w' => e = .returned (.tuple #[.int .i64 (feeOfV l ka kb), .int .i64 (feeOfE l ka kb)]) ∧ w.grownBy w' none) := by
 refine gw_enter ⟨49, w, none, []⟩ Tryz.func203 rfl Tryz.ntmps203 rfl (mem0 (X := [SlOld feEnc 3 260 w.heap.size none A n l]) (allF_cons hl.old allF_nil) (allL_cons SlOld.lasts allL_nil)) ?_
 refine sr_ ?_
 have hlen := hl.len
 obtain ⟨XE, hXE⟩ : ∃ E, E = feesE l := ⟨_, rfl⟩
 refine sg_ rfl (sg_ rfl (nn_ (gw_seq (sr_ (mv_ rfl ?_)))))
 refine wl_callv (v := .int .i64 XE) rfl cb105 rfl rfl (fun wx hm => (by rw [hXE]; exact checkFees_any l A n c0 wx (hm.fact 0 rfl).1 hok hn)) ?_
 refine mv_ rfl ?_
 refine wl_callw rfl cb137 rfl rfl (fun wx hm => (isKey_any _ wx (by omega))) ?_
 refine wl_ov (ov_un_not rfl) rfl (mv_ rfl ?_)
 rcases Bool.eq_false_or_eq_true (!(keyB ka)) with h2 | h2
 ·refine wl_set 16 rfl (congrArg Value.bool h2) ?_
  have hC : feeOfC l ka kb = firstE [XE, whenE true 5] := by unfold feeOfC; rw [h2, ← hXE]; rfl
  refine goff rfl rfl rfl (goff rfl rfl rfl (goff rfl rfl rfl (pt_ rfl rfl ?_)))
  refine wl_callw rfl cb120 rfl rfl (fun wx hm => (when_any _ _ wx)) ?_
  refine wl_buildSlice (e := 41) (cs := [.int .i64 XE, .int .i64 (whenE true 5)]) rfl (by kernel_rfl) rfl fun g1 => ?_
  refine wl_callw rfl cb102 rfl rfl (fun wx hm => (first_any [XE, whenE true 5] _ _ _ wx (hm.blkI 0 rfl) (by simp))) ?_
  refine sg_ rfl (nn_ (sr_ (mv_ rfl (wl_ov (ov_neq rfl rfl) rfl (nn_ ?_)))))
  refine gw_cond rfl (fun hh => ?_) (fun hh => ?_)
  ·have hz : ¬ (firstE [XE, whenE true 5] = 0) := by simpa using hh
   clear hh
   refine sr_ (mv_ rfl (sg_ rfl (sg_ rfl (nn_ ?_))))
   refine gw_ret ?_
   refine nx_then_ret ?_
   refine nx_ret2 rfl rfl rfl fun wx hm => ?_
   refine ⟨?_, hm.g⟩
   unfold feeOfE feeOfV
   rw [hC, if_neg hz, if_neg hz]
  ·have hz : firstE [XE, whenE true 5] = 0 := by simpa using hh
   clear hh
   refine gw_skip (nx_then (gw_seq (sr_ (mv_ rfl (mv_ rfl (wl_ov (ov_seql rfl rfl) rfl (nn_ ?_)))))))
   refine gw_cond rfl (fun hh => ?_) (fun hh => ?_)
   ·have hab : (ka.toList == kb.toList) = true := by simpa using hh
    clear hh
    refine sr_ (sg_ rfl (sg_ rfl (nn_ ?_)))
    refine gw_ret ?_
    refine nx_then_ret ?_
    refine nx_ret2 rfl rfl rfl fun wx hm => ?_
    refine ⟨?_, hm.g⟩
    unfold feeOfE feeOfV
    rw [hC, if_pos hz, if_pos hz, if_pos hab, if_pos hab]
   ·have hab : (ka.toList == kb.toList) = false := by simpa using hh
    clear hh
    refine gw_skip (nx_then (gw_seq (sr_ (mv_ rfl (wl_ov (ov_len es28 rfl) rfl (mv_ rfl (nn_ (gw_block ?_))))))))
    refine gw_loop (γ := Nat) (fun (i : Nat) => i ≤ n ∧ ixP (feP ka kb) l 0 = ixP (feP ka kb) (l.drop i) i) (fun (i : Nat) => [(1, .string ka), (2, .string kb), (30, .slice A n c0), (31, .int .i64 ((n : Nat) : Int)), (32, .int .i64 ((i : Nat) : Int))]) (fun (i : Nat) => fun _ => True) (fun (i : Nat) => [(g1, 41, [.int .i64 XE, .int .i64 (whenE true 5)])]) (fun (i : Nat) => []) (fun (i : Nat) => [SlOld feEnc 3 260 w.heap.size none A n l]) (fun (i : Nat) => n - i) 0 ⟨Nat.zero_le _, rfl⟩ ⟨rfl, rfl, rfl, rfl, rfl, trivial⟩ (fun _ hm => hm.pick [0] [] [0] rfl rfl) ?_
    intro i hinv
    replace hinv : i ≤ n ∧ ixP (feP ka kb) l 0 = ixP (feP ka kb) (l.drop i) i := hinv
    refine sr_ (wl_ov (ov_lss rfl rfl) rfl (nn_ (gw_seq ?_)))
    refine gw_cond rfl (fun hh => ?_) (fun hh => ?_)
    ·have hi : ((i : Nat) : Int) < ((n : Nat) : Int) := by simpa using hh
     clear hh
     refine gw_skip (nx_then (gw_seq (gw_block (sr_ ?_))))
     obtain ⟨b, off, hA, _, _⟩ := hl.get (by omega)
     subst hA
     obtain ⟨x, hx⟩ : ∃ x, l[i]? = some x := ⟨_, List.getElem?_eq_getElem (by omega)⟩
     obtain ⟨xa, xb, xc⟩ := x
     have hat := ixP_at (p := feP ka kb) hx
     refine wl_ov (ov_index (j := i) es28 rfl rfl (by omega)) rfl ?_
     refine wl_ov (ov_elem (vs := [.string xa, .string xb, .int .i64 xc]) rz260 rfl (fun _ hm => (hm.fact 0 rfl).1) hx rfl rfl) rfl ?_
     refine wl_alloc zc260 rfl fun g2 => ?_
     refine wl_stores (cs' := [.string xa, .string xb, .int .i64 xc]) 0 rz260 rfl rfl rfl rfl rfl rfl rfl rfl ?_
     refine nn_ (sr_ (fd_ fo260_0 rfl rfl (lk_ sc9 0 rfl rfl rfl (mv_ rfl (wl_ov (ov_seql rfl rfl) rfl (mv_ rfl ?_))))))
     rcases Bool.eq_false_or_eq_true (xa.toList == ka.toList) with h5 | h5
     ·refine wl_set 40 rfl (congrArg Value.bool h5) ?_
      refine wl_guard_on rfl rfl rfl (fd_ fo260_1 rfl rfl (wl_guard_on rfl rfl rfl (lk_ sc9 0 rfl rfl rfl (wl_guard_on rfl rfl rfl (mv_ rfl (wl_guard_on rfl rfl rfl (wl_ov (ov_seql rfl rfl) rfl (pt_ rfl rfl (nn_ ?_)))))))))
      refine gw_cond rfl (fun hh => ?_) (fun hh => ?_)
      ·have h6 : (xb.toList == kb.toList) = true := by simpa using hh
       clear hh
       refine sr_ ?_
       have hq : feP ka kb ⟨xa, xb, xc⟩ = true := by unfold feP; dsimp only; rw [h5, h6]; rfl
       have hix : ixP (feP ka kb) l 0 = ((i : Nat) : Int) := by rw [hinv.2, hat, if_pos hq]
       have hva := feAt_of hix hx
       dsimp only at hva
       have hi00 : 0 ≤ ixP (feP ka kb) l 0 := by rw [hix]; omega
       refine fd_ fo260_2 rfl rfl (lk_ sc3 0 rfl rfl rfl (sg_ rfl (sg_ rfl (nn_ ?_))))
       refine gw_ret ?_
       refine nx_blk_ret (nx_then_ret (nx_then_ret (nx_blk_ret (nx_then_ret ?_))))
       refine nx_ret2 rfl rfl rfl fun wx hm => ?_
       refine ⟨?_, hm.g⟩
       unfold feeOfE feeOfV
       rw [hC, if_pos hz, if_pos hz, if_neg (show ¬ (ka.toList == kb.toList) = true by rw [hab]; decide), if_neg (show ¬ (ka.toList == kb.toList) = true by rw [hab]; decide), if_pos hi00, if_pos hi00, hva]
      ·have h6 : (xb.toList == kb.toList) = false := by simpa using hh
       clear hh
       refine gw_skip (nx_blk_nrm (nx_then (gw_region ?_)))
       have hq : feP ka kb ⟨xa, xb, xc⟩ = false := by unfold feP; dsimp only; rw [h5, h6]; rfl
       refine ad_ rfl rfl (mv_ rfl (wl_nil ?_))
       exact nx_round (i + 1) ⟨by omega, by rw [hinv.2, hat, if_neg (by rw [hq]; decide)]⟩ (by omega) ⟨rfl, rfl, rfl, rfl, (some_int (by omega)), trivial⟩ (fun _ hm => hm.pick [1] [] [0] rfl rfl)
     ·refine wl_set 40 rfl (congrArg Value.bool h5) ?_
      have hq : feP ka kb ⟨xa, xb, xc⟩ = false := by unfold feP; dsimp only; rw [h5]; rfl
      refine goff rfl rfl rfl (goff rfl rfl rfl (goff rfl rfl rfl (goff rfl rfl rfl (pf_ rfl rfl (nn_ (cf_ rfl (gw_skip (nx_blk_nrm (nx_then (gw_region (ad_ rfl rfl (mv_ rfl ?_))))))))))))
      refine wl_nil ?_
      exact nx_round (i + 1) ⟨by omega, by rw [hinv.2, hat, if_neg (by rw [hq]; decide)]⟩ (by omega) ⟨rfl, rfl, rfl, rfl, (some_int (by omega)), trivial⟩ (fun _ hm => hm.pick [1] [] [0] rfl rfl)
    ·have hi : ¬ (((i : Nat) : Int) < ((n : Nat) : Int)) := by simpa using hh
     clear hh
     refine gw_exit ?_
     refine nx_then_exit (nx_then_exit ?_)
     refine nx_blk_here ?_
     refine nx_then (sr_ ?_)
     have hix : ixP (feP ka kb) l 0 = -1 := by rw [hinv.2, List.drop_eq_nil_of_le (by omega)]; rfl
     have hi00 : ¬ 0 ≤ ixP (feP ka kb) l 0 := by rw [hix]; omega
     refine sg_ rfl (sg_ rfl (nn_ ?_))
     refine gw_ret ?_
     refine nx_ret2 rfl rfl rfl fun wx hm => ?_
     refine ⟨?_, hm.g⟩
     unfold feeOfE feeOfV
     rw [hC, if_pos hz, if_pos hz, if_neg (show ¬ (ka.toList == kb.toList) = true by rw [hab]; decide), if_neg (show ¬ (ka.toList == kb.toList) = true by rw [hab]; decide), if_neg hi00, if_neg hi00]
 ·refine wl_set 16 rfl (congrArg Value.bool h2) ?_
  have hC : feeOfC l ka kb = firstE [XE, whenE (!keyB kb) 5] := by unfold feeOfC; rw [h2, ← hXE]; rfl
  refine wl_guard_on rfl rfl rfl (mv_ rfl (wl_guard_on rfl rfl rfl ?_))
  refine wl_callw rfl cb137 rfl rfl (fun wx hm => (isKey_any _ wx (by omega))) ?_
  refine wl_guard_on rfl rfl rfl (wl_ov (ov_un_not rfl) rfl (pf_ rfl rfl ?_))
  refine wl_callw rfl cb120 rfl rfl (fun wx hm => (when_any _ _ wx)) ?_
  refine wl_buildSlice (e := 41) (cs := [.int .i64 XE, .int .i64 (whenE (!(keyB kb)) 5)]) rfl (by kernel_rfl) rfl fun g3 => ?_
  refine wl_callw rfl cb102 rfl rfl (fun wx hm => (first_any [XE, whenE (!(keyB kb)) 5] _ _ _ wx (hm.blkI 0 rfl) (by simp))) ?_
  refine sg_ rfl (nn_ (sr_ (mv_ rfl (wl_ov (ov_neq rfl rfl) rfl (nn_ ?_)))))
  refine gw_cond rfl (fun hh => ?_) (fun hh => ?_)
  ·have hz : ¬ (firstE [XE, whenE (!(keyB kb)) 5] = 0) := by simpa using hh
   clear hh
   refine sr_ (mv_ rfl (sg_ rfl (sg_ rfl (nn_ ?_))))
   refine gw_ret ?_
   refine nx_then_ret ?_
   refine nx_ret2 rfl rfl rfl fun wx hm => ?_
   refine ⟨?_, hm.g⟩
   unfold feeOfE feeOfV
   rw [hC, if_neg hz, if_neg hz]
  ·have hz : firstE [XE, whenE (!(keyB kb)) 5] = 0 := by simpa using hh
   clear hh
   refine gw_skip (nx_then (gw_seq (sr_ (mv_ rfl (mv_ rfl (wl_ov (ov_seql rfl rfl) rfl (nn_ ?_)))))))
   refine gw_cond rfl (fun hh => ?_) (fun hh => ?_)
   ·have hab : (ka.toList == kb.toList) = true := by simpa using hh
    clear hh
    refine sr_ (sg_ rfl (sg_ rfl (nn_ ?_)))
    refine gw_ret ?_
    refine nx_then_ret ?_
    refine nx_ret2 rfl rfl rfl fun wx hm => ?_
    refine ⟨?_, hm.g⟩
    unfold feeOfE feeOfV
    rw [hC, if_pos hz, if_pos hz, if_pos hab, if_pos hab]
   ·have hab : (ka.toList == kb.toList) = false := by simpa using hh
    clear hh
    refine gw_skip (nx_then (gw_seq (sr_ (mv_ rfl (wl_ov (ov_len es28 rfl) rfl (mv_ rfl (nn_ (gw_block ?_))))))))
    refine gw_loop (γ := Nat) (fun (i : Nat) => i ≤ n ∧ ixP (feP ka kb) l 0 = ixP (feP ka kb) (l.drop i) i) (fun (i : Nat) => [(1, .string ka), (2, .string kb), (30, .slice A n c0), (31, .int .i64 ((n : Nat) : Int)), (32, .int .i64 ((i : Nat) : Int))]) (fun (i : Nat) => fun _ => True) (fun (i : Nat) => [(g3, 41, [.int .i64 XE, .int .i64 (whenE (!(keyB kb)) 5)])]) (fun (i : Nat) => []) (fun (i : Nat) => [SlOld feEnc 3 260 w.heap.size none A n l]) (fun (i : Nat) => n - i) 0 ⟨Nat.zero_le _, rfl⟩ ⟨rfl, rfl, rfl, rfl, rfl, trivial⟩ (fun _ hm => hm.pick [0] [] [0] rfl rfl) ?_
    intro i hinv
    replace hinv : i ≤ n ∧ ixP (feP ka kb) l 0 = ixP (feP ka kb) (l.drop i) i := hinv
    refine sr_ (wl_ov (ov_lss rfl rfl) rfl (nn_ (gw_seq ?_)))
    refine gw_cond rfl (fun hh => ?_) (fun hh => ?_)
    ·have hi : ((i : Nat) : Int) < ((n : Nat) : Int) := by simpa using hh
     clear hh
     refine gw_skip (nx_then (gw_seq (gw_block (sr_ ?_))))
     obtain ⟨b, off, hA, _, _⟩ := hl.get (by omega)
     subst hA
     obtain ⟨x, hx⟩ : ∃ x, l[i]? = some x := ⟨_, List.getElem?_eq_getElem (by omega)⟩
     obtain ⟨xa, xb, xc⟩ := x
     have hat := ixP_at (p := feP ka kb) hx
     refine wl_ov (ov_index (j := i) es28 rfl rfl (by omega)) rfl ?_
     refine wl_ov (ov_elem (vs := [.string xa, .string xb, .int .i64 xc]) rz260 rfl (fun _ hm => (hm.fact 0 rfl).1) hx rfl rfl) rfl ?_
     refine wl_alloc zc260 rfl fun g4 => ?_
     refine wl_stores (cs' := [.string xa, .string xb, .int .i64 xc]) 0 rz260 rfl rfl rfl rfl rfl rfl rfl rfl ?_
     refine nn_ (sr_ (fd_ fo260_0 rfl rfl (lk_ sc9 0 rfl rfl rfl (mv_ rfl (wl_ov (ov_seql rfl rfl) rfl (mv_ rfl ?_))))))
     rcases Bool.eq_false_or_eq_true (xa.toList == ka.toList) with h5 | h5
     ·refine wl_set 40 rfl (congrArg Value.bool h5) ?_
      refine wl_guard_on rfl rfl rfl (fd_ fo260_1 rfl rfl (wl_guard_on rfl rfl rfl (lk_ sc9 0 rfl rfl rfl (wl_guard_on rfl rfl rfl (mv_ rfl (wl_guard_on rfl rfl rfl (wl_ov (ov_seql rfl rfl) rfl (pt_ rfl rfl (nn_ ?_)))))))))
      refine gw_cond rfl (fun hh => ?_) (fun hh => ?_)
      ·have h6 : (xb.toList == kb.toList) = true := by simpa using hh
       clear hh
       refine sr_ ?_
       have hq : feP ka kb ⟨xa, xb, xc⟩ = true := by unfold feP; dsimp only; rw [h5, h6]; rfl
       have hix : ixP (feP ka kb) l 0 = ((i : Nat) : Int) := by rw [hinv.2, hat, if_pos hq]
       have hva := feAt_of hix hx
       dsimp only at hva
       have hi00 : 0 ≤ ixP (feP ka kb) l 0 := by rw [hix]; omega
       refine fd_ fo260_2 rfl rfl (lk_ sc3 0 rfl rfl rfl (sg_ rfl (sg_ rfl (nn_ ?_))))
       refine gw_ret ?_
       refine nx_blk_ret (nx_then_ret (nx_then_ret (nx_blk_ret (nx_then_ret ?_))))
       refine nx_ret2 rfl rfl rfl fun wx hm => ?_
       refine ⟨?_, hm.g⟩
       unfold feeOfE feeOfV
       rw [hC, if_pos hz, if_pos hz, if_neg (show ¬ (ka.toList == kb.toList) = true by rw [hab]; decide), if_neg (show ¬ (ka.toList == kb.toList) = true by rw [hab]; decide), if_pos hi00, if_pos hi00, hva]
      ·have h6 : (xb.toList == kb.toList) = false := by simpa using hh
       clear hh
       refine gw_skip (nx_blk_nrm (nx_then (gw_region ?_)))
       have hq : feP ka kb ⟨xa, xb, xc⟩ = false := by unfold feP; dsimp only; rw [h5, h6]; rfl
       refine ad_ rfl rfl (mv_ rfl (wl_nil ?_))
       exact nx_round (i + 1) ⟨by omega, by rw [hinv.2, hat, if_neg (by rw [hq]; decide)]⟩ (by omega) ⟨rfl, rfl, rfl, rfl, (some_int (by omega)), trivial⟩ (fun _ hm => hm.pick [1] [] [0] rfl rfl)
     ·refine wl_set 40 rfl (congrArg Value.bool h5) ?_
      have hq : feP ka kb ⟨xa, xb, xc⟩ = false := by unfold feP; dsimp only; rw [h5]; rfl
      refine goff rfl rfl rfl (goff rfl rfl rfl (goff rfl rfl rfl (goff rfl rfl rfl (pf_ rfl rfl (nn_ (cf_ rfl (gw_skip (nx_blk_nrm (nx_then (gw_region (ad_ rfl rfl (mv_ rfl ?_))))))))))))
      refine wl_nil ?_
      exact nx_round (i + 1) ⟨by omega, by rw [hinv.2, hat, if_neg (by rw [hq]; decide)]⟩ (by omega) ⟨rfl, rfl, rfl, rfl, (some_int (by omega)), trivial⟩ (fun _ hm => hm.pick [1] [] [0] rfl rfl)
    ·have hi : ¬ (((i : Nat) : Int) < ((n : Nat) : Int)) := by simpa using hh
     clear hh
     refine gw_exit ?_
     refine nx_then_exit (nx_then_exit ?_)
     refine nx_blk_here ?_
     refine nx_then (sr_ ?_)
     have hix : ixP (feP ka kb) l 0 = -1 := by rw [hinv.2, List.drop_eq_nil_of_le (by omega)]; rfl
     have hi00 : ¬ 0 ≤ ixP (feP ka kb) l 0 := by rw [hix]; omega
     refine sg_ rfl (sg_ rfl (nn_ ?_))
     refine gw_ret ?_
     refine nx_ret2 rfl rfl rfl fun wx hm => ?_
     refine ⟨?_, hm.g⟩
     unfold feeOfE feeOfV
     rw [hC, if_pos hz, if_pos hz, if_neg (show ¬ (ka.toList == kb.toList) = true by rw [hab]; decide), if_neg (show ¬ (ka.toList == kb.toList) = true by rw [hab]; decide), if_neg hi00, if_neg hi00]
set_option maxRecDepth 100000 in
set_option maxHeartbeats 400000 in
theorem feeFrom_any (l : List Fe) (A : Option Addr) (n c0 : Nat) (ka kb : ByteArray) (w : World) (hl : SlT feEnc 3 260 w A n l) (hn : n ≤ 1000000) :
  Calls Tryz.prog 111 #[.slice A n c0, .string ka, .string kb] w (fun e w' => e = .returned (.tuple #[.int .i64 (if 0 ≤ ixP (feP ka kb) l 0 then feAt l ka kb else 0), .bool (decide (0 ≤ ixP (feP ka kb) l 0) || (ka.toList == kb.toList))]) ∧ w.grownBy w' none) := by
 refine gw_enter ⟨32, w, none, []⟩ Tryz.func111 rfl Tryz.ntmps111 rfl (mem0 (X := [SlOld feEnc 3 260 w.heap.size none A n l]) (allF_cons hl.old allF_nil) (allL_cons SlOld.lasts allL_nil)) ?_
 refine sr_ ?_
 have hlen := hl.len
 refine sg_ rfl (sg_ rfl (nn_ (gw_seq (sr_ (mv_ rfl (wl_ov (ov_len es28 rfl) rfl (mv_ rfl (nn_ (gw_block ?_)))))))))
 refine gw_loop (γ := Nat) (fun (i : Nat) => i ≤ n ∧ ixP (feP ka kb) l 0 = ixP (feP ka kb) (l.drop i) i) (fun (i : Nat) => [(1, .string ka), (2, .string kb), (10, .slice A n c0), (11, .int .i64 ((n : Nat) : Int)), (12, .int .i64 ((i : Nat) : Int))]) (fun (i : Nat) => fun _ => True) (fun (i : Nat) => []) (fun (i : Nat) => []) (fun (i : Nat) => [SlOld feEnc 3 260 w.heap.size none A n l]) (fun (i : Nat) => n - i) 0 ⟨Nat.zero_le _, rfl⟩ ⟨rfl, rfl, rfl, rfl, rfl, trivial⟩ (fun _ hm => hm.pick [] [] [0] rfl rfl) ?_
 intro i hinv
 replace hinv : i ≤ n ∧ ixP (feP ka kb) l 0 = ixP (feP ka kb) (l.drop i) i := hinv
 refine sr_ (wl_ov (ov_lss rfl rfl) rfl (nn_ (gw_seq ?_)))
 refine gw_cond rfl (fun hh => ?_) (fun hh => ?_)
 ·have hi : ((i : Nat) : Int) < ((n : Nat) : Int) := by simpa using hh
  clear hh
  refine gw_skip (nx_then (gw_seq (gw_block (sr_ ?_))))
  obtain ⟨b, off, hA, _, _⟩ := hl.get (by omega)
  subst hA
  obtain ⟨x, hx⟩ : ∃ x, l[i]? = some x := ⟨_, List.getElem?_eq_getElem (by omega)⟩
  obtain ⟨xa, xb, xc⟩ := x
  have hat := ixP_at (p := feP ka kb) hx
  refine wl_ov (ov_index (j := i) es28 rfl rfl (by omega)) rfl ?_
  refine wl_ov (ov_elem (vs := [.string xa, .string xb, .int .i64 xc]) rz260 rfl (fun _ hm => (hm.fact 0 rfl).1) hx rfl rfl) rfl ?_
  refine wl_alloc zc260 rfl fun g1 => ?_
  refine wl_stores (cs' := [.string xa, .string xb, .int .i64 xc]) 0 rz260 rfl rfl rfl rfl rfl rfl rfl rfl ?_
  refine nn_ (sr_ (fd_ fo260_0 rfl rfl (lk_ sc9 0 rfl rfl rfl (mv_ rfl (wl_ov (ov_seql rfl rfl) rfl (mv_ rfl ?_))))))
  rcases Bool.eq_false_or_eq_true (xa.toList == ka.toList) with h5 | h5
  ·refine wl_set 20 rfl (congrArg Value.bool h5) ?_
   refine wl_guard_on rfl rfl rfl (fd_ fo260_1 rfl rfl (wl_guard_on rfl rfl rfl (lk_ sc9 0 rfl rfl rfl (wl_guard_on rfl rfl rfl (mv_ rfl (wl_guard_on rfl rfl rfl (wl_ov (ov_seql rfl rfl) rfl (pt_ rfl rfl (nn_ ?_)))))))))
   refine gw_cond rfl (fun hh => ?_) (fun hh => ?_)
   ·have h6 : (xb.toList == kb.toList) = true := by simpa using hh
    clear hh
    refine sr_ ?_
    have hq : feP ka kb ⟨xa, xb, xc⟩ = true := by unfold feP; dsimp only; rw [h5, h6]; rfl
    have hix : ixP (feP ka kb) l 0 = ((i : Nat) : Int) := by rw [hinv.2, hat, if_pos hq]
    have hva := feAt_of hix hx
    dsimp only at hva
    have hi00 : 0 ≤ ixP (feP ka kb) l 0 := by rw [hix]; omega
    refine fd_ fo260_2 rfl rfl (lk_ sc3 0 rfl rfl rfl (sg_ rfl (sg_ rfl (nn_ ?_))))
    refine gw_ret ?_
    refine nx_blk_ret (nx_then_ret (nx_then_ret (nx_blk_ret (nx_then_ret ?_))))
    refine nx_ret2 rfl rfl rfl fun wx hm => ?_
    exact ⟨by rw [if_pos hi00, decide_eq_true hi00, hva]; rfl, hm.g⟩
   ·have h6 : (xb.toList == kb.toList) = false := by simpa using hh
    clear hh
    refine gw_skip (nx_blk_nrm (nx_then (gw_region ?_)))
    have hq : feP ka kb ⟨xa, xb, xc⟩ = false := by unfold feP; dsimp only; rw [h5, h6]; rfl
    refine ad_ rfl rfl (mv_ rfl (wl_nil ?_))
    exact nx_round (i + 1) ⟨by omega, by rw [hinv.2, hat, if_neg (by rw [hq]; decide)]⟩ (by omega) ⟨rfl, rfl, rfl, rfl, (some_int (by omega)), trivial⟩ (fun _ hm => hm.pick [] [] [0] rfl rfl)
  ·refine wl_set 20 rfl (congrArg Value.bool h5) ?_
   have hq : feP ka kb ⟨xa, xb, xc⟩ = false := by unfold feP; dsimp only; rw [h5]; rfl
   refine goff rfl rfl rfl (goff rfl rfl rfl (goff rfl rfl rfl (goff rfl rfl rfl (pf_ rfl rfl (nn_ (cf_ rfl (gw_skip (nx_blk_nrm (nx_then (gw_region (ad_ rfl rfl (mv_ rfl ?_))))))))))))
   refine wl_nil ?_
   exact nx_round (i + 1) ⟨by omega, by rw [hinv.2, hat, if_neg (by rw [hq]; decide)]⟩ (by omega) ⟨rfl, rfl, rfl, rfl, (some_int (by omega)), trivial⟩ (fun _ hm => hm.pick [] [] [0] rfl rfl)
 ·have hi : ¬ (((i : Nat) : Int) < ((n : Nat) : Int)) := by simpa using hh
  clear hh
  refine gw_exit ?_
  refine nx_then_exit (nx_then_exit ?_)
  refine nx_blk_here ?_
  refine nx_then (sr_ ?_)
  have hix : ixP (feP ka kb) l 0 = -1 := by rw [hinv.2, List.drop_eq_nil_of_le (by omega)]; rfl
  have hi00 : ¬ 0 ≤ ixP (feP ka kb) l 0 := by rw [hix]; omega
  refine mv_ rfl (mv_ rfl (wl_ov (ov_seql rfl rfl) rfl (sg_ rfl (sg_ rfl (nn_ ?_)))))
  refine gw_ret ?_
  refine nx_ret2 rfl rfl rfl fun wx hm => ?_
  exact ⟨by rw [if_neg hi00, decide_eq_false hi00]; rfl, hm.g⟩
def prEnc (x : ByteArray × ByteArray) : List Value := [.string x.1, .string x.2]
theorem pr_len (x : ByteArray × ByteArray) : (prEnc x).length = 2 := rfl
theorem pr_sz {x : ByteArray × ByteArray} (h : x ∈ ([(⟨#[115, 49]⟩, ⟨#[115, 50]⟩), (⟨#[115, 49]⟩, ⟨#[115, 51]⟩), (⟨#[115, 50]⟩, ⟨#[115, 49]⟩), (⟨#[115, 51]⟩, ⟨#[115, 50]⟩)] : List (ByteArray × ByteArray))) : x.1.size ≤ 100 ∧ x.2.size ≤ 100 := by
  have key : ∀ y ∈ ([(⟨#[115, 49]⟩, ⟨#[115, 50]⟩), (⟨#[115, 49]⟩, ⟨#[115, 51]⟩), (⟨#[115, 50]⟩, ⟨#[115, 49]⟩), (⟨#[115, 51]⟩, ⟨#[115, 50]⟩)] : List (ByteArray × ByteArray)), y.1.size ≤ 100 ∧ y.2.size ≤ 100 := by decide
  exact key x h
theorem fe_snoc {l : List Fe} {x : Fe} (h : ∀ y ∈ l, FeOk y) (h1 : x.a.size ≤ 1000000) (h2 : x.b.size ≤ 1000000) : ∀ y ∈ l ++ [x], FeOk y := fun y hy => by
  rcases List.mem_append.1 hy with hy | hy
  · exact h y hy
  · rw [List.mem_singleton.1 hy]; exact ⟨h1, h2⟩
set_option maxRecDepth 100000 in
set_option maxHeartbeats 1000000 in
theorem gfees_any (w : World) (B sb m : Nat) (hS : Strm 25 w B sb m) (hm : m ≤ 100000000000) :
  Calls Tryz.prog 90 #[.pointer (some ⟨sb, 0, none⟩)] w (fun e w' => ∃ (A : Option Addr) (n c : Nat) (l : List Fe), e = .returned (.slice A n c) ∧ SlT feEnc 3 260 w' A n l ∧ (∀ x ∈ l, FeOk x) ∧ n ≤ 5 ∧ n ≤ c ∧ Strm 25 w' B sb (m + 30) ∧ w.grownBy w' (some sb)) := by
 refine gw_enter ⟨46, w, (some sb), []⟩ Tryz.func90 rfl Tryz.ntmps90 rfl (memS (X := []) hS allF_nil allL_nil) ?_
 refine sr_ (sg_ rfl (nn_ (sr_ (sg_ rfl (nn_ (gw_seq (sr_ ?_)))))))
 refine wl_ov (ov_build (cs := [.string ⟨#[115, 49]⟩, .string ⟨#[115, 50]⟩]) rfl (by kernel_rfl)) rfl ?_
 refine wl_ov (ov_build (cs := [.string ⟨#[115, 49]⟩, .string ⟨#[115, 51]⟩]) rfl (by kernel_rfl)) rfl ?_
 refine wl_ov (ov_build (cs := [.string ⟨#[115, 50]⟩, .string ⟨#[115, 49]⟩]) rfl (by kernel_rfl)) rfl ?_
 refine wl_ov (ov_build (cs := [.string ⟨#[115, 51]⟩, .string ⟨#[115, 50]⟩]) rfl (by kernel_rfl)) rfl ?_
 refine wl_buildSlice (e := 257) (cs := [.string ⟨#[115, 49]⟩, .string ⟨#[115, 50]⟩, .string ⟨#[115, 49]⟩, .string ⟨#[115, 51]⟩, .string ⟨#[115, 50]⟩, .string ⟨#[115, 49]⟩, .string ⟨#[115, 51]⟩, .string ⟨#[115, 50]⟩]) rfl (by kernel_rfl) rfl fun g1 => ?_
 refine wl_ov (ov_len es258 rfl) rfl ?_
 refine wl_set 11 (v' := .int .i64 4) rfl rfl ?_
 refine mv_ rfl (nn_ (gw_block ?_))
 refine gw_nilOwn 260 3 ?_
 refine gw_loop (γ := Nat × Nat × Value × List Fe × List Value) (fun (g : Nat × Nat × Value × List Fe × List Value) => g.1 ≤ 4 ∧ g.2.1 ≤ g.1 ∧ g.2.2.2.1.length = g.2.1 ∧ (∀ x ∈ g.2.2.2.1, FeOk x) ∧ g.2.2.2.2 = g.2.2.2.1.flatMap feEnc) (fun (g : Nat × Nat × Value × List Fe × List Value) => [(0, .pointer (some ⟨sb, 0, none⟩)), (2, .slice none 0 0), (3, g.2.2.1), (10, .slice (some ⟨g1, 0, none⟩) 4 4), (11, .int .i64 4), (12, .int .i64 ((g.1 : Nat) : Int))]) (fun (g : Nat × Nat × Value × List Fe × List Value) => fun w => Strm 25 w B sb (m + 2 * g.1)) (fun (g : Nat × Nat × Value × List Fe × List Value) => [(g1, 257, [.string ⟨#[115, 49]⟩, .string ⟨#[115, 50]⟩, .string ⟨#[115, 49]⟩, .string ⟨#[115, 51]⟩, .string ⟨#[115, 50]⟩, .string ⟨#[115, 49]⟩, .string ⟨#[115, 51]⟩, .string ⟨#[115, 50]⟩])]) (fun (g : Nat × Nat × Value × List Fe × List Value) => [⟨g.2.2.1, 260, 3, g.2.1, g.2.2.2.2⟩]) (fun (g : Nat × Nat × Value × List Fe × List Value) => []) (fun (g : Nat × Nat × Value × List Fe × List Value) => 4 - g.1) (0, 0, .slice none 0 0, [], []) ⟨Nat.zero_le _, Nat.zero_le _, rfl, (fun _ h => by cases h), rfl⟩ ⟨rfl, rfl, rfl, rfl, rfl, rfl, trivial⟩ (fun _ hm => (hm.more rfl (by first | omega | (dsimp only; omega))).pick [0] [0] [] rfl rfl) ?_
 rintro ⟨k, n, v, l, xs⟩ hinv
 replace hinv : k ≤ 4 ∧ n ≤ k ∧ l.length = n ∧ (∀ x ∈ l, FeOk x) ∧ xs = l.flatMap feEnc := hinv
 dsimp only
 refine sr_ ?_
 obtain ⟨hi0, hi1, hi2, hi3, rfl⟩ := hinv
 refine wl_ov (ov_lss rfl rfl) rfl (nn_ (gw_seq ?_))
 refine gw_cond rfl (fun hh => ?_) (fun hh => ?_)
 ·have hk : ((k : Nat) : Int) < 4 := by simpa using hh
  clear hh
  refine gw_skip (nx_then (gw_seq (gw_block (sr_ ?_))))
  obtain ⟨nm, hx⟩ : ∃ x, ([(⟨#[115, 49]⟩, ⟨#[115, 50]⟩), (⟨#[115, 49]⟩, ⟨#[115, 51]⟩), (⟨#[115, 50]⟩, ⟨#[115, 49]⟩), (⟨#[115, 51]⟩, ⟨#[115, 50]⟩)] : List (ByteArray × ByteArray))[k]? = some x := ⟨_, List.getElem?_eq_getElem (by simp; omega)⟩
  obtain ⟨na, nb⟩ := nm
  obtain ⟨hna, hnb⟩ := pr_sz (List.mem_of_getElem? hx)
  dsimp only at hna hnb
  refine wl_ov (ov_index (j := k) es258 rfl rfl (by omega)) rfl ?_
  refine wl_ov (ov_elem (vs := [.string na, .string nb]) rz257 rfl (fun _ hm => (SlT.ofBlk (l := [(⟨#[115, 49]⟩, ⟨#[115, 50]⟩), (⟨#[115, 49]⟩, ⟨#[115, 51]⟩), (⟨#[115, 50]⟩, ⟨#[115, 49]⟩), (⟨#[115, 51]⟩, ⟨#[115, 50]⟩)]) pr_len (hm.blkI 0 rfl))) hx rfl rfl) rfl ?_
  refine wl_alloc zc257 rfl fun g2 => ?_
  refine wl_stores (cs' := [.string na, .string nb]) 0 rz257 rfl rfl rfl rfl rfl rfl rfl rfl ?_
  refine nn_ (sr_ (mv_ rfl ?_))
  refine wl_got (γ := Bool) (val := fun v => .bool v) (φ := fun v => True) rfl cb70 rfl rfl rfl rfl (fun wx hm => ((flip_any _ wx B sb _ hm.k (by omega) (by omega) (by omega)).mono fun _ _ ⟨v, he, hS, hg⟩ => ⟨v, trivial, he, hS, hg⟩)) fun f3 _ => ?_
  refine wl_ov (ov_un_not rfl) rfl (nn_ ?_)
  refine gw_cond rfl (fun hh => ?_) (fun hh => ?_)
  ·have hf : f3 = false := by simpa using hh
   clear hh
   refine gd (fun wz => Blk wz g2 257 [.string na, .string nb] ∧ Blk wz g1 257 [.string ⟨#[115, 49]⟩, .string ⟨#[115, 50]⟩, .string ⟨#[115, 49]⟩, .string ⟨#[115, 51]⟩, .string ⟨#[115, 50]⟩, .string ⟨#[115, 49]⟩, .string ⟨#[115, 51]⟩, .string ⟨#[115, 50]⟩] ∧ True) mixed (fun _ hm => ⟨hm.blkI 0 rfl, hm.blkI 1 rfl, trivial⟩) fun z => ?_
   refine wt 0 12 1 rfl z (ov_move rfl) ?_
   refine wt 1 12 3 rfl z (ov_indexP (j := 0) ar257 rfl rfl (by decide) rfl) ?_
   refine wt 2 12 7 rfl z (ov_load sc9 rfl (fun _ hm => hm.1) rfl) ?_
   refine wt 3 12 15 rfl z (ov_indexP (j := 1) ar257 rfl rfl (by decide) rfl) ?_
   refine wt 4 12 31 rfl z (ov_load sc9 rfl (fun _ hm => hm.1) rfl) ?_
   refine wt 5 12 63 rfl z (ov_move rfl) ?_
   refine wa1 6 rfl ?_
   refine wl_buildSlice (e := 3) (cs := [.int .i64 0, .int .i64 40, .int .i64 700]) rfl (by kernel_rfl) rfl fun g4 => ?_
   refine wl_nil ?_
   refine nw 12 127 (fun _ hm => ⟨hm.blkI 1 rfl, hm.blkI 2 rfl, trivial⟩) fun z => ?_
   refine wa1 7 rfl ?_
   refine wl_got (γ := Int) (val := fun v => .int .i64 v) (φ := fun v => v ∈ ([0, 40, 700] : List Int)) rfl cb24 rfl rfl rfl rfl (fun wx hm => (pick_any [0, 40, 700] _ _ _ wx B sb _ hm.k (by omega) (by simp) (by simp) (hm.blkI 0 rfl) (hm.neRow 0 rfl rfl))) fun v5 hv5 => ?_
   have bv5 : 0 ≤ v5 ∧ v5 ≤ 700 := mem_rng hv5 (by decide)
   have bv50 := bv5.1
   have bv51 := bv5.2
   clear bv5
   refine wl_nil ?_
   refine nw 12 255 (fun _ hm => ⟨hm.blkI 1 rfl, hm.blkI 2 rfl, trivial⟩) fun z => ?_
   refine wt 8 12 511 rfl z (ov_build (cs := [.string na, .string nb, .int .i64 v5]) rfl (by kernel_rfl)) ?_
   refine wa1 9 rfl ?_
   refine wl_buildSlice (e := 260) (cs := [.string na, .string nb, .int .i64 v5]) rfl (by kernel_rfl) rfl fun g6 => ?_
   refine wl_nil ?_
   refine nw 12 1023 (fun _ hm => ⟨hm.blkI 2 rfl, hm.blkI 3 rfl, trivial⟩) fun z => ?_
   refine wa1 10 rfl ?_
   refine wl_append (news := [.string na, .string nb, .int .i64 v5]) 0 0 ap28 rfl rfl rfl rfl rfl rfl rfl (by omega) (by unfold maxLen; omega) rfl rfl fun v2 hv2 => ?_
   refine wl_nil ?_
   refine nw 12 2047 (fun _ hm => ⟨hm.blkI 2 rfl, hm.blkI 3 rfl, trivial⟩) fun z => ?_
   refine wt 11 12 4095 rfl z (ov_assign rfl) ?_
   refine wa_done (by kernel_rfl) ?_
   refine nx_blk_nrm (nx_then (gw_region (ad_ rfl rfl (mv_ rfl (wl_nil ?_)))))
   exact nx_round (k + 1, n + 1, v2, l ++ [⟨na, nb, v5⟩], l.flatMap feEnc ++ ([.string na, .string nb, .int .i64 v5] : List Value)) ⟨by dsimp only; omega, by dsimp only; omega, by simp [hi2], fe_snoc hi3 (show na.size ≤ 1000000 by omega) (show nb.size ≤ 1000000 by omega), by simp [feEnc]⟩ (by dsimp only; omega) ⟨rfl, rfl, rfl, rfl, rfl, (some_int (by omega)), trivial⟩ (fun _ hm => (hm.more rfl (by first | omega | (dsimp only; omega))).pick [3] [0] [] rfl rfl)
  ·have hf : f3 = true := by simpa using hh
   clear hh
   refine gw_skip (nx_blk_nrm (nx_then (gw_region (ad_ rfl rfl (mv_ rfl (wl_nil ?_))))))
   exact nx_round (k + 1, n, v, l, l.flatMap feEnc) ⟨by dsimp only; omega, by dsimp only; omega, hi2, hi3, rfl⟩ (by dsimp only; omega) ⟨rfl, rfl, rfl, rfl, rfl, (some_int (by omega)), trivial⟩ (fun _ hm => (hm.more rfl (by first | omega | (dsimp only; omega))).pick [1] [0] [] rfl rfl)
 ·have hk : ¬ (((k : Nat) : Int) < 4) := by simpa using hh
  clear hh
  refine gw_exit ?_
  refine nx_then_exit (nx_then_exit ?_)
  refine nx_blk_here ?_
  refine nx_then (gw_seq (sr_ (mv_ rfl ?_)))
  refine wl_got (γ := Bool) (val := fun v => .bool v) (φ := fun v => True) rfl cb70 rfl rfl rfl rfl (fun wx hm => ((flip_any _ wx B sb _ hm.k (by omega) (by omega) (by omega)).mono fun _ _ ⟨v, he, hS, hg⟩ => ⟨v, trivial, he, hS, hg⟩)) fun f7 _ => ?_
  refine nn_ ?_
  refine gw_cond rfl (fun hh => ?_) (fun hh => ?_)
  ·have hf : f7 = true := by simpa using hh
   clear hh
   refine gw_region (mv_ rfl (mv_ rfl ?_))
   refine wl_buildSlice (e := 9) (cs := [.string ⟨#[115, 51]⟩, .string ⟨#[65]⟩, .string ⟨#[115, 49]⟩]) rfl (by kernel_rfl) rfl fun g8 => ?_
   refine wl_got (γ := ByteArray) (val := fun v => .string v) (φ := fun v => v ∈ ([⟨#[115, 51]⟩, ⟨#[65]⟩, ⟨#[115, 49]⟩] : List ByteArray)) rfl cb60 rfl rfl rfl rfl (fun wx hm => (some_any [⟨#[115, 51]⟩, ⟨#[65]⟩, ⟨#[115, 49]⟩] _ _ _ wx B sb _ hm.k (by omega) (by simp) (by simp) (hm.blkI 0 rfl) (hm.neRow 0 rfl rfl))) fun s9 hs9 => ?_
   have zs9 : s9.size ≤ 100 := mem_sz hs9 (by decide)
   refine mv_ rfl ?_
   refine wl_buildSlice (e := 9) (cs := [.string ⟨#[115, 51]⟩, .string ⟨#[115, 57]⟩, .string ⟨#[]⟩]) rfl (by kernel_rfl) rfl fun g10 => ?_
   refine wl_got (γ := ByteArray) (val := fun v => .string v) (φ := fun v => v ∈ ([⟨#[115, 51]⟩, ⟨#[115, 57]⟩, ⟨#[]⟩] : List ByteArray)) rfl cb60 rfl rfl rfl rfl (fun wx hm => (some_any [⟨#[115, 51]⟩, ⟨#[115, 57]⟩, ⟨#[]⟩] _ _ _ wx B sb _ hm.k (by omega) (by simp) (by simp) (hm.blkI 0 rfl) (hm.neRow 0 rfl rfl))) fun s11 hs11 => ?_
   have zs11 : s11.size ≤ 100 := mem_sz hs11 (by decide)
   refine mv_ rfl ?_
   refine wl_got (γ := Int) (val := fun v => .int .i64 v) (φ := fun v => -2000000000000000 ≤ v ∧ v ≤ 2000000000000000) rfl cb119 rfl rfl rfl rfl (fun wx hm => (odd_any _ _ wx B sb _ hm.k (by omega) (by omega) (by omega) (by omega))) fun v12 hv12 => ?_
   refine wl_ov (ov_build (cs := [.string s9, .string s11, .int .i64 v12]) rfl (by kernel_rfl)) rfl ?_
   refine wl_buildSlice (e := 260) (cs := [.string s9, .string s11, .int .i64 v12]) rfl (by kernel_rfl) rfl fun g13 => ?_
   refine wl_append (news := [.string s9, .string s11, .int .i64 v12]) 0 0 ap28 rfl rfl rfl rfl rfl rfl rfl (by omega) (by unfold maxLen; omega) rfl rfl fun v2 hv2 => ?_
   refine wl_look (R := ∃ A cc, v2 = .slice A (n + 1) cc) (fun wx hm => own_slice (hm.ownI 0 rfl)) ?_
   rintro ⟨A, c, rfl⟩
   refine sg_ rfl (nn_ (sr_ (mv_ rfl (sg_ rfl (nn_ ?_)))))
   refine gw_ret ?_
   refine nx_ret1 rfl rfl fun wx hm => ?_
   exact ⟨A, n + 1, c, l ++ [⟨s9, s11, v12⟩], rfl, SlT.ofOwn (l := l ++ [⟨s9, s11, v12⟩]) fee_len (by have h := hm.ownI 0 rfl; simpa [feEnc] using h) (by simp [hi2]), fe_snoc hi3 (show s9.size ≤ 1000000 by omega) (show s11.size ≤ 1000000 by omega), by omega, own_cap (hm.ownI 0 rfl), hm.k.more (by omega), hm.g⟩
  ·have hf : f7 = false := by simpa using hh
   clear hh
   refine gw_skip (nx_then (sr_ ?_))
   refine wl_look (R := ∃ A cc, v = .slice A n cc) (fun wx hm => own_slice (hm.ownI 0 rfl)) ?_
   rintro ⟨A, c, rfl⟩
   refine mv_ rfl (sg_ rfl (nn_ ?_))
   refine gw_ret ?_
   refine nx_ret1 rfl rfl fun wx hm => ?_
   exact ⟨A, n, c, l, rfl, SlT.ofOwn fee_len (hm.ownI 0 rfl) hi2, hi3, by omega, own_cap (hm.ownI 0 rfl), hm.k.more (by omega), hm.g⟩
end Go.Proofs.YtnmpniaocjmkfaaGreatDoor
namespace Go.Proofs.YtnmpniaocjmkfaaGreatDoor
open Go.RowKit
/-- A tax as it lies in a list: its kinds lie elsewhere. -/
structure Tx where
  key : ByteArray
  mille : Int
  A : Option Addr
  n : Nat
  c : Nat
  on : List Int
  over : Bool
def txEnc (x : Tx) : List Value := [.string x.key, .int .i64 x.mille, .slice x.A x.n x.c, .bool x.over]
theorem tx_len (x : Tx) : (txEnc x).length = 4 := rfl
def TxOk (x : Tx) : Prop := x.key.size ≤ 1000000 ∧ x.n ≤ 1000
/-- The kinds of all taxes of the list. -/
def Ons (l : List Tx) (w : World) : Prop := ∀ x ∈ l, SlT itEnc 1 3 w x.A x.n x.on
def OnsOld (N : Nat) (row : Option Nat) (l : List Tx) (w : World) : Prop := ∀ x ∈ l, SlOld itEnc 1 3 N row x.A x.n x.on w
theorem OnsOld.lasts {N : Nat} {row : Option Nat} {Tt : List TypeId} {l : List Tx} : Lasts2 N row Tt (OnsOld N row l) := lasts_all fun _ _ => SlOld.lasts
theorem Ons.lasts {N : Nat} {row : Option Nat} {Tt : List TypeId} {l : List Tx} (hT : Tt.contains 3 = true) : Lasts2 N row Tt (Ons l) := lasts_all fun _ _ => SlT.lasts2 hT
theorem Ons.old {l : List Tx} {w : World} (h : Ons l w) : OnsOld w.heap.size none l w := fun x hx => (h x hx).old
theorem OnsOld.ons {N : Nat} {row : Option Nat} {l : List Tx} {w : World} (h : OnsOld N row l w) : Ons l w := fun x hx => (h x hx).1
def onB (p : Option Int) (k : Int) : Bool := match p with
  | none => false
  | some q => decide (k ≤ q)
def onE (p : Option Int) (k : Int) : Int := if decide (k = 5) || !inB k 1 6 then 4 else if onB p k then 7 else 0
def onsE (l : List Int) : Int := scanE onE none l
def taxP (k : ByteArray) (x : Tx) : Bool := x.key.toList == k.toList
def taxE (pre : List Tx) (x : Tx) : Int := if !keyB x.key then 5 else if pre.any (taxP x.key) then 6 else if !inB x.mille 0 1000 then 1 else onsE x.on
def taxG : List Tx → List Tx → Int
  | _, [] => 0
  | pre, x :: r => if taxE pre x = 0 then taxG (pre ++ [x]) r else taxE pre x
theorem taxG_at {l : List Tx} {i : Nat} {x : Tx} (h : l[i]? = some x) : taxG (l.take i) (l.drop i) = if taxE (l.take i) x = 0 then taxG (l.take (i + 1)) (l.drop (i + 1)) else taxE (l.take i) x := by
  obtain ⟨hi, rfl⟩ := List.getElem?_eq_some_iff.1 h
  rw [List.drop_eq_getElem_cons hi, List.take_add_one, List.getElem?_eq_getElem hi]
  rfl
theorem taxG_end {l : List Tx} {i : Nat} (h : l.length ≤ i) : taxG (l.take i) (l.drop i) = 0 := by rw [List.drop_eq_nil_of_le h]; rfl
def taxesE (l : List Tx) : Int := if 10 < l.length then 2 else taxG [] l
theorem taxG_ok : ∀ {r pre : List Tx}, taxG pre r = 0 → ∀ x ∈ r, ∃ p, taxE p x = 0
  | [], _, _, x, hx => by cases hx
  | y :: t, pre, h, x, hx => by
    unfold taxG at h
    by_cases h0 : taxE pre y = 0
    · rw [if_pos h0] at h
      rcases List.mem_cons.1 hx with rfl | hx
      · exact ⟨_, h0⟩
      · exact taxG_ok h x hx
    · rw [if_neg h0] at h; exact absurd h h0
theorem taxesE_mille {l : List Tx} (h : taxesE l = 0) : l.length ≤ 10 ∧ ∀ x ∈ l, 0 ≤ x.mille ∧ x.mille ≤ 1000 := by
  unfold taxesE at h
  split at h
  · cases h
  · refine ⟨by omega, fun x hx => ?_⟩
    obtain ⟨p, hp⟩ := taxG_ok h x hx
    unfold taxE at hp
    split at hp
    · cases hp
    · split at hp
      · cases hp
      · split at hp
        · cases hp
        · rename_i h3
          exact inB_iff.1 (by simpa using h3)
set_option maxRecDepth 100000 in
set_option maxHeartbeats 400000 in
theorem predTax_c (key : ByteArray) (mi : Int) (At : Option Addr) (nt ct : Nat) (on : List Int) (ov : Bool) (gk : Nat) (k0 : ByteArray) (k1 : Int) (k2 : Option Addr) (k3 k4 : Nat) (k5 : Bool) (w : World) (hk : Blk w gk 265 [.string k0, .int .i64 k1, .slice k2 k3 k4, .bool k5]) :
  Calls Tryz.prog 207 #[.agg #[.string key, .int .i64 mi, .slice At nt ct, .bool ov], .pointer (some ⟨gk, 0, none⟩)] w (fun e w' => e = .returned (.bool (taxP k0 ⟨key, mi, At, nt, ct, on, ov⟩)) ∧ w.grownBy w' none) := by
 refine gw_enter ⟨9, w, none, []⟩ Tryz.func207 rfl Tryz.ntmps207 rfl (mem0 (X := [BlkOld w.heap.size none gk 265 [.string k0, .int .i64 k1, .slice k2 k3 k4, .bool k5]]) (allF_cons hk.old allF_nil) (allL_cons BlkOld.lasts allL_nil)) ?_
 refine sr_ ?_
 refine wl_box rfl rfl rfl fun g1 => ?_
 refine sg_ rfl (nn_ (sr_ (fd_ fo265_0 rfl rfl (lk_ sc9 0 rfl rfl rfl (fd_ fo265_0 rfl rfl ?_)))))
 refine wl_ov (ov_load (v := .string k0) sc9 rfl (fun _ hm => (hm.fact 0 rfl).2) rfl) rfl ?_
 refine wl_ov (ov_seql rfl rfl) rfl (sg_ rfl (nn_ ?_))
 refine gw_ret ?_
 refine nx_ret1 rfl rfl fun wx hm => ?_
 exact ⟨rfl, hm.g⟩
set_option maxRecDepth 100000 in
set_option maxHeartbeats 400000 in
theorem indexTax_c (l : List Tx) (A : Option Addr) (n c0 : Nat) (gk : Nat) (k0 : ByteArray) (k1 : Int) (k2 : Option Addr) (k3 k4 : Nat) (k5 : Bool) (w : World) (hl : SlT txEnc 4 265 w A n l) (hn : n ≤ 1000000) (hk : Blk w gk 265 [.string k0, .int .i64 k1, .slice k2 k3 k4, .bool k5]) :
  Calls Tryz.prog 257 #[.slice A n c0, .func (.func 207) #[] #[.pointer (some ⟨gk, 0, none⟩)]] w (GotE w (ixP (taxP k0) l 0)) := by
 refine gw_enter ⟨19, w, none, []⟩ Tryz.func257 rfl Tryz.ntmps257 rfl (mem0 (X := [SlOld txEnc 4 265 w.heap.size none A n l, BlkOld w.heap.size none gk 265 [.string k0, .int .i64 k1, .slice k2 k3 k4, .bool k5]]) (allF_cons hl.old (allF_cons hk.old allF_nil)) (allL_cons SlOld.lasts (allL_cons BlkOld.lasts allL_nil))) ?_
 refine sr_ ?_
 have hlen := hl.len
 refine sg_ rfl (nn_ (gw_seq (sr_ (mv_ rfl (wl_ov (ov_len es30 rfl) rfl (mv_ rfl (nn_ (gw_block ?_))))))))
 refine gw_loop (γ := Nat) (fun (i : Nat) => i ≤ n ∧ ixP (taxP k0) l 0 = ixP (taxP k0) (l.drop i) i) (fun (i : Nat) => [(0, .slice A n c0), (1, .func (.func 207) #[] #[.pointer (some ⟨gk, 0, none⟩)]), (7, .int .i64 ((n : Nat) : Int)), (8, .int .i64 ((i : Nat) : Int))]) (fun (i : Nat) => fun _ => True) (fun (i : Nat) => []) (fun (i : Nat) => []) (fun (i : Nat) => [SlOld txEnc 4 265 w.heap.size none A n l, BlkOld w.heap.size none gk 265 [.string k0, .int .i64 k1, .slice k2 k3 k4, .bool k5]]) (fun (i : Nat) => n - i) 0 ⟨Nat.zero_le _, rfl⟩ ⟨rfl, rfl, rfl, rfl, trivial⟩ (fun _ hm => hm.pick [] [] [0, 1] rfl rfl) ?_
 intro i hinv
 replace hinv : i ≤ n ∧ ixP (taxP k0) l 0 = ixP (taxP k0) (l.drop i) i := hinv
 refine sr_ (wl_ov (ov_lss rfl rfl) rfl (nn_ (gw_seq ?_)))
 refine gw_cond rfl (fun hh => ?_) (fun hh => ?_)
 ·have hi : ((i : Nat) : Int) < ((n : Nat) : Int) := by simpa using hh
  clear hh
  refine gw_skip (nx_then (gw_seq (gw_block (sr_ ?_))))
  obtain ⟨b, off, hA, _, _⟩ := hl.get (by omega)
  subst hA
  obtain ⟨x, hx⟩ : ∃ x, l[i]? = some x := ⟨_, List.getElem?_eq_getElem (by omega)⟩
  obtain ⟨key, mi, At, nt, ct, on, ov⟩ := x
  have hat := ixP_at (p := taxP k0) hx
  refine mv_ rfl (sg_ rfl (nn_ (sr_ (mv_ rfl (mv_ rfl (mv_ rfl ?_))))))
  refine wl_ov (ov_index (j := i) es30 rfl rfl (by omega)) rfl ?_
  refine wl_ov (ov_elem (vs := [.string key, .int .i64 mi, .slice At nt ct, .bool ov]) rz265 rfl (fun _ hm => (hm.fact 0 rfl).1) hx rfl rfl) rfl ?_
  refine wl_callv rfl cb207 rfl rfl (fun wx hm => (predTax_c key mi At nt ct on ov gk k0 k1 k2 k3 k4 k5 wx (hm.fact 1 rfl).2)) ?_
  refine nn_ ?_
  refine gw_cond rfl (fun hh => ?_) (fun hh => ?_)
  ·have hq : (taxP k0 ⟨key, mi, At, nt, ct, on, ov⟩) = true := by simpa using hh
   clear hh
   refine sr_ (mv_ rfl (sg_ rfl (nn_ ?_)))
   refine gw_ret ?_
   refine nx_blk_ret (nx_then_ret (nx_then_ret (nx_blk_ret (nx_then_ret ?_))))
   refine nx_ret1 rfl rfl fun wx hm => ?_
   exact ⟨ret_int (by rw [hinv.2, hat, if_pos hq]), hm.g⟩
  ·have hq : (taxP k0 ⟨key, mi, At, nt, ct, on, ov⟩) = false := by simpa using hh
   clear hh
   refine gw_skip (nx_blk_nrm (nx_then (gw_region (ad_ rfl rfl (mv_ rfl (wl_nil ?_))))))
   exact nx_round (i + 1) ⟨by omega, by rw [hinv.2, hat, if_neg (by rw [hq]; decide)]⟩ (by omega) ⟨rfl, rfl, rfl, (some_int (by omega)), trivial⟩ (fun _ hm => hm.pick [] [] [0, 1] rfl rfl)
 ·have hi : ¬ (((i : Nat) : Int) < ((n : Nat) : Int)) := by simpa using hh
  clear hh
  refine gw_exit ?_
  refine nx_then_exit (nx_then_exit ?_)
  refine nx_blk_here ?_
  refine nx_then (sr_ (sg_ rfl ?_))
  refine wl_set 4 (v' := .int .i64 (-1)) rfl rfl ?_
  refine nn_ ?_
  refine gw_ret ?_
  refine nx_ret1 rfl rfl fun wx hm => ?_
  exact ⟨ret_int (by rw [hinv.2, List.drop_eq_nil_of_le (by omega)]; rfl), hm.g⟩
set_option maxRecDepth 100000 in
set_option maxHeartbeats 400000 in
theorem hasTax_c (l : List Tx) (A : Option Addr) (n c0 : Nat) (gk : Nat) (k0 : ByteArray) (k1 : Int) (k2 : Option Addr) (k3 k4 : Nat) (k5 : Bool) (w : World) (hl : SlT txEnc 4 265 w A n l) (hn : n ≤ 1000000) (hk : Blk w gk 265 [.string k0, .int .i64 k1, .slice k2 k3 k4, .bool k5]) :
  Calls Tryz.prog 204 #[.slice A n c0, .func (.func 207) #[] #[.pointer (some ⟨gk, 0, none⟩)]] w (fun e w' => e = .returned (.bool (l.any (taxP k0))) ∧ w.grownBy w' none) := by
 refine gw_enter ⟨9, w, none, []⟩ Tryz.func204 rfl Tryz.ntmps204 rfl (mem0 (X := [SlOld txEnc 4 265 w.heap.size none A n l, BlkOld w.heap.size none gk 265 [.string k0, .int .i64 k1, .slice k2 k3 k4, .bool k5]]) (allF_cons hl.old (allF_cons hk.old allF_nil)) (allL_cons SlOld.lasts (allL_cons BlkOld.lasts allL_nil))) ?_
 refine sr_ (sg_ rfl (nn_ (sr_ (mv_ rfl (mv_ rfl ?_)))))
 refine wl_callv rfl cb257 rfl rfl (fun wx hm => (indexTax_c l A n c0 gk k0 k1 k2 k3 k4 k5 wx (hm.fact 0 rfl).1 hn (hm.fact 1 rfl).2)) ?_
 refine wl_ov (ov_geq rfl rfl) rfl ?_
 refine sg_ rfl (nn_ ?_)
 refine gw_ret ?_
 refine nx_ret1 rfl rfl fun wx hm => ?_
 exact ⟨by rw [← ix_any], hm.g⟩
set_option maxRecDepth 100000 in
set_option maxHeartbeats 1000000 in
theorem checkTaxes_any (l : List Tx) (A : Option Addr) (n c0 : Nat) (w : World) (hl : SlT txEnc 4 265 w A n l) (hg : Ons l w) (hok : ∀ x ∈ l, TxOk x) (hn : n ≤ 1000000) (hc : n ≤ c0) :
  Calls Tryz.prog 107 #[.slice A n c0] w (GotE w (taxesE l)) := by
 refine gw_enter ⟨64, w, none, []⟩ Tryz.func107 rfl Tryz.ntmps107 rfl (mem0 (X := [SlOld txEnc 4 265 w.heap.size none A n l, OnsOld w.heap.size none l]) (allF_cons hl.old (allF_cons hg.old allF_nil)) (allL_cons SlOld.lasts (allL_cons OnsOld.lasts allL_nil))) ?_
 refine sr_ ?_
 have hlen := hl.len
 refine sg_ rfl (nn_ (gw_seq (sr_ (mv_ rfl (wl_ov (ov_len es30 rfl) rfl ?_)))))
 refine wl_ov (ov_gtr rfl rfl) rfl ?_
 refine nn_ ?_
 refine gw_cond rfl (fun hh => ?_) (fun hh => ?_)
 ·have h1 : 10 < ((n : Nat) : Int) := by simpa using hh
  clear hh
  refine sr_ (sg_ rfl (nn_ ?_))
  refine gw_ret ?_
  refine nx_then_ret ?_
  refine nx_ret1 rfl rfl fun wx hm => ?_
  exact ⟨ret_int (by unfold taxesE; rw [if_pos (by omega)]), hm.g⟩
 ·have h1 : ¬ (10 < ((n : Nat) : Int)) := by simpa using hh
  clear hh
  refine gw_skip (nx_then (gw_seq (sr_ (mv_ rfl (wl_ov (ov_len es30 rfl) rfl (mv_ rfl (nn_ (gw_block ?_))))))))
  obtain ⟨TE, hTE⟩ : ∃ E, E = taxesE l := ⟨_, rfl⟩
  rw [← hTE]
  refine gw_loop (γ := Nat) (fun (k : Nat) => k ≤ n ∧ TE = taxG (l.take k) (l.drop k)) (fun (k : Nat) => [(0, .slice A n c0), (10, .slice A n c0), (11, .int .i64 ((n : Nat) : Int)), (12, .int .i64 ((k : Nat) : Int))]) (fun (k : Nat) => fun _ => True) (fun (k : Nat) => []) (fun (k : Nat) => []) (fun (k : Nat) => [SlOld txEnc 4 265 w.heap.size none A n l, OnsOld w.heap.size none l]) (fun (k : Nat) => n - k) 0 ⟨Nat.zero_le _, by rw [hTE]; unfold taxesE; rw [if_neg (by omega)]; rfl⟩ ⟨rfl, rfl, rfl, rfl, trivial⟩ (fun _ hm => hm.pick [] [] [0, 1] rfl rfl) ?_
  intro k hinv
  replace hinv : k ≤ n ∧ TE = taxG (l.take k) (l.drop k) := hinv
  refine sr_ (wl_ov (ov_lss rfl rfl) rfl (nn_ (gw_seq ?_)))
  refine gw_cond rfl (fun hh => ?_) (fun hh => ?_)
  ·have hk : ((k : Nat) : Int) < ((n : Nat) : Int) := by simpa using hh
   clear hh
   refine gw_skip (nx_then (gw_seq (gw_block (sr_ ?_))))
   obtain ⟨b, off, hA, _, _⟩ := hl.get (by omega)
   subst hA
   obtain ⟨x, hx⟩ : ∃ x, l[k]? = some x := ⟨_, List.getElem?_eq_getElem (by omega)⟩
   obtain ⟨key, mi, At, nt, ct, on, ov⟩ := x
   have hat := taxG_at hx
   obtain ⟨hk1, hnt⟩ := hok _ (List.mem_of_getElem? hx)
   have hk1 : key.size ≤ 1000000 := hk1
   have hnt : nt ≤ 1000 := hnt
   have hout := hinv
   refine mv_ rfl ?_
   refine wl_ov (ov_index (j := k) es30 rfl rfl (by omega)) rfl ?_
   refine wl_ov (ov_elem (vs := [.string key, .int .i64 mi, .slice At nt ct, .bool ov]) rz265 rfl (fun _ hm => (hm.fact 0 rfl).1) hx rfl rfl) rfl ?_
   refine wl_alloc zc265 rfl fun g1 => ?_
   refine sg_ rfl ?_
   refine wl_stores (cs' := [.string key, .int .i64 mi, .slice At nt ct, .bool ov]) 0 rz265 rfl rfl rfl rfl rfl rfl rfl rfl ?_
   refine nn_ (gw_seq (gw_block (sr_ (fd_ fo265_0 rfl rfl (lk_ sc9 0 rfl rfl rfl ?_)))))
   refine wl_callw rfl cb137 rfl rfl (fun wx hm => (isKey_any _ wx (by omega))) ?_
   refine wl_ov (ov_un_not rfl) rfl (sg_ rfl (nn_ ?_))
   refine gw_cond rfl (fun hh => ?_) (fun hh => ?_)
   ·have h2 : (keyB key) = false := by simpa using hh
    clear hh
    refine sr_ (sg_ rfl (nn_ ?_))
    refine gw_ret ?_
    refine nx_blk_ret (nx_then_ret (nx_blk_ret (nx_then_ret (nx_then_ret (nx_blk_ret (nx_then_ret ?_))))))
    have hE : taxE (l.take k) ⟨key, mi, At, nt, ct, on, ov⟩ = 5 := by unfold taxE; simp [h2]
    refine nx_ret1 rfl rfl fun wx hm => ?_
    exact ⟨ret_int (by rw [hout.2, hat, if_neg (by rw [hE]; decide), hE]), hm.g⟩
   ·have h2 : (keyB key) = true := by simpa using hh
    clear hh
    refine sr_ (mv_ rfl (mv_ rfl ?_))
    refine wl_ov (ov_sliceHi (hi := k) es30 rfl rfl rfl (by omega)) rfl ?_
    refine wl_ov (ov_makeFunc rfl rfl) rfl ?_
    refine wl_callv rfl cb204 rfl rfl (fun wx hm => (hasTax_c (l.take k) _ k c0 _ _ _ _ _ _ _ wx (SlT.takeT (hm.fact 0 rfl).1 (by omega)) (by omega) (hm.blkI 0 rfl))) ?_
    refine sg_ rfl (nn_ ?_)
    refine gw_cond rfl (fun hh => ?_) (fun hh => ?_)
    ·have h3 : ((l.take k).any (taxP key)) = true := by simpa using hh
     clear hh
     refine sr_ (sg_ rfl (nn_ ?_))
     refine gw_ret ?_
     refine nx_blk_ret (nx_then_ret (nx_blk_ret (nx_then_ret (nx_then_ret (nx_blk_ret (nx_then_ret ?_))))))
     have hE : taxE (l.take k) ⟨key, mi, At, nt, ct, on, ov⟩ = 6 := by unfold taxE; simp [h2, h3]
     refine nx_ret1 rfl rfl fun wx hm => ?_
     exact ⟨ret_int (by rw [hout.2, hat, if_neg (by rw [hE]; decide), hE]), hm.g⟩
    ·have h3 : ((l.take k).any (taxP key)) = false := by simpa using hh
     clear hh
     refine sr_ (fd_ fo265_1 rfl rfl (lk_ sc3 0 rfl rfl rfl ?_))
     refine wl_callw rfl cb175 rfl rfl (fun wx hm => (in_any _ _ _ wx)) ?_
     refine wl_ov (ov_un_not rfl) rfl (sg_ rfl (nn_ ?_))
     refine gw_cond rfl (fun hh => ?_) (fun hh => ?_)
     ·have h4 : (inB mi 0 1000) = false := by simpa using hh
      clear hh
      refine sr_ (sg_ rfl (nn_ ?_))
      refine gw_ret ?_
      refine nx_blk_ret (nx_then_ret (nx_blk_ret (nx_then_ret (nx_then_ret (nx_blk_ret (nx_then_ret ?_))))))
      have hE : taxE (l.take k) ⟨key, mi, At, nt, ct, on, ov⟩ = 1 := by unfold taxE; simp [h2, h3, h4]
      refine nx_ret1 rfl rfl fun wx hm => ?_
      exact ⟨ret_int (by rw [hout.2, hat, if_neg (by rw [hE]; decide), hE]), hm.g⟩
     ·have h4 : (inB mi 0 1000) = true := by simpa using hh
      clear hh
      refine gw_skip (nx_blk_nrm (nx_then (sr_ ?_)))
      have hEo : taxE (l.take k) ⟨key, mi, At, nt, ct, on, ov⟩ = onsE on := by unfold taxE; simp [h2, h3, h4]
      refine wl_also (Y := SlOld itEnc 1 3 w.heap.size none At nt on) (SlOld.lasts) (fun wx hm => (hm.fact 1 rfl) _ (List.mem_of_getElem? hx)) ?_
      refine wl_look (R := on.length = nt) (fun wx hm => ((hm.fact 0 rfl)).1.len) ?_
      intro hol
      refine fd_ fo265_2 rfl rfl (lk_ sc22 0 rfl rfl rfl (wl_ov (ov_len es22 rfl) rfl (mv_ rfl (nn_ (gw_block ?_)))))
      refine gw_loop (γ := Nat) (fun (q : Nat) => q ≤ nt ∧ onsE on = scanE onE (prevOf on q) (on.drop q)) (fun (q : Nat) => [(0, .slice (some ⟨b, off, none⟩) n c0), (4, .pointer (some ⟨g1, 0, none⟩)), (10, .slice (some ⟨b, off, none⟩) n c0), (11, .int .i64 ((n : Nat) : Int)), (12, .int .i64 ((k : Nat) : Int)), (34, .slice At nt ct), (35, .int .i64 ((nt : Nat) : Int)), (36, .int .i64 ((q : Nat) : Int))]) (fun (q : Nat) => fun _ => True) (fun (q : Nat) => [(g1, 265, [.string key, .int .i64 mi, .slice At nt ct, .bool ov])]) (fun (q : Nat) => []) (fun (q : Nat) => [SlOld itEnc 1 3 w.heap.size none At nt on, SlOld txEnc 4 265 w.heap.size none (some ⟨b, off, none⟩) n l, OnsOld w.heap.size none l]) (fun (q : Nat) => nt - q) 0 ⟨Nat.zero_le _, rfl⟩ ⟨rfl, rfl, rfl, rfl, rfl, rfl, rfl, rfl, trivial⟩ (fun _ hm => hm.pick [0] [] [0, 1, 2] rfl rfl) ?_
      intro q hinv
      replace hinv : q ≤ nt ∧ onsE on = scanE onE (prevOf on q) (on.drop q) := hinv
      refine sr_ ?_
      have hin := hinv
      refine wl_ov (ov_lss rfl rfl) rfl (nn_ (gw_seq ?_))
      refine gw_cond rfl (fun hh => ?_) (fun hh => ?_)
      ·have hq : ((q : Nat) : Int) < ((nt : Nat) : Int) := by simpa using hh
       clear hh
       refine gw_skip (nx_then (gw_seq (gw_block (sr_ ?_))))
       refine wl_look (R := SlT itEnc 1 3 w At nt on) (fun wx hm => hg _ (List.mem_of_getElem? hx)) ?_
       intro hso
       obtain ⟨b2, o2, hA, _, _⟩ := hso.get (by omega)
       subst hA
       obtain ⟨z0, hy⟩ : ∃ x, on[q]? = some x := ⟨_, List.getElem?_eq_getElem (by omega)⟩
       have han := scanE_at onE on q _ hy
       refine mv_ rfl ?_
       refine wl_ov (ov_index (j := q) es22 rfl rfl (by omega)) rfl ?_
       refine wl_ov (ov_elem1 (k := 0) (v := .int .i64 z0) sc3 rfl (fun _ hm => (hm.fact 0 rfl).1) hy rfl rfl) rfl ?_
       refine sg_ rfl (sg_ rfl (nn_ (gw_block (sr_ (mv_ rfl (wl_ov (ov_eql rfl rfl) rfl (mv_ rfl ?_)))))))
       rcases Bool.eq_false_or_eq_true (decide (z0 = 5)) with h5 | h5
       ·refine wl_set 44 rfl (congrArg Value.bool h5) ?_
        replace h5 : z0 = 5 := of_decide_eq_true h5
        refine goff rfl rfl rfl (goff rfl rfl rfl (goff rfl rfl rfl (pt_ rfl rfl (sg_ rfl (nn_ (ct_ rfl (sr_ (sg_ rfl (nn_ ?_)))))))))
        refine gw_ret ?_
        refine nx_blk_ret (nx_blk_ret (nx_then_ret (nx_then_ret (nx_blk_ret (nx_blk_ret (nx_then_ret (nx_then_ret (nx_blk_ret (nx_then_ret ?_)))))))))
        have hE : onE (prevOf on q) z0 = 4 := by unfold onE; simp [h5]
        have hE2 : onsE on = 4 := by rw [hin.2, han, if_neg (by rw [hE]; decide), hE]
        refine nx_ret1 rfl rfl fun wx hm => ?_
        exact ⟨ret_int (by rw [hout.2, hat, if_neg (by rw [hEo, hE2]; decide), hEo, hE2]), hm.g⟩
       ·refine wl_set 44 rfl (congrArg Value.bool h5) ?_
        replace h5 : ¬ z0 = 5 := of_decide_eq_false h5
        refine wl_guard_on rfl rfl rfl (mv_ rfl (wl_guard_on rfl rfl rfl ?_))
        refine wl_callw rfl cb175 rfl rfl (fun wx hm => (in_any _ _ _ wx)) ?_
        refine wl_guard_on rfl rfl rfl (wl_ov (ov_un_not rfl) rfl (pf_ rfl rfl (sg_ rfl (nn_ ?_))))
        refine gw_cond rfl (fun hh => ?_) (fun hh => ?_)
        ·have h6 : (inB z0 1 6) = false := by simpa using hh
         clear hh
         refine sr_ (sg_ rfl (nn_ ?_))
         refine gw_ret ?_
         refine nx_blk_ret (nx_blk_ret (nx_then_ret (nx_then_ret (nx_blk_ret (nx_blk_ret (nx_then_ret (nx_then_ret (nx_blk_ret (nx_then_ret ?_)))))))))
         have hE : onE (prevOf on q) z0 = 4 := by unfold onE; simp [h5, h6]
         have hE2 : onsE on = 4 := by rw [hin.2, han, if_neg (by rw [hE]; decide), hE]
         refine nx_ret1 rfl rfl fun wx hm => ?_
         exact ⟨ret_int (by rw [hout.2, hat, if_neg (by rw [hEo, hE2]; decide), hEo, hE2]), hm.g⟩
        ·have h6 : (inB z0 1 6) = true := by simpa using hh
         clear hh
         refine sr_ ?_
         by_cases hq0 : q = 0
         ·have hO : onB (prevOf on q) z0 = false := by rw [prevOf_zero hq0]; rfl
          refine mv_ rfl ?_
          refine wl_ov (ov_gtr rfl rfl) rfl ?_
          refine wl_set 51 (v' := .bool false) rfl (congrArg Value.bool (decide_eq_false (by omega))) ?_
          refine mv_ rfl (goff rfl rfl rfl (goff rfl rfl rfl (goff rfl rfl rfl (goff rfl rfl rfl (goff rfl rfl rfl (goff rfl rfl rfl (goff rfl rfl rfl (goff rfl rfl rfl (pf_ rfl rfl (sg_ rfl (nn_ (cf_ rfl ?_))))))))))))
          refine gw_skip (nx_blk_nrm (nx_blk_nrm (nx_then (gw_region (ad_ rfl rfl (mv_ rfl (wl_nil ?_)))))))
          have hE : onE (prevOf on q) z0 = 0 := by unfold onE; simp [h5, h6, hO]
          exact nx_round (q + 1) ⟨by omega, by rw [hin.2, han, if_pos hE]⟩ (by omega) ⟨rfl, rfl, rfl, rfl, rfl, rfl, rfl, (some_int (by omega)), trivial⟩ (fun _ hm => hm.pick [0] [] [0, 1, 2] rfl rfl)
         ·obtain ⟨z1, hz⟩ : ∃ x, on[q - 1]? = some x := ⟨_, List.getElem?_eq_getElem (by omega)⟩
          refine mv_ rfl ?_
          refine wl_ov (ov_gtr rfl rfl) rfl ?_
          refine wl_set 51 (v' := .bool true) rfl (congrArg Value.bool (decide_eq_true (by omega))) ?_
          refine mv_ rfl (wl_guard_on rfl rfl rfl (mv_ rfl (wl_guard_on rfl rfl rfl (fd_ fo265_2 rfl rfl (wl_guard_on rfl rfl rfl (lk_ sc22 0 rfl rfl rfl (wl_guard_on rfl rfl rfl (mv_ rfl (wl_guard_on rfl rfl rfl ?_)))))))))
          refine wl_ov (ov_sub rfl rfl (by omega) (by omega)) rfl ?_
          refine wl_set 57 (v' := .int .i64 ((q - 1 : Nat) : Int)) rfl (congrArg (Value.int .i64) (by omega)) ?_
          refine wl_guard_on rfl rfl rfl ?_
          refine wl_ov (ov_index (j := q - 1) es22 rfl rfl (by omega)) rfl ?_
          refine wl_guard_on rfl rfl rfl ?_
          refine wl_ov (ov_elem1 (k := 0) (v := .int .i64 z1) sc3 rfl (fun _ hm => (hm.fact 0 rfl).1) hz rfl rfl) rfl ?_
          refine wl_guard_on rfl rfl rfl (wl_ov (ov_leq rfl rfl) rfl (pt_ rfl rfl (sg_ rfl (nn_ ?_))))
          refine gw_cond rfl (fun hh => ?_) (fun hh => ?_)
          ·have h7 : z0 ≤ z1 := by simpa using hh
           clear hh
           refine sr_ ?_
           have hO : onB (prevOf on q) z0 = true := by rw [prevOf_pos hq0 hz]; exact decide_eq_true h7
           refine sg_ rfl (nn_ ?_)
           refine gw_ret ?_
           refine nx_blk_ret (nx_blk_ret (nx_then_ret (nx_then_ret (nx_blk_ret (nx_blk_ret (nx_then_ret (nx_then_ret (nx_blk_ret (nx_then_ret ?_)))))))))
           have hE : onE (prevOf on q) z0 = 7 := by unfold onE; simp [h5, h6, hO]
           have hE2 : onsE on = 7 := by rw [hin.2, han, if_neg (by rw [hE]; decide), hE]
           refine nx_ret1 rfl rfl fun wx hm => ?_
           exact ⟨ret_int (by rw [hout.2, hat, if_neg (by rw [hEo, hE2]; decide), hEo, hE2]), hm.g⟩
          ·have h7 : ¬ (z0 ≤ z1) := by simpa using hh
           clear hh
           refine gw_skip (nx_blk_nrm (nx_blk_nrm (nx_then (gw_region ?_))))
           have hO : onB (prevOf on q) z0 = false := by rw [prevOf_pos hq0 hz]; exact decide_eq_false h7
           refine ad_ rfl rfl (mv_ rfl (wl_nil ?_))
           have hE : onE (prevOf on q) z0 = 0 := by unfold onE; simp [h5, h6, hO]
           exact nx_round (q + 1) ⟨by omega, by rw [hin.2, han, if_pos hE]⟩ (by omega) ⟨rfl, rfl, rfl, rfl, rfl, rfl, rfl, (some_int (by omega)), trivial⟩ (fun _ hm => hm.pick [0] [] [0, 1, 2] rfl rfl)
      ·have hq : ¬ (((q : Nat) : Int) < ((nt : Nat) : Int)) := by simpa using hh
       clear hh
       refine gw_exit ?_
       refine nx_then_exit (nx_then_exit ?_)
       refine nx_blk_here ?_
       refine nx_blk_nrm (nx_then (gw_region (ad_ rfl rfl (mv_ rfl (wl_nil ?_)))))
       have hE : taxE (l.take k) ⟨key, mi, At, nt, ct, on, ov⟩ = 0 := by rw [hEo, hin.2, scanE_end _ _ _ _ (by omega)]
       exact nx_round (k + 1) ⟨by omega, by rw [hout.2, hat, if_pos hE]⟩ (by omega) ⟨rfl, rfl, rfl, (some_int (by omega)), trivial⟩ (fun _ hm => hm.pick [] [] [1, 2] rfl rfl)
  ·have hk : ¬ (((k : Nat) : Int) < ((n : Nat) : Int)) := by simpa using hh
   clear hh
   refine gw_exit ?_
   refine nx_then_exit (nx_then_exit ?_)
   refine nx_blk_here ?_
   refine nx_then (sr_ (sg_ rfl (nn_ ?_)))
   refine gw_ret ?_
   refine nx_ret1 rfl rfl fun wx hm => ?_
   exact ⟨ret_int (by rw [hinv.2, taxG_end (by omega)]), hm.g⟩
set_option maxRecDepth 100000 in
set_option maxHeartbeats 400000 in
theorem predTax_r (key : ByteArray) (mi : Int) (At : Option Addr) (nt ct : Nat) (on : List Int) (ov : Bool) (gk : Nat) (k0 : ByteArray) (k1 : Int) (k2 : Option Addr) (k3 k4 : Nat) (k5 : Bool) (w : World) (hk : Blk w gk 265 [.string k0, .int .i64 k1, .slice k2 k3 k4, .bool k5]) :
  Calls Tryz.prog 205 #[.agg #[.string key, .int .i64 mi, .slice At nt ct, .bool ov], .pointer (some ⟨gk, 0, none⟩)] w (fun e w' => e = .returned (.bool (taxP k0 ⟨key, mi, At, nt, ct, on, ov⟩)) ∧ w.grownBy w' none) := by
 refine gw_enter ⟨9, w, none, []⟩ Tryz.func205 rfl Tryz.ntmps205 rfl (mem0 (X := [BlkOld w.heap.size none gk 265 [.string k0, .int .i64 k1, .slice k2 k3 k4, .bool k5]]) (allF_cons hk.old allF_nil) (allL_cons BlkOld.lasts allL_nil)) ?_
 refine sr_ ?_
 refine wl_box rfl rfl rfl fun g1 => ?_
 refine sg_ rfl (nn_ (sr_ (fd_ fo265_0 rfl rfl (lk_ sc9 0 rfl rfl rfl (fd_ fo265_0 rfl rfl ?_)))))
 refine wl_ov (ov_load (v := .string k0) sc9 rfl (fun _ hm => (hm.fact 0 rfl).2) rfl) rfl ?_
 refine wl_ov (ov_seql rfl rfl) rfl (sg_ rfl (nn_ ?_))
 refine gw_ret ?_
 refine nx_ret1 rfl rfl fun wx hm => ?_
 exact ⟨rfl, hm.g⟩
set_option maxRecDepth 100000 in
set_option maxHeartbeats 400000 in
theorem indexTax_r (l : List Tx) (A : Option Addr) (n c0 : Nat) (gk : Nat) (k0 : ByteArray) (k1 : Int) (k2 : Option Addr) (k3 k4 : Nat) (k5 : Bool) (w : World) (hl : SlT txEnc 4 265 w A n l) (hn : n ≤ 1000000) (hk : Blk w gk 265 [.string k0, .int .i64 k1, .slice k2 k3 k4, .bool k5]) :
  Calls Tryz.prog 257 #[.slice A n c0, .func (.func 205) #[] #[.pointer (some ⟨gk, 0, none⟩)]] w (GotE w (ixP (taxP k0) l 0)) := by
 refine gw_enter ⟨19, w, none, []⟩ Tryz.func257 rfl Tryz.ntmps257 rfl (mem0 (X := [SlOld txEnc 4 265 w.heap.size none A n l, BlkOld w.heap.size none gk 265 [.string k0, .int .i64 k1, .slice k2 k3 k4, .bool k5]]) (allF_cons hl.old (allF_cons hk.old allF_nil)) (allL_cons SlOld.lasts (allL_cons BlkOld.lasts allL_nil))) ?_
 refine sr_ ?_
 have hlen := hl.len
 refine sg_ rfl (nn_ (gw_seq (sr_ (mv_ rfl (wl_ov (ov_len es30 rfl) rfl (mv_ rfl (nn_ (gw_block ?_))))))))
 refine gw_loop (γ := Nat) (fun (i : Nat) => i ≤ n ∧ ixP (taxP k0) l 0 = ixP (taxP k0) (l.drop i) i) (fun (i : Nat) => [(0, .slice A n c0), (1, .func (.func 205) #[] #[.pointer (some ⟨gk, 0, none⟩)]), (7, .int .i64 ((n : Nat) : Int)), (8, .int .i64 ((i : Nat) : Int))]) (fun (i : Nat) => fun _ => True) (fun (i : Nat) => []) (fun (i : Nat) => []) (fun (i : Nat) => [SlOld txEnc 4 265 w.heap.size none A n l, BlkOld w.heap.size none gk 265 [.string k0, .int .i64 k1, .slice k2 k3 k4, .bool k5]]) (fun (i : Nat) => n - i) 0 ⟨Nat.zero_le _, rfl⟩ ⟨rfl, rfl, rfl, rfl, trivial⟩ (fun _ hm => hm.pick [] [] [0, 1] rfl rfl) ?_
 intro i hinv
 replace hinv : i ≤ n ∧ ixP (taxP k0) l 0 = ixP (taxP k0) (l.drop i) i := hinv
 refine sr_ (wl_ov (ov_lss rfl rfl) rfl (nn_ (gw_seq ?_)))
 refine gw_cond rfl (fun hh => ?_) (fun hh => ?_)
 ·have hi : ((i : Nat) : Int) < ((n : Nat) : Int) := by simpa using hh
  clear hh
  refine gw_skip (nx_then (gw_seq (gw_block (sr_ ?_))))
  obtain ⟨b, off, hA, _, _⟩ := hl.get (by omega)
  subst hA
  obtain ⟨x, hx⟩ : ∃ x, l[i]? = some x := ⟨_, List.getElem?_eq_getElem (by omega)⟩
  obtain ⟨key, mi, At, nt, ct, on, ov⟩ := x
  have hat := ixP_at (p := taxP k0) hx
  refine mv_ rfl (sg_ rfl (nn_ (sr_ (mv_ rfl (mv_ rfl (mv_ rfl ?_))))))
  refine wl_ov (ov_index (j := i) es30 rfl rfl (by omega)) rfl ?_
  refine wl_ov (ov_elem (vs := [.string key, .int .i64 mi, .slice At nt ct, .bool ov]) rz265 rfl (fun _ hm => (hm.fact 0 rfl).1) hx rfl rfl) rfl ?_
  refine wl_callv rfl cb205 rfl rfl (fun wx hm => (predTax_r key mi At nt ct on ov gk k0 k1 k2 k3 k4 k5 wx (hm.fact 1 rfl).2)) ?_
  refine nn_ ?_
  refine gw_cond rfl (fun hh => ?_) (fun hh => ?_)
  ·have hq : (taxP k0 ⟨key, mi, At, nt, ct, on, ov⟩) = true := by simpa using hh
   clear hh
   refine sr_ (mv_ rfl (sg_ rfl (nn_ ?_)))
   refine gw_ret ?_
   refine nx_blk_ret (nx_then_ret (nx_then_ret (nx_blk_ret (nx_then_ret ?_))))
   refine nx_ret1 rfl rfl fun wx hm => ?_
   exact ⟨ret_int (by rw [hinv.2, hat, if_pos hq]), hm.g⟩
  ·have hq : (taxP k0 ⟨key, mi, At, nt, ct, on, ov⟩) = false := by simpa using hh
   clear hh
   refine gw_skip (nx_blk_nrm (nx_then (gw_region (ad_ rfl rfl (mv_ rfl (wl_nil ?_))))))
   exact nx_round (i + 1) ⟨by omega, by rw [hinv.2, hat, if_neg (by rw [hq]; decide)]⟩ (by omega) ⟨rfl, rfl, rfl, (some_int (by omega)), trivial⟩ (fun _ hm => hm.pick [] [] [0, 1] rfl rfl)
 ·have hi : ¬ (((i : Nat) : Int) < ((n : Nat) : Int)) := by simpa using hh
  clear hh
  refine gw_exit ?_
  refine nx_then_exit (nx_then_exit ?_)
  refine nx_blk_here ?_
  refine nx_then (sr_ (sg_ rfl ?_))
  refine wl_set 4 (v' := .int .i64 (-1)) rfl rfl ?_
  refine nn_ ?_
  refine gw_ret ?_
  refine nx_ret1 rfl rfl fun wx hm => ?_
  exact ⟨ret_int (by rw [hinv.2, List.drop_eq_nil_of_le (by omega)]; rfl), hm.g⟩
set_option maxRecDepth 100000 in
set_option maxHeartbeats 400000 in
theorem hasTax_r (l : List Tx) (A : Option Addr) (n c0 : Nat) (gk : Nat) (k0 : ByteArray) (k1 : Int) (k2 : Option Addr) (k3 k4 : Nat) (k5 : Bool) (w : World) (hl : SlT txEnc 4 265 w A n l) (hn : n ≤ 1000000) (hk : Blk w gk 265 [.string k0, .int .i64 k1, .slice k2 k3 k4, .bool k5]) :
  Calls Tryz.prog 204 #[.slice A n c0, .func (.func 205) #[] #[.pointer (some ⟨gk, 0, none⟩)]] w (fun e w' => e = .returned (.bool (l.any (taxP k0))) ∧ w.grownBy w' none) := by
 refine gw_enter ⟨9, w, none, []⟩ Tryz.func204 rfl Tryz.ntmps204 rfl (mem0 (X := [SlOld txEnc 4 265 w.heap.size none A n l, BlkOld w.heap.size none gk 265 [.string k0, .int .i64 k1, .slice k2 k3 k4, .bool k5]]) (allF_cons hl.old (allF_cons hk.old allF_nil)) (allL_cons SlOld.lasts (allL_cons BlkOld.lasts allL_nil))) ?_
 refine sr_ (sg_ rfl (nn_ (sr_ (mv_ rfl (mv_ rfl ?_)))))
 refine wl_callv rfl cb257 rfl rfl (fun wx hm => (indexTax_r l A n c0 gk k0 k1 k2 k3 k4 k5 wx (hm.fact 0 rfl).1 hn (hm.fact 1 rfl).2)) ?_
 refine wl_ov (ov_geq rfl rfl) rfl ?_
 refine sg_ rfl (nn_ ?_)
 refine gw_ret ?_
 refine nx_ret1 rfl rfl fun wx hm => ?_
 exact ⟨by rw [← ix_any], hm.g⟩
set_option maxRecDepth 100000 in
set_option maxHeartbeats 1000000 in
theorem taxesFault_any (l : List Tx) (A : Option Addr) (n c0 : Nat) (w : World) (hl : SlT txEnc 4 265 w A n l) (hg : Ons l w) (hok : ∀ x ∈ l, TxOk x) (hn : n ≤ 1000000) (hc : n ≤ c0) :
  Calls Tryz.prog 101 #[.slice A n c0] w (GotE w (taxesE l)) := by
 refine gw_enter ⟨62, w, none, []⟩ Tryz.func101 rfl Tryz.ntmps101 rfl (mem0 (X := [SlOld txEnc 4 265 w.heap.size none A n l, OnsOld w.heap.size none l]) (allF_cons hl.old (allF_cons hg.old allF_nil)) (allL_cons SlOld.lasts (allL_cons OnsOld.lasts allL_nil))) ?_
 refine sr_ ?_
 have hlen := hl.len
 refine sg_ rfl (nn_ (gw_seq (sr_ (mv_ rfl (wl_ov (ov_len es30 rfl) rfl ?_)))))
 refine wl_ov (ov_gtr rfl rfl) rfl ?_
 refine nn_ ?_
 refine gw_cond rfl (fun hh => ?_) (fun hh => ?_)
 ·have h1 : 10 < ((n : Nat) : Int) := by simpa using hh
  clear hh
  refine sr_ (sg_ rfl (nn_ ?_))
  refine gw_ret ?_
  refine nx_then_ret ?_
  refine nx_ret1 rfl rfl fun wx hm => ?_
  exact ⟨ret_int (by unfold taxesE; rw [if_pos (by omega)]), hm.g⟩
 ·have h1 : ¬ (10 < ((n : Nat) : Int)) := by simpa using hh
  clear hh
  refine gw_skip (nx_then (gw_seq (sr_ (mv_ rfl (wl_ov (ov_len es30 rfl) rfl (mv_ rfl (nn_ (gw_block ?_))))))))
  obtain ⟨TE, hTE⟩ : ∃ E, E = taxesE l := ⟨_, rfl⟩
  rw [← hTE]
  refine gw_loop (γ := Nat) (fun (k : Nat) => k ≤ n ∧ TE = taxG (l.take k) (l.drop k)) (fun (k : Nat) => [(0, .slice A n c0), (10, .slice A n c0), (11, .int .i64 ((n : Nat) : Int)), (12, .int .i64 ((k : Nat) : Int))]) (fun (k : Nat) => fun _ => True) (fun (k : Nat) => []) (fun (k : Nat) => []) (fun (k : Nat) => [SlOld txEnc 4 265 w.heap.size none A n l, OnsOld w.heap.size none l]) (fun (k : Nat) => n - k) 0 ⟨Nat.zero_le _, by rw [hTE]; unfold taxesE; rw [if_neg (by omega)]; rfl⟩ ⟨rfl, rfl, rfl, rfl, trivial⟩ (fun _ hm => hm.pick [] [] [0, 1] rfl rfl) ?_
  intro k hinv
  replace hinv : k ≤ n ∧ TE = taxG (l.take k) (l.drop k) := hinv
  refine sr_ (wl_ov (ov_lss rfl rfl) rfl (nn_ (gw_seq ?_)))
  refine gw_cond rfl (fun hh => ?_) (fun hh => ?_)
  ·have hk : ((k : Nat) : Int) < ((n : Nat) : Int) := by simpa using hh
   clear hh
   refine gw_skip (nx_then (gw_seq (gw_block (sr_ ?_))))
   obtain ⟨b, off, hA, _, _⟩ := hl.get (by omega)
   subst hA
   obtain ⟨x, hx⟩ : ∃ x, l[k]? = some x := ⟨_, List.getElem?_eq_getElem (by omega)⟩
   obtain ⟨key, mi, At, nt, ct, on, ov⟩ := x
   have hat := taxG_at hx
   obtain ⟨hk1, hnt⟩ := hok _ (List.mem_of_getElem? hx)
   have hk1 : key.size ≤ 1000000 := hk1
   have hnt : nt ≤ 1000 := hnt
   have hout := hinv
   refine mv_ rfl ?_
   refine wl_ov (ov_index (j := k) es30 rfl rfl (by omega)) rfl ?_
   refine wl_ov (ov_elem (vs := [.string key, .int .i64 mi, .slice At nt ct, .bool ov]) rz265 rfl (fun _ hm => (hm.fact 0 rfl).1) hx rfl rfl) rfl ?_
   refine wl_alloc zc265 rfl fun g1 => ?_
   refine sg_ rfl ?_
   refine wl_stores (cs' := [.string key, .int .i64 mi, .slice At nt ct, .bool ov]) 0 rz265 rfl rfl rfl rfl rfl rfl rfl rfl ?_
   refine nn_ (gw_seq (gw_block (sr_ (fd_ fo265_0 rfl rfl (lk_ sc9 0 rfl rfl rfl ?_)))))
   refine wl_callv rfl cb108 rfl rfl (fun wx hm => (key_any _ wx (by omega))) ?_
   refine wl_ov (ov_un_not rfl) rfl (sg_ rfl (nn_ ?_))
   refine gw_cond rfl (fun hh => ?_) (fun hh => ?_)
   ·have h2 : (keyB key) = false := by simpa using hh
    clear hh
    refine sr_ (sg_ rfl (nn_ ?_))
    refine gw_ret ?_
    refine nx_blk_ret (nx_then_ret (nx_blk_ret (nx_then_ret (nx_then_ret (nx_blk_ret (nx_then_ret ?_))))))
    have hE : taxE (l.take k) ⟨key, mi, At, nt, ct, on, ov⟩ = 5 := by unfold taxE; simp [h2]
    refine nx_ret1 rfl rfl fun wx hm => ?_
    exact ⟨ret_int (by rw [hout.2, hat, if_neg (by rw [hE]; decide), hE]), hm.g⟩
   ·have h2 : (keyB key) = true := by simpa using hh
    clear hh
    refine sr_ (mv_ rfl (mv_ rfl ?_))
    refine wl_ov (ov_sliceHi (hi := k) es30 rfl rfl rfl (by omega)) rfl ?_
    refine wl_ov (ov_makeFunc rfl rfl) rfl ?_
    refine wl_callv rfl cb204 rfl rfl (fun wx hm => (hasTax_r (l.take k) _ k c0 _ _ _ _ _ _ _ wx (SlT.takeT (hm.fact 0 rfl).1 (by omega)) (by omega) (hm.blkI 0 rfl))) ?_
    refine sg_ rfl (nn_ ?_)
    refine gw_cond rfl (fun hh => ?_) (fun hh => ?_)
    ·have h3 : ((l.take k).any (taxP key)) = true := by simpa using hh
     clear hh
     refine sr_ (sg_ rfl (nn_ ?_))
     refine gw_ret ?_
     refine nx_blk_ret (nx_then_ret (nx_blk_ret (nx_then_ret (nx_then_ret (nx_blk_ret (nx_then_ret ?_))))))
     have hE : taxE (l.take k) ⟨key, mi, At, nt, ct, on, ov⟩ = 6 := by unfold taxE; simp [h2, h3]
     refine nx_ret1 rfl rfl fun wx hm => ?_
     exact ⟨ret_int (by rw [hout.2, hat, if_neg (by rw [hE]; decide), hE]), hm.g⟩
    ·have h3 : ((l.take k).any (taxP key)) = false := by simpa using hh
     clear hh
     refine sr_ (fd_ fo265_1 rfl rfl (lk_ sc3 0 rfl rfl rfl ?_))
     refine wl_callw rfl cb133 rfl rfl (fun wx hm => (rin_any _ _ _ wx)) ?_
     refine wl_ov (ov_un_not rfl) rfl (sg_ rfl (nn_ ?_))
     refine gw_cond rfl (fun hh => ?_) (fun hh => ?_)
     ·have h4 : (inB mi 0 1000) = false := by simpa using hh
      clear hh
      refine sr_ (sg_ rfl (nn_ ?_))
      refine gw_ret ?_
      refine nx_blk_ret (nx_then_ret (nx_blk_ret (nx_then_ret (nx_then_ret (nx_blk_ret (nx_then_ret ?_))))))
      have hE : taxE (l.take k) ⟨key, mi, At, nt, ct, on, ov⟩ = 1 := by unfold taxE; simp [h2, h3, h4]
      refine nx_ret1 rfl rfl fun wx hm => ?_
      exact ⟨ret_int (by rw [hout.2, hat, if_neg (by rw [hE]; decide), hE]), hm.g⟩
     ·have h4 : (inB mi 0 1000) = true := by simpa using hh
      clear hh
      refine gw_skip (nx_blk_nrm (nx_then (sr_ ?_)))
      have hEo : taxE (l.take k) ⟨key, mi, At, nt, ct, on, ov⟩ = onsE on := by unfold taxE; simp [h2, h3, h4]
      refine wl_also (Y := SlOld itEnc 1 3 w.heap.size none At nt on) (SlOld.lasts) (fun wx hm => (hm.fact 1 rfl) _ (List.mem_of_getElem? hx)) ?_
      refine wl_look (R := on.length = nt) (fun wx hm => ((hm.fact 0 rfl)).1.len) ?_
      intro hol
      refine fd_ fo265_2 rfl rfl (lk_ sc22 0 rfl rfl rfl (wl_ov (ov_len es22 rfl) rfl (mv_ rfl (nn_ (gw_block ?_)))))
      refine gw_loop (γ := Nat) (fun (q : Nat) => q ≤ nt ∧ onsE on = scanE onE (prevOf on q) (on.drop q)) (fun (q : Nat) => [(0, .slice (some ⟨b, off, none⟩) n c0), (4, .pointer (some ⟨g1, 0, none⟩)), (10, .slice (some ⟨b, off, none⟩) n c0), (11, .int .i64 ((n : Nat) : Int)), (12, .int .i64 ((k : Nat) : Int)), (34, .slice At nt ct), (35, .int .i64 ((nt : Nat) : Int)), (36, .int .i64 ((q : Nat) : Int))]) (fun (q : Nat) => fun _ => True) (fun (q : Nat) => [(g1, 265, [.string key, .int .i64 mi, .slice At nt ct, .bool ov])]) (fun (q : Nat) => []) (fun (q : Nat) => [SlOld itEnc 1 3 w.heap.size none At nt on, SlOld txEnc 4 265 w.heap.size none (some ⟨b, off, none⟩) n l, OnsOld w.heap.size none l]) (fun (q : Nat) => nt - q) 0 ⟨Nat.zero_le _, rfl⟩ ⟨rfl, rfl, rfl, rfl, rfl, rfl, rfl, rfl, trivial⟩ (fun _ hm => hm.pick [0] [] [0, 1, 2] rfl rfl) ?_
      intro q hinv
      replace hinv : q ≤ nt ∧ onsE on = scanE onE (prevOf on q) (on.drop q) := hinv
      refine sr_ ?_
      have hin := hinv
      refine wl_ov (ov_lss rfl rfl) rfl (nn_ (gw_seq ?_))
      refine gw_cond rfl (fun hh => ?_) (fun hh => ?_)
      ·have hq : ((q : Nat) : Int) < ((nt : Nat) : Int) := by simpa using hh
       clear hh
       refine gw_skip (nx_then (gw_seq (gw_block (sr_ ?_))))
       refine wl_look (R := SlT itEnc 1 3 w At nt on) (fun wx hm => hg _ (List.mem_of_getElem? hx)) ?_
       intro hso
       obtain ⟨b2, o2, hA, _, _⟩ := hso.get (by omega)
       subst hA
       obtain ⟨z0, hy⟩ : ∃ x, on[q]? = some x := ⟨_, List.getElem?_eq_getElem (by omega)⟩
       have han := scanE_at onE on q _ hy
       refine mv_ rfl ?_
       refine wl_ov (ov_index (j := q) es22 rfl rfl (by omega)) rfl ?_
       refine wl_ov (ov_elem1 (k := 0) (v := .int .i64 z0) sc3 rfl (fun _ hm => (hm.fact 0 rfl).1) hy rfl rfl) rfl ?_
       refine sg_ rfl (sg_ rfl (nn_ (gw_seq (sr_ (mv_ rfl ?_)))))
       refine wl_callw rfl cb133 rfl rfl (fun wx hm => (rin_any _ _ _ wx)) ?_
       refine wl_ov (ov_un_not rfl) rfl (mv_ rfl ?_)
       rcases Bool.eq_false_or_eq_true (!(inB z0 1 6)) with h5 | h5
       ·refine wl_set 44 rfl (congrArg Value.bool h5) ?_
        refine goff rfl rfl rfl (goff rfl rfl rfl (pt_ rfl rfl (nn_ (ct_ rfl (sr_ (sg_ rfl (nn_ ?_)))))))
        refine gw_ret ?_
        refine nx_then_ret (nx_blk_ret (nx_then_ret (nx_then_ret (nx_blk_ret (nx_blk_ret (nx_then_ret (nx_then_ret (nx_blk_ret (nx_then_ret ?_)))))))))
        have hE : onE (prevOf on q) z0 = 4 := by unfold onE; simp [h5]
        have hE2 : onsE on = 4 := by rw [hin.2, han, if_neg (by rw [hE]; decide), hE]
        refine nx_ret1 rfl rfl fun wx hm => ?_
        exact ⟨ret_int (by rw [hout.2, hat, if_neg (by rw [hEo, hE2]; decide), hEo, hE2]), hm.g⟩
       ·refine wl_set 44 rfl (congrArg Value.bool h5) ?_
        refine wl_guard_on rfl rfl rfl (mv_ rfl (wl_guard_on rfl rfl rfl (wl_ov (ov_eql rfl rfl) rfl (pf_ rfl rfl (nn_ ?_)))))
        refine gw_cond rfl (fun hh => ?_) (fun hh => ?_)
        ·have h6 : z0 = 5 := by simpa using hh
         clear hh
         refine sr_ (sg_ rfl (nn_ ?_))
         refine gw_ret ?_
         refine nx_then_ret (nx_blk_ret (nx_then_ret (nx_then_ret (nx_blk_ret (nx_blk_ret (nx_then_ret (nx_then_ret (nx_blk_ret (nx_then_ret ?_)))))))))
         have hE : onE (prevOf on q) z0 = 4 := by unfold onE; simp [h6]
         have hE2 : onsE on = 4 := by rw [hin.2, han, if_neg (by rw [hE]; decide), hE]
         refine nx_ret1 rfl rfl fun wx hm => ?_
         exact ⟨ret_int (by rw [hout.2, hat, if_neg (by rw [hEo, hE2]; decide), hEo, hE2]), hm.g⟩
        ·have h6 : ¬ (z0 = 5) := by simpa using hh
         clear hh
         refine gw_skip (nx_then (sr_ ?_))
         by_cases hq0 : q = 0
         ·have hO : onB (prevOf on q) z0 = false := by rw [prevOf_zero hq0]; rfl
          refine mv_ rfl ?_
          refine wl_ov (ov_gtr rfl rfl) rfl ?_
          refine wl_set 49 (v' := .bool false) rfl (congrArg Value.bool (decide_eq_false (by omega))) ?_
          refine mv_ rfl (goff rfl rfl rfl (goff rfl rfl rfl (goff rfl rfl rfl (goff rfl rfl rfl (goff rfl rfl rfl (goff rfl rfl rfl (goff rfl rfl rfl (goff rfl rfl rfl (pf_ rfl rfl (nn_ (cf_ rfl (gw_skip ?_))))))))))))
          refine nx_blk_nrm (nx_then (gw_region (ad_ rfl rfl (mv_ rfl (wl_nil ?_)))))
          have hE : onE (prevOf on q) z0 = 0 := by unfold onE; simp [h5, h6, hO]
          exact nx_round (q + 1) ⟨by omega, by rw [hin.2, han, if_pos hE]⟩ (by omega) ⟨rfl, rfl, rfl, rfl, rfl, rfl, rfl, (some_int (by omega)), trivial⟩ (fun _ hm => hm.pick [0] [] [0, 1, 2] rfl rfl)
         ·obtain ⟨z1, hz⟩ : ∃ x, on[q - 1]? = some x := ⟨_, List.getElem?_eq_getElem (by omega)⟩
          refine mv_ rfl ?_
          refine wl_ov (ov_gtr rfl rfl) rfl ?_
          refine wl_set 49 (v' := .bool true) rfl (congrArg Value.bool (decide_eq_true (by omega))) ?_
          refine mv_ rfl (wl_guard_on rfl rfl rfl (mv_ rfl (wl_guard_on rfl rfl rfl (fd_ fo265_2 rfl rfl (wl_guard_on rfl rfl rfl (lk_ sc22 0 rfl rfl rfl (wl_guard_on rfl rfl rfl (mv_ rfl (wl_guard_on rfl rfl rfl ?_)))))))))
          refine wl_ov (ov_sub rfl rfl (by omega) (by omega)) rfl ?_
          refine wl_set 55 (v' := .int .i64 ((q - 1 : Nat) : Int)) rfl (congrArg (Value.int .i64) (by omega)) ?_
          refine wl_guard_on rfl rfl rfl ?_
          refine wl_ov (ov_index (j := q - 1) es22 rfl rfl (by omega)) rfl ?_
          refine wl_guard_on rfl rfl rfl ?_
          refine wl_ov (ov_elem1 (k := 0) (v := .int .i64 z1) sc3 rfl (fun _ hm => (hm.fact 0 rfl).1) hz rfl rfl) rfl ?_
          refine wl_guard_on rfl rfl rfl (wl_ov (ov_leq rfl rfl) rfl (pt_ rfl rfl (nn_ ?_)))
          refine gw_cond rfl (fun hh => ?_) (fun hh => ?_)
          ·have h7 : z0 ≤ z1 := by simpa using hh
           clear hh
           refine sr_ ?_
           have hO : onB (prevOf on q) z0 = true := by rw [prevOf_pos hq0 hz]; exact decide_eq_true h7
           refine sg_ rfl (nn_ ?_)
           refine gw_ret ?_
           refine nx_blk_ret (nx_then_ret (nx_then_ret (nx_blk_ret (nx_blk_ret (nx_then_ret (nx_then_ret (nx_blk_ret (nx_then_ret ?_))))))))
           have hE : onE (prevOf on q) z0 = 7 := by unfold onE; simp [h5, h6, hO]
           have hE2 : onsE on = 7 := by rw [hin.2, han, if_neg (by rw [hE]; decide), hE]
           refine nx_ret1 rfl rfl fun wx hm => ?_
           exact ⟨ret_int (by rw [hout.2, hat, if_neg (by rw [hEo, hE2]; decide), hEo, hE2]), hm.g⟩
          ·have h7 : ¬ (z0 ≤ z1) := by simpa using hh
           clear hh
           refine gw_skip (nx_blk_nrm (nx_then (gw_region ?_)))
           have hO : onB (prevOf on q) z0 = false := by rw [prevOf_pos hq0 hz]; exact decide_eq_false h7
           refine ad_ rfl rfl (mv_ rfl (wl_nil ?_))
           have hE : onE (prevOf on q) z0 = 0 := by unfold onE; simp [h5, h6, hO]
           exact nx_round (q + 1) ⟨by omega, by rw [hin.2, han, if_pos hE]⟩ (by omega) ⟨rfl, rfl, rfl, rfl, rfl, rfl, rfl, (some_int (by omega)), trivial⟩ (fun _ hm => hm.pick [0] [] [0, 1, 2] rfl rfl)
      ·have hq : ¬ (((q : Nat) : Int) < ((nt : Nat) : Int)) := by simpa using hh
       clear hh
       refine gw_exit ?_
       refine nx_then_exit (nx_then_exit ?_)
       refine nx_blk_here ?_
       refine nx_blk_nrm (nx_then (gw_region (ad_ rfl rfl (mv_ rfl (wl_nil ?_)))))
       have hE : taxE (l.take k) ⟨key, mi, At, nt, ct, on, ov⟩ = 0 := by rw [hEo, hin.2, scanE_end _ _ _ _ (by omega)]
       exact nx_round (k + 1) ⟨by omega, by rw [hout.2, hat, if_pos hE]⟩ (by omega) ⟨rfl, rfl, rfl, (some_int (by omega)), trivial⟩ (fun _ hm => hm.pick [] [] [1, 2] rfl rfl)
  ·have hk : ¬ (((k : Nat) : Int) < ((n : Nat) : Int)) := by simpa using hh
   clear hh
   refine gw_exit ?_
   refine nx_then_exit (nx_then_exit ?_)
   refine nx_blk_here ?_
   refine nx_then (sr_ (sg_ rfl (nn_ ?_)))
   refine gw_ret ?_
   refine nx_ret1 rfl rfl fun wx hm => ?_
   exact ⟨ret_int (by rw [hinv.2, taxG_end (by omega)]), hm.g⟩
end Go.Proofs.YtnmpniaocjmkfaaGreatDoor
namespace Go.Proofs.YtnmpniaocjmkfaaGreatDoor
open Go.RowKit
def sumBy {α : Type} (f : α → Int) : List α → Int
  | [] => 0
  | x :: r => f x + sumBy f r
theorem sumBy_append {α : Type} (f : α → Int) : ∀ a b : List α, sumBy f (a ++ b) = sumBy f a + sumBy f b
  | [], b => by simp [sumBy]
  | x :: r, b => by rw [List.cons_append]; simp only [sumBy]; rw [sumBy_append f r b]; omega
theorem sumBy_take {α : Type} (f : α → Int) {l : List α} {k : Nat} {x : α} (h : l[k]? = some x) : sumBy f (l.take (k + 1)) = sumBy f (l.take k) + f x := by
  rw [List.take_add_one, h, sumBy_append]
  simp [sumBy]
theorem sumBy_bound {α : Type} {f : α → Int} {a b : Int} : ∀ {l : List α}, (∀ x ∈ l, a ≤ f x ∧ f x ≤ b) → a * l.length ≤ sumBy f l ∧ sumBy f l ≤ b * l.length
  | [], _ => by simp [sumBy]
  | x :: r, h => by
    have h1 := h x (List.mem_cons_self ..)
    have h2 := sumBy_bound (l := r) (fun y hy => h y (List.mem_cons_of_mem _ hy))
    simp only [sumBy, List.length_cons]
    have e1 : a * ((r.length + 1 : Nat) : Int) = a * (r.length : Int) + a := by rw [Int.natCast_add, Int.mul_add]; simp
    have e2 : b * ((r.length + 1 : Nat) : Int) = b * (r.length : Int) + b := by rw [Int.natCast_add, Int.mul_add]; simp
    omega
end Go.Proofs.YtnmpniaocjmkfaaGreatDoor
namespace Go.Proofs.YtnmpniaocjmkfaaGreatDoor
open Go.RowKit
structure Ln where
  kind : Int
  key : ByteArray
  cents : Int
def lnEnc (x : Ln) : List Value := [.int .i64 x.kind, .string x.key, .int .i64 x.cents]
theorem ln_len (x : Ln) : (lnEnc x).length = 3 := rfl
theorem info_ln : (Tryz.prog.info? 47).map (·.size) = some 3 := by kernel_rfl
def centsOf (x : Ln) : Int := x.cents
set_option maxRecDepth 100000 in
set_option maxHeartbeats 1000000 in
theorem sum_any (l : List Ln) (A : Option Addr) (n c : Nat) (w : World) (hl : SlT lnEnc 3 47 w A n l) (hb : ∀ x ∈ l, -1000000000000 ≤ x.cents ∧ x.cents ≤ 1000000000000) (hn : n ≤ 1000000) :
    Calls Tryz.prog 149 #[.slice A n c] w (GotE w (sumBy centsOf l)) := by
  have hlen := hl.len
  have Hb := Lib.hid hb
  clear hb
  go_enter Tryz.func149, Tryz.ntmps149
  go_wp2_with fail
  go_loopw [3, 8] (fun s i wr => ∃ k : Nat, k ≤ n ∧ i = .int .i64 k ∧ s = .int .i64 (sumBy centsOf (l.take k)) ∧ w.grownBy wr none) (fun _ i _ => n - (intOf i).toNat)
  case atStart => exact ⟨0, Nat.zero_le _, rfl, rfl, World.grownBy.refl _ _⟩
  case round =>
    obtain ⟨k, hk, rfl, rfl, hgr⟩ := hrel
    by_cases hlt : k < n
    · have hlr := hl.grow0 hgr
      obtain ⟨b, off, rfl, hbl, hrg⟩ := hlr.get (by omega)
      obtain ⟨g, hg⟩ : ∃ g, l[k]? = some g := ⟨_, List.getElem?_eq_getElem (by omega)⟩
      have hs1 := sumBy_take centsOf hg
      have hb1 := sumBy_bound (l := l.take k) (f := centsOf) (fun x hx => Hb.out x (List.mem_of_mem_take hx))
      have hb2 : (l.take k).length = k := by simp; omega
      rw [hb2] at hb1
      obtain ⟨S, hS⟩ : ∃ S, S = sumBy centsOf (l.take k) := ⟨_, rfl⟩
      have hgn := Hb.out g (List.mem_of_getElem? hg)
      obtain ⟨kind, key, cents⟩ := g
      have hr0 := hrg k _ hg
      have hr1 : wr.rangeAt b (off + k * 3) [.int .i64 kind, .string key, .int .i64 cents] := hr0
      have hm0 : -1000000000000 ≤ cents := hgn.1
      have hm1 : cents ≤ 1000000000000 := hgn.2
      rw [← hS] at hs1 hb1 ⊢
      have hS0 : -1000000000000 * k ≤ S := hb1.1
      have hS1 : S ≤ 1000000000000 * k := hb1.2
      have HK := Lib.hid (show sumBy centsOf (l.take (k + 1)) = S + cents from hs1)
      clear hr0 hrg hg hs1 hb1 hb2 hS hgn
      go_wp2_with (with_reducible refine wpList_load_rng rfl 47 (.tmp 10) rfl b (off + k * 3) rfl _ _ hr1 Tryz.underlying47 rfl 3 info_ln rfl ?_)
      go_roundw
      case rel => exact ⟨k + 1, by omega, by go_num, ret_val (by rw [HK.out]), grow_alloc hgr _⟩
      case measure => simp [intOf]; omega
    · go_wp2_with fail
      go_ret
      exact ⟨ret_int (by rw [List.take_of_length_le (by omega)]), hgr⟩
end Go.Proofs.YtnmpniaocjmkfaaGreatDoor
namespace Go.Proofs.YtnmpniaocjmkfaaGreatDoor
open Go.RowKit
theorem info_wn : (Tryz.prog.info? 35).map (·.size) = some 2 := by kernel_rfl
def Far (v : Int) : Prop := -4000000000000000 ≤ v ∧ v ≤ 4000000000000000
theorem mem_far {xs : List Int} {v : Int} (hv : v ∈ xs) (h : ∀ x ∈ xs, -100000000 ≤ x ∧ x ≤ 100000000) : -100000000 ≤ v ∧ v ≤ 100000000 := h v hv
set_option maxRecDepth 100000 in
set_option maxHeartbeats 2000000 in
theorem gtime_any (w : World) (B sb m : Nat) (hS : Strm 25 w B sb m) (hm : m ≤ 100000000000) :
    Calls Tryz.prog 93 #[.pointer (some ⟨sb, 0, none⟩)] w (fun e w' => ∃ fr to_ : Int, Far fr ∧ Far to_ ∧ e = .returned (.agg #[.int .i64 fr, .int .i64 to_]) ∧ Strm 25 w' B sb (m + 10) ∧ w.grownBy w' (some sb)) := by
  have hlt := hS.lt
  go_enter Tryz.func93, Tryz.ntmps93
  go_wp2_with fail
  have hb0 := Blk.at_ w rfl 35 [.int .i64 0, .int .i64 0]
  have hne : some w.heap.size ≠ some sb := fun h => absurd (Option.some.inj h) (by omega)
  refine (pick_any [0, 0, 700, 5040, 5700, 6480, 6500, 8000, 10079, 20000] _ _ _ _ B sb _ ((hS.alloc _).alloc _) (by omega) (by simp) (by simp) (Blk.at_ (w.alloc _) (by simp) _ _) (by omega)).mono ?_
  rintro e w1 ⟨fr, hfr, rfl, hS1, hg1'⟩
  have hf : -100000000 ≤ fr ∧ fr ≤ 100000000 := mem_far hfr (by decide)
  have hf0 := hf.1
  have hf1 := hf.2
  have hb1 := (hb0.alloc _).grown hg1' hne
  have hg1 : w.grownBy w1 (some sb) := grow_trans (grow_alloc (grow_alloc (World.grownBy.refl _ _) _) _) hg1'
  clear hS hb0 hg1' hfr hf
  go_wp2_with fail
  have hs1 := hS1.lt
  refine (pick_any [1, 59, 60, 61, 300, 1440, 1441, 1500, 2880, 4320, 5850, 7200, 8641, 10080, 11520, 14800, 21600] _ _ _ _ B sb _ (hS1.alloc _) (by omega) (by simp) (by simp) (Blk.at_ _ rfl _ _) (by omega)).mono ?_
  rintro e w2 ⟨v, hv, rfl, hS2, hg2'⟩
  have hf : -100000000 ≤ v ∧ v ≤ 100000000 := mem_far hv (by decide)
  have hv0 := hf.1
  have hv1 := hf.2
  have hb2 := (hb1.alloc _).grown hg2' hne
  have hg2 := grow_trans (grow_alloc hg1 _) hg2'
  clear hS1 hb1 hg1 hg2' hv hf hs1
  go_wp2_with fail
  have hs2 := hS2.lt
  obtain ⟨to_, hto⟩ : ∃ t, t = fr + v := ⟨_, rfl⟩
  rw [← hto]
  have hto0 : -200000000 ≤ to_ := by omega
  have hto1 : to_ ≤ 200000000 := by omega
  clear hto
  have hne2 : some w2.heap.size ≠ some sb := fun h => absurd (Option.some.inj h) (by omega)
  refine (flip_any 15 _ B sb _ (hS2.alloc _) (by omega) (by omega) (by omega)).mono ?_
  rintro e w3 ⟨fl, rfl, hS3, hg3'⟩
  have hD := (Blk.at_ w2 rfl 35 [.int .i64 fr, .int .i64 to_]).grown hg3' hne2
  have hR := (hb2.alloc _).grown hg3' hne
  have hg3 := grow_trans (grow_alloc hg2 _) hg3'
  have hlow : w.heap.size < w2.heap.size := hb2.lt
  have hsz3 := hS3.lt
  clear hS2 hb2 hg2 hg3' hs2 hne2
  cases fl
  · go_wp2_with (first
      | (with_reducible refine wpList_load_all rfl 35 (.tmp 4) rfl w2.heap.size _ _ _ hD rfl Tryz.underlying35 rfl 2 info_wn rfl ?_)
      | (with_reducible refine wpList_store_all rfl 35 (.tmp 2) (.tmp 23) rfl w.heap.size _ _ [.int .i64 fr, .int .i64 to_] hR rfl rfl 2 info_wn rfl rfl (by simp [Value.oneCell']) ?_
         intro w9 hR9 hg9))
    refine ret_blk (p := 2) (ty := 35) rfl w.heap.size _ _ _ hR9 rfl Tryz.underlying35 rfl 2 info_wn rfl rfl ?_
    exact ⟨fr, to_, ⟨by omega, by omega⟩, ⟨by omega, by omega⟩, rfl, (hS3.grown hg9 (fun k h => by cases h; omega)).more (by omega), grow_own hg3 hg9 (fun k h => by cases h; omega)⟩
  · go_wp2_with fail
    refine (odd_any 0 1000 _ B sb _ hS3 (by omega) (by omega) (by omega) (by omega)).mono ?_
    rintro e w4 ⟨o1, ho1, rfl, hS4, hg4⟩
    have ho10 := ho1.1
    have ho11 := ho1.2
    have hD4 := hD.grown hg4 (fun h => absurd (Option.some.inj h) (by omega))
    have hR4 := hR.grown hg4 hne
    have hw4 := grow_trans hg3 hg4
    clear hS3 hD hR hg3 hg4 ho1
    go_wp2_with fail
    have hs4 := hS4.lt
    refine (pick_any [0, 1000, 5761439, 5761440, 172800, 173801] _ _ _ _ B sb _ (hS4.alloc _) (by omega) (by simp) (by simp) (Blk.at_ _ rfl _ _) (by omega)).mono ?_
    rintro e w5 ⟨u, hu, rfl, hS5, hg5'⟩
    have hf : -100000000 ≤ u ∧ u ≤ 100000000 := mem_far hu (by decide)
    have hu0 := hf.1
    have hu1 := hf.2
    have hD5 := (hD4.alloc _).grown hg5' (fun h => absurd (Option.some.inj h) (by omega))
    have hR5 := (hR4.alloc _).grown hg5' hne
    have hw5 := grow_trans (grow_alloc hw4 _) hg5'
    clear hS4 hD4 hR4 hw4 hg5' hu hf hs4
    go_wp2_with (first
      | (with_reducible refine wpList_store_all rfl 35 (.tmp 4) (.tmp 22) rfl w2.heap.size _ _ [.int .i64 o1, .int .i64 u] hD5 rfl rfl 2 info_wn rfl rfl (by simp [Value.oneCell']) ?_
         intro w6 hD6 hg6
         have hR6 := hR5.grown hg6 (fun h => absurd (Option.some.inj h) (by omega)))
      | (with_reducible refine wpList_load_all rfl 35 (.tmp 4) rfl w2.heap.size _ _ _ hD6 rfl Tryz.underlying35 rfl 2 info_wn rfl ?_)
      | (with_reducible refine wpList_store_all rfl 35 (.tmp 2) (.tmp 23) rfl w.heap.size _ _ [.int .i64 o1, .int .i64 u] hR6 rfl rfl 2 info_wn rfl rfl (by simp [Value.oneCell']) ?_
         intro w9 hR9 hg9))
    refine ret_blk (p := 2) (ty := 35) rfl w.heap.size _ _ _ hR9 rfl Tryz.underlying35 rfl 2 info_wn rfl rfl ?_
    exact ⟨o1, u, ⟨by omega, by omega⟩, ⟨by omega, by omega⟩, rfl, ((hS5.grown hg6 (fun k h => by cases h; omega)).grown hg9 (fun k h => by cases h; omega)).more (by omega), grow_own (grow_own hw5 hg6 (fun k h => by cases h; omega)) hg9 (fun k h => by cases h; omega)⟩
end Go.Proofs.YtnmpniaocjmkfaaGreatDoor
