/- Divide; priced. -/
import Derived.Test.YtcggbojhalbkjaaTk
import Derived.Test.YtcggbojhalbkjaaTw
import Derived.Test.YtcggbojhalbkjaaSe
namespace Go.Proofs.Ytcggbojhalbkjaa
open Go.RowKit

def pcEnc (p : Pc) : List Value := [.int .i64 p.kind, .int .i64 p.days, .int .i64 p.cents]
theorem pc_len (p : Pc) : (pcEnc p).length = 3 := rfl
def chkE (l : List Rt) (c : ByteArray) (fr tt : Int) : Int := firstE [ratesE l, whenE (!keyB c) 5, timeE fr tt]
theorem chkE_ok {l : List Rt} {c : ByteArray} {fr tt : Int} (h : chkE l c fr tt = 0) : ratesE l = 0 ∧ keyB c = true ∧ timeE fr tt = 0 := by
  have hz := fe_all h
  have h2 := we_ok (by decide) (hz (whenE (!keyB c) 5) (by simp))
  exact ⟨hz _ (by simp), by simpa using h2, hz _ (by simp)⟩
def daysN (fr tt : Int) : Nat := (daysV fr tt).toNat
/-- The prices of the pieces of a hire. -/
def prH (l : List Rt) (c : ByteArray) (fr tt : Int) : Int → Nat → Int → Option Int := priceO l (seasons l c fr (daysN fr tt)) fr tt
theorem seasons_bound (l : List Rt) (c : ByteArray) (fr : Int) (n : Nat) : ∀ k ∈ seasons l c fr n, -1 ≤ k ∧ k < (l.length : Int) := fun k hk => by
  unfold seasons at hk
  obtain ⟨i, _, rfl⟩ := List.mem_map.1 hk
  exact ixP_bound l
theorem begV_end {fr tt : Int} (h : timeE fr tt = 0) : ∀ i, i < daysN fr tt → begV fr i ≤ tt := fun i hi => by
  have h1 := timeE_ok h
  unfold daysN daysV at hi
  unfold begV
  omega
/-- The error and the pieces of Divide. -/
def DivIs (l : List Rt) (c : ByteArray) (fr tt : Int) (e : Int) (ps : List Pc) : Prop :=
  (chkE l c fr tt ≠ 0 ∧ e = chkE l c fr tt ∧ ps = []) ∨ (chkE l c fr tt = 0 ∧ ((e = 8 ∧ ps = [] ∧ ∀ qs, ¬ Chain (prH l c fr tt) 0 (daysN fr tt) qs) ∨ (e = 0 ∧ Best (prH l c fr tt) 0 (daysN fr tt) ps)))
theorem divIs_one {l : List Rt} {c : ByteArray} {fr tt e f : Int} {ps qs : List Pc} (h : DivIs l c fr tt e ps) (g : DivIs l c fr tt f qs) : e = f ∧ ps = qs := by
  rcases h with ⟨h1, rfl, rfl⟩ | ⟨h1, h | h⟩ <;> rcases g with ⟨g1, rfl, rfl⟩ | ⟨g1, g | g⟩
  · exact ⟨rfl, rfl⟩
  · exact absurd g1 h1
  · exact absurd g1 h1
  · exact absurd h1 g1
  · exact ⟨h.1.trans g.1.symm, h.2.1.trans g.2.1.symm⟩
  · exact absurd g.2.1 (h.2.2 _)
  · exact absurd h1 g1
  · exact absurd h.2.1 (g.2.2 _)
  · exact ⟨h.1.trans g.1.symm, best_one h.2 g.2⟩
theorem best_head {pr : Int → Nat → Int → Option Int} {i n : Nat} {ps : List Pc} (h : Best pr i n ps) (hi : i < n) : ∃ p r, ps = p :: r ∧ StepOk pr i p ∧ i + p.days.toNat ≤ n := by
  cases ps with
  | nil => have := h.1; simp only [Chain] at this; omega
  | cons p r => exact ⟨p, r, rfl, h.1.1, chain_head h.1⟩
theorem dv_at {pr : Int → Nat → Int → Option Int} {i n : Nat} {ds : List Dv} {x : Dv} {p : Pc} {r : List Pc} (h : DvFrom pr n 0 ds) (hx : ds[i]? = some x) (hb : Best pr i n (p :: r)) : x.kind = p.kind ∧ x.days = p.days ∧ x.cents = p.cents := by
  obtain ⟨s, h1, h2⟩ := h.2.1 i x (Nat.zero_le _) hx
  cases s with
  | none => exact absurd hb.1 (h1 _)
  | some qs => exact h2.2.2.2 p r (best_one h1 hb)
theorem dv_first0 {pr : Int → Nat → Int → Option Int} {n : Nat} {ds : List Dv} {x : Dv} (h : DvFrom pr n 0 ds) (hx : ds[0]? = some x) : (x.fine = false → ∀ qs, ¬ Chain pr 0 n qs) ∧ (x.fine = true → ∃ ps, Best pr 0 n ps ∧ x.cost = pcSum ps) := by
  obtain ⟨s, h1, h2⟩ := h.2.1 0 x (Nat.zero_le _) hx
  refine ⟨fun hf => ?_, fun hf => ?_⟩
  · rw [h2.none_ hf] at h1; exact h1
  · obtain ⟨ps, rfl⟩ := h2.some_ hf
    exact ⟨ps, h1, h2.2.1⟩

set_option maxRecDepth 100000 in
set_option maxHeartbeats 400000 in
theorem checkHire_any (l : List Rt) (A : Option Addr) (n c0 : Nat) (c : ByteArray) (fr tt : Int) (w : World) (hl : SlT rtEnc 7 47 w A n l) (hok : ∀ b ∈ l, RtOk b) (hn : n ≤ 1000000) (hc : c.size ≤ 1000000) :
    Calls Try.prog 17 #[.slice A n c0, .string c, .agg #[.int .i64 fr, .int .i64 tt]] w (GotE w (chkE l c fr tt)) := by
  refine gw_enter ⟨17, w, none, []⟩ Try.func17 rfl Try.ntmps17 rfl (mem0 (X := [SlOld rtEnc 7 47 w.heap.size none A n l]) (allF_cons hl.old allF_nil) (allL_cons SlOld.lasts allL_nil)) ?_
  refine gw_seq ?_
  refine gw_region ?_
  obtain ⟨RE, hRE⟩ : ∃ E, E = ratesE l := ⟨_, rfl⟩
  refine wl_box rfl rfl rfl fun g1 => ?_
  refine wl_ov (ov_assign rfl) rfl ?_
  refine wl_nil ?_
  refine nx_then ?_
  refine gw_seq ?_
  refine gw_draw (fun wz => Blk wz g1 30 [.int .i64 fr, .int .i64 tt] ∧ (SlOld rtEnc 7 47 w.heap.size none A n l) wz ∧ True) mixed ?_
  refine wa_take 0 rfl (by kernel_rfl) (by kernel_rfl) (by kernel_rfl) (listed' := #[true, false, false, false, false, false, false, false, false, false, false]) rfl (fun _ _ _ h => h) (fun _ hm => ⟨hm.blkI 0 rfl, hm.fact 0 rfl, trivial⟩) (ov_move rfl) rfl ?_
  refine wa_take 2 rfl (by kernel_rfl) (by kernel_rfl) (by kernel_rfl) (listed' := #[true, false, true, false, false, false, false, false, false, false, false]) rfl (fun _ _ _ h => h) (fun _ hm => ⟨hm.blkI 0 rfl, hm.fact 0 rfl, trivial⟩) (ov_move rfl) rfl ?_
  refine wa_take 6 rfl (by kernel_rfl) (by kernel_rfl) (by kernel_rfl) (listed' := #[true, false, true, false, false, false, true, false, false, false, false]) rfl (fun _ _ _ h => h) (fun _ hm => ⟨hm.blkI 0 rfl, hm.fact 0 rfl, trivial⟩) (ov_loads rz30 rfl (fun _ hm => hm.1) rfl rfl) rfl ?_
  refine wa_all [1] (by kernel_rfl) rfl ⟨⟨_, rfl, ?_⟩, trivial⟩
  refine wl_callv (v := .int .i64 RE) rfl cb29 rfl rfl (fun wx hm => (by rw [hRE]; exact checkRates_any l A n c0 wx (hm.fact 0 rfl).1 hok hn)) ?_
  refine wl_nil ?_
  refine nx_wa0 (listed' := #[true, true, true, false, false, false, true, false, false, false, false]) rfl (fun _ hm => ⟨hm.blkI 0 rfl, hm.fact 0 rfl, trivial⟩) ?_
  refine wa_all [3] (by kernel_rfl) rfl ⟨⟨_, rfl, ?_⟩, trivial⟩
  refine wl_callw rfl cb31 rfl rfl (fun wx hm => (isKey_any _ wx (by omega))) ?_
  refine wl_nil ?_
  refine nx_wa0 (listed' := #[true, true, true, true, false, false, true, false, false, false, false]) rfl (fun _ hm => ⟨hm.blkI 0 rfl, hm.fact 0 rfl, trivial⟩) ?_
  refine wa_take 4 rfl (by kernel_rfl) (by kernel_rfl) (by kernel_rfl) (listed' := #[true, true, true, true, true, false, true, false, false, false, false]) rfl (fun _ _ _ h => h) (fun _ hm => ⟨hm.blkI 0 rfl, hm.fact 0 rfl, trivial⟩) (ov_un_not rfl) rfl ?_
  refine wa_all [5] (by kernel_rfl) rfl ⟨⟨_, rfl, ?_⟩, trivial⟩
  refine wl_callw rfl cb30 rfl rfl (fun wx hm => (when_any _ _ wx)) ?_
  refine wl_nil ?_
  refine nx_wa0 (listed' := #[true, true, true, true, true, true, true, false, false, false, false]) rfl (fun _ hm => ⟨hm.blkI 0 rfl, hm.fact 0 rfl, trivial⟩) ?_
  refine wa_all [7] (by kernel_rfl) rfl ⟨⟨_, rfl, ?_⟩, trivial⟩
  refine wl_callv rfl cb32 rfl rfl (fun wx hm => (time_any _ _ wx)) ?_
  refine wl_nil ?_
  refine nx_wa0 (listed' := #[true, true, true, true, true, true, true, true, false, false, false]) rfl (fun _ hm => ⟨hm.blkI 0 rfl, hm.fact 0 rfl, trivial⟩) ?_
  refine wa_all [8] (by kernel_rfl) rfl ⟨⟨_, rfl, ?_⟩, trivial⟩
  refine wl_buildSlice (e := 33) (cs := [.int .i64 RE, .int .i64 (whenE (!(keyB c)) 5), .int .i64 (timeE fr tt)]) rfl (by kernel_rfl) rfl fun g2 => ?_
  refine wl_nil ?_
  refine nx_wa0 (listed' := #[true, true, true, true, true, true, true, true, true, false, false]) rfl (fun _ hm => ⟨hm.blkI 1 rfl, hm.fact 0 rfl, trivial⟩) ?_
  refine wa_all [9] (by kernel_rfl) rfl ⟨⟨_, rfl, ?_⟩, trivial⟩
  refine wl_callw rfl cb28 rfl rfl (fun wx hm => (first_any [RE, whenE (!(keyB c)) 5, timeE fr tt] _ _ _ wx (hm.blkI 0 rfl) (by simp))) ?_
  refine wl_nil ?_
  refine nx_wa0 (listed' := #[true, true, true, true, true, true, true, true, true, true, false]) rfl (fun _ hm => ⟨hm.blkI 1 rfl, hm.fact 0 rfl, trivial⟩) ?_
  refine wa_take 10 rfl (by kernel_rfl) (by kernel_rfl) (by kernel_rfl) (listed' := #[true, true, true, true, true, true, true, true, true, true, true]) rfl (fun _ _ _ h => h) (fun _ hm => ⟨hm.blkI 1 rfl, hm.fact 0 rfl, trivial⟩) (ov_assign rfl) rfl ?_
  refine wa_done (by kernel_rfl) ?_
  refine nx_then ?_
  refine gw_ret ?_
  refine nx_ret1 rfl rfl fun wx hm => ?_
  exact ⟨ret_int (by unfold chkE; rw [hRE]), hm.g⟩

set_option maxRecDepth 100000 in
set_option maxHeartbeats 1000000 in
theorem tDivide_any (l : List Rt) (A : Option Addr) (n c0 : Nat) (c : ByteArray) (fr tt : Int) (w : World) (hl : SlT rtEnc 7 47 w A n l) (hok : ∀ b ∈ l, RtOk b) (hn : n ≤ 1000000) (hc : c.size ≤ 1000000) :
    Calls Try.prog 8 #[.slice A n c0, .string c, .agg #[.int .i64 fr, .int .i64 tt]] w (fun e w' => ∃ A3 n3 c3 ps er, e = .returned (.tuple #[.slice A3 n3 c3, .int .i64 er]) ∧ w.grownBy w' none ∧ SlT pcEnc 3 58 w' A3 n3 ps ∧ DivIs l c fr tt er ps ∧ n3 ≤ 120) := by
  refine gw_enter ⟨51, w, none, [60, 3]⟩ Try.func8 rfl Try.ntmps8 rfl (mem0 (X := [SlOld rtEnc 7 47 w.heap.size none A n l]) (allF_cons hl.old allF_nil) (allL_cons SlOld.lasts allL_nil)) ?_
  refine gw_seq ?_
  refine gw_region ?_
  obtain ⟨CE, hCE⟩ : ∃ E, E = chkE l c fr tt := ⟨_, rfl⟩
  refine wl_box rfl rfl rfl fun g1 => ?_
  refine wl_ov (ov_assign rfl) rfl ?_
  refine wl_ov (ov_assign rfl) rfl ?_
  refine wl_nil ?_
  refine nx_then ?_
  refine gw_seq ?_
  refine gw_seq ?_
  refine gw_region ?_
  refine wl_ov (ov_move rfl) rfl ?_
  refine wl_ov (ov_move rfl) rfl ?_
  refine wl_ov (ov_loads rz30 rfl (fun _ hm => hm.blkI 0 rfl) rfl rfl) rfl ?_
  refine wl_callv (v := .int .i64 CE) rfl cb17 rfl rfl (fun wx hm => (by rw [hCE]; exact checkHire_any l A n c0 c fr tt wx (hm.fact 0 rfl).1 hok hn hc)) ?_
  refine wl_ov (ov_assign rfl) rfl ?_
  refine wl_nil ?_
  refine nx_then ?_
  refine gw_seq ?_
  refine gw_region ?_
  refine wl_ov (ov_move rfl) rfl ?_
  refine wl_ov (ov_neq rfl rfl) rfl ?_
  refine wl_nil ?_
  refine nx_then ?_
  refine gw_cond rfl (fun hh => ?_) (fun hh => ?_)
  · have h1 : ¬ (CE = 0) := by simpa using hh
    clear hh
    refine gw_seq ?_
    refine gw_region ?_
    refine wl_ov (ov_move rfl) rfl ?_
    refine wl_ov (ov_assign rfl) rfl ?_
    refine wl_ov (ov_assign rfl) rfl ?_
    refine wl_nil ?_
    refine nx_then ?_
    refine gw_ret ?_
    refine nx_then_ret ?_
    refine nx_ret2 rfl rfl rfl fun wx hm => ?_
    exact ⟨none, 0, 0, [], CE, rfl, hm.g, SlT.nil_ _ _, .inl ⟨fun h => h1 (hCE.trans h), hCE, rfl⟩, by omega⟩
  · have h1 : CE = 0 := by simpa using hh
    clear hh
    refine gw_skip ?_
    refine nx_then ?_
    refine gw_seq ?_
    refine gw_region ?_
    obtain ⟨hr0, hkc, ht⟩ := chkE_ok (hCE.symm.trans h1)
    obtain ⟨h0, hlt, htt, _⟩ := timeE_ok ht
    have hpos := rt_pos hr0
    have hro := rate_ok hr0
    have hD1 := timeE_days ht
    obtain ⟨D, hD⟩ : ∃ D, D = daysN fr tt := ⟨_, rfl⟩
    have hD2 : 1 ≤ D ∧ D ≤ 120 := by rw [hD]; unfold daysN; omega
    have hD3 := hD2.1
    have hD4 := hD2.2
    obtain ⟨sea, hsea⟩ : ∃ x, x = seasons l c fr D := ⟨_, rfl⟩
    refine wl_ov (ov_move rfl) rfl ?_
    refine wl_ov (ov_move rfl) rfl ?_
    refine wl_ov (ov_loads rz30 rfl (fun _ hm => hm.blkI 0 rfl) rfl rfl) rfl ?_
    refine wl_callx (γ := Option Addr × Nat) (val := (fun (g : Option Addr × Nat) => .agg #[.slice A n c0, .int .i64 fr, .int .i64 tt, .slice g.1 D g.2])) (φ := (fun (g : Option Addr × Nat) => D ≤ g.2)) (Y := (fun (g : Option Addr × Nat) => fun wy => SlT itEnc 1 3 wy g.1 D sea)) rfl cb18 rfl rfl (fun wx hm => (by rw [hsea, hD]; exact (trent_any l A n c0 c fr tt wx (hm.fact 0 rfl).1 hn hpos ht).mono fun _ _ ⟨A2, c2, he, hg, hs, hc⟩ => ⟨(A2, c2), he, hc, hg, hs⟩)) (fun _ => SlT.lasts2 rfl) ?_
    rintro ⟨A2, c2⟩ hDc
    dsimp only at hDc ⊢
    refine wl_callx (γ := Option Addr × Nat × List Dv) (val := (fun (g : Option Addr × Nat × List Dv) => .slice g.1 (D + 1) g.2.1)) (φ := (fun (g : Option Addr × Nat × List Dv) => DvFrom (priceO l sea fr tt) D 0 g.2.2)) (Y := (fun (g : Option Addr × Nat × List Dv) => fun wy => SlT dvEnc 6 60 wy g.1 (D + 1) g.2.2)) rfl cb19 rfl rfl (fun wx hm => (tdivide_any l A n c0 fr tt sea A2 D c2 wx (hm.fact 1 rfl).1 (hm.fact 0 rfl) hDc hD4 (by rw [hsea]; exact seasons_bound l c fr D) hro h0 (by omega) (by omega) htt (by rw [hD]; exact begV_end ht)).mono fun _ _ ⟨A3, c3, ds, he, hg, hs, hd⟩ => ⟨(A3, c3, ds), he, hd, hg, SlT.ofOwn dv_len hs hd.1⟩) (fun _ => SlT.lasts2 rfl) ?_
    rintro ⟨A3, c3, ds⟩ hds
    dsimp only at hds ⊢
    have hpr : priceO l sea fr tt = prH l c fr tt := by unfold prH; rw [hsea, hD]
    rw [hpr] at hds
    have hdl := hds.1
    obtain ⟨x, hx⟩ : ∃ x, ds[0]? = some x := ⟨_, List.getElem?_eq_getElem (by omega)⟩
    have hd0 := dv_first0 hds hx
    obtain ⟨x0, x1, x2, x3, x4, x5⟩ := x
    refine wl_look (R := ∃ b3 o3, A3 = some ⟨b3, o3, none⟩) (fun wx hm => by obtain ⟨b3, o3, h, _, _⟩ := SlT.get (hm.fact 0 rfl) (by omega); exact ⟨b3, o3, h⟩) ?_
    rintro ⟨b3, o3, rfl⟩
    refine wl_ov (ov_assign rfl) rfl ?_
    refine wl_nil ?_
    refine nx_then ?_
    refine gw_seq ?_
    refine gw_seq ?_
    refine gw_region ?_
    refine wl_ov (ov_move rfl) rfl ?_
    refine wl_ov (ov_index (j := 0) es52 rfl rfl (by omega)) rfl ?_
    refine wl_ov (ov_field fo60_3 rfl rfl) rfl ?_
    refine wl_ov (ov_elem1 (k := 5) (v := .bool x5) sc4 rfl (fun _ hm => (hm.fact 0 rfl)) (show ds[0]? = some _ from hx) rfl rfl) rfl ?_
    refine wl_ov (ov_un_not rfl) rfl ?_
    refine wl_nil ?_
    refine nx_then ?_
    refine gw_cond rfl (fun hh => ?_) (fun hh => ?_)
    · have hf : x5 = false := by simpa using hh
      clear hh
      refine gw_seq ?_
      refine gw_region ?_
      refine wl_ov (ov_assign rfl) rfl ?_
      refine wl_ov (ov_assign rfl) rfl ?_
      refine wl_nil ?_
      refine nx_then ?_
      refine gw_ret ?_
      refine nx_then_ret ?_
      refine nx_ret2 rfl rfl rfl fun wx hm => ?_
      exact ⟨none, 0, 0, [], 8, rfl, hm.g, SlT.nil_ _ _, .inr ⟨hCE.symm.trans h1, .inl ⟨rfl, rfl, hD ▸ hd0.1 (by simpa using hf)⟩⟩, by omega⟩
    · have hf : x5 = true := by simpa using hh
      clear hh
      refine gw_skip ?_
      refine nx_then ?_
      refine gw_seq ?_
      refine gw_region ?_
      obtain ⟨ps, hps, _⟩ := hd0.2 (by simpa using hf)
      refine wl_ov (ov_assign rfl) rfl ?_
      refine wl_nil ?_
      refine nx_then ?_
      refine gw_seq ?_
      refine gw_seq ?_
      refine gw_region ?_
      refine wl_ov (ov_assign rfl) rfl ?_
      refine wl_nil ?_
      refine nx_then ?_
      refine gw_block ?_
      refine gw_nilOwn 58 3 ?_
      refine gw_loop (γ := Nat × Nat × Value × List Pc × List Pc × List Value) (fun (g : Nat × Nat × Value × List Pc × List Pc × List Value) => g.1 ≤ D ∧ g.2.1 ≤ g.1 ∧ g.2.2.2.1.length = g.2.1 ∧ ps = g.2.2.2.1 ++ g.2.2.2.2.1 ∧ Best (prH l c fr tt) g.1 D g.2.2.2.2.1 ∧ g.2.2.2.2.2 = g.2.2.2.1.flatMap pcEnc) (fun (g : Nat × Nat × Value × List Pc × List Pc × List Value) => [(6, .slice none 0 0), (7, .int .i64 0), (9, .slice (some ⟨b3, o3, none⟩) (D + 1) c3), (10, g.2.2.1), (11, .int .i64 ((g.1 : Nat) : Int))]) (fun (g : Nat × Nat × Value × List Pc × List Pc × List Value) => fun _ => True) (fun (g : Nat × Nat × Value × List Pc × List Pc × List Value) => [(g1, 30, [.int .i64 fr, .int .i64 tt])]) (fun (g : Nat × Nat × Value × List Pc × List Pc × List Value) => [⟨g.2.2.1, 58, 3, g.2.1, g.2.2.2.2.2⟩]) (fun (g : Nat × Nat × Value × List Pc × List Pc × List Value) => [fun wy => SlT dvEnc 6 60 wy (some ⟨b3, o3, none⟩) (D + 1) ds, fun wy => SlT itEnc 1 3 wy A2 D sea, SlOld rtEnc 7 47 w.heap.size none A n l]) (fun (g : Nat × Nat × Value × List Pc × List Pc × List Value) => D - g.1) (0, 0, .slice none 0 0, [], ps, []) ⟨Nat.zero_le _, Nat.le_refl _, rfl, rfl, hps, rfl⟩ ⟨rfl, rfl, rfl, rfl, rfl, trivial⟩ (fun _ hm => hm.pick [0] [0] [0, 1, 2] rfl rfl) ?_
      rintro ⟨i, k, v, pl, rl, xs⟩ hinv
      replace hinv : i ≤ D ∧ k ≤ i ∧ pl.length = k ∧ ps = pl ++ rl ∧ Best (prH l c fr tt) i D rl ∧ xs = pl.flatMap pcEnc := hinv
      dsimp only
      refine gw_seq ?_
      refine gw_seq ?_
      refine gw_region ?_
      obtain ⟨hi0, hi1, hi2, hi3, hi4, rfl⟩ := hinv
      refine wl_ov (ov_move rfl) rfl ?_
      refine wl_ov (ov_move rfl) rfl ?_
      refine wl_ov (ov_len es52 rfl) rfl ?_
      refine wl_ov (ov_sub rfl rfl (by omega) (by omega)) rfl ?_
      refine wl_ov (ov_lss rfl rfl) rfl ?_
      refine wl_nil ?_
      refine nx_then ?_
      refine gw_cond rfl (fun hh => ?_) (fun hh => ?_)
      · have hk : ((i : Nat) : Int) < ((D + 1 : Nat) : Int) - 1 := by simpa using hh
        clear hh
        refine gw_skip ?_
        refine nx_then ?_
        refine gw_seq ?_
        refine gw_block ?_
        refine gw_region ?_
        have hiD : i < D := by omega
        obtain ⟨p, rr, hp1, hp2, hp3⟩ := best_head hi4 hiD
        subst hp1
        obtain ⟨y, hy⟩ : ∃ y, ds[i]? = some y := ⟨_, List.getElem?_eq_getElem (by omega)⟩
        obtain ⟨e1, e2, e3⟩ := dv_at hds hy hi4
        obtain ⟨y0, y1, y2, y3, y4, y5⟩ := y
        dsimp only at e1 e2 e3
        have hd1 : 1 ≤ y3 := by rw [e2]; exact hp2.2.2.1
        have hd2 : i + y3.toNat ≤ D := by rw [e2]; exact hp3
        refine wl_ov (ov_move rfl) rfl ?_
        refine wl_ov (ov_move rfl) rfl ?_
        refine wl_ov (ov_move rfl) rfl ?_
        refine wl_ov (ov_index (j := i) es52 rfl rfl (by omega)) rfl ?_
        refine wl_ov (ov_field fo60_2 rfl rfl) rfl ?_
        refine wl_ov (ov_elemN (k := 2) (vs := [.int .i64 y2, .int .i64 y3, .int .i64 y4]) rz58 rfl (fun _ hm => (hm.fact 0 rfl)) hy rfl rfl rfl) rfl ?_
        refine wl_buildSlice (e := 58) (cs := [.int .i64 y2, .int .i64 y3, .int .i64 y4]) rfl (by kernel_rfl) rfl fun g2 => ?_
        refine wl_append (news := [.int .i64 y2, .int .i64 y3, .int .i64 y4]) 0 0 ap32 rfl rfl rfl rfl rfl rfl rfl (by omega) (by unfold maxLen; omega) rfl rfl fun v2 hv2 => ?_
        refine wl_ov (ov_assign rfl) rfl ?_
        refine wl_nil ?_
        refine nx_blk_nrm ?_
        refine nx_then ?_
        refine gw_region ?_
        refine wl_ov (ov_move rfl) rfl ?_
        refine wl_ov (ov_move rfl) rfl ?_
        refine wl_ov (ov_move rfl) rfl ?_
        refine wl_ov (ov_index (j := i) es52 rfl rfl (by omega)) rfl ?_
        refine wl_ov (ov_field fo60_2 rfl rfl) rfl ?_
        refine wl_ov (ov_field fo58_1 rfl rfl) rfl ?_
        refine wl_ov (ov_elem1 (k := 3) (v := .int .i64 y3) sc3 rfl (fun _ hm => (hm.fact 0 rfl)) hy rfl rfl) rfl ?_
        refine wl_ov (ov_add rfl rfl (by omega) (by omega)) rfl ?_
        refine wl_ov (ov_assign rfl) rfl ?_
        refine wl_nil ?_
        exact nx_round (i + y3.toNat, k + 1, v2, pl ++ [⟨y2, y3, y4⟩], rr, pl.flatMap pcEnc ++ ([.int .i64 y2, .int .i64 y3, .int .i64 y4] : List Value)) ⟨by dsimp only; omega, by dsimp only; omega, by simp [hi2], by dsimp only; rw [hi3, e1, e2, e3, List.append_assoc]; rfl, by rw [e2]; exact best_tail hi4, by simp [pcEnc]⟩ (by dsimp only; omega) ⟨rfl, rfl, rfl, rfl, (some_int (by omega)), trivial⟩ (fun _ hm => hm.pick [1] [0] [0, 1, 2] rfl rfl)
      · have hk : ¬ (((i : Nat) : Int) < ((D + 1 : Nat) : Int) - 1) := by simpa using hh
        clear hh
        refine gw_exit ?_
        refine nx_then_exit ?_
        refine nx_then_exit ?_
        refine nx_blk_here ?_
        refine nx_then ?_
        refine gw_seq ?_
        refine gw_region ?_
        have hiD : i = D := by omega
        subst hiD
        have hrl : rl = [] := by
          cases rl with
          | nil => rfl
          | cons q t => have := chain_le hi4.1; simp only [List.length_cons] at this; omega
        subst hrl
        refine wl_look (R := ∃ A cc, v = .slice A k cc) (fun wx hm => own_slice (hm.ownI 0 rfl)) ?_
        rintro ⟨A4, c4, rfl⟩
        refine wl_ov (ov_move rfl) rfl ?_
        refine wl_ov (ov_assign rfl) rfl ?_
        refine wl_ov (ov_assign rfl) rfl ?_
        refine wl_nil ?_
        refine nx_then ?_
        refine gw_ret ?_
        refine nx_ret2 rfl rfl rfl fun wx hm => ?_
        exact ⟨A4, k, c4, pl, 0, rfl, hm.g, SlT.ofOwn pc_len (hm.ownI 0 rfl) hi2, .inr ⟨hCE.symm.trans h1, .inr ⟨rfl, by rw [← hD]; rw [List.append_nil] at hi3; rw [← hi3]; exact hps⟩⟩, by omega⟩

set_option maxRecDepth 100000 in
theorem same_piece_neq (x0 : Int) (x1 : Int) (x2 : Int) (w : World) : (binOp .neq 58 (.agg #[.int .i64 x0, .int .i64 x1, .int .i64 x2]) (.agg #[.int .i64 x0, .int .i64 x1, .int .i64 x2])).run Try.prog w = .ok (.bool false) w := by
  have hS : Try.prog.underlying 58 = some (.struct (Try.prog.fieldsOf 58)) := by kernel_rfl
  have hp : Try.prog.stoodInHeld 58 = false := by kernel_rfl
  rw [run_neq_struct, show (10000 : Nat) = 9999 + 1 from rfl, run_equalIn_agg w 9999 58 _ _ hS hp]
  simp only [Program.fieldsOf, Try.underlying58]
  have u3 := Try.underlying3
  clear hS hp
  go_simp
set_option maxRecDepth 100000 in
theorem same_piece_eql (x0 : Int) (x1 : Int) (x2 : Int) (w : World) : (binOp .eql 58 (.agg #[.int .i64 x0, .int .i64 x1, .int .i64 x2]) (.agg #[.int .i64 x0, .int .i64 x1, .int .i64 x2])).run Try.prog w = .ok (.bool true) w := by
  have hS : Try.prog.underlying 58 = some (.struct (Try.prog.fieldsOf 58)) := by kernel_rfl
  have hp : Try.prog.stoodInHeld 58 = false := by kernel_rfl
  rw [run_eql_struct, show (10000 : Nat) = 9999 + 1 from rfl, run_equalIn_agg w 9999 58 _ _ hS hp]
  simp only [Program.fieldsOf, Try.underlying58]
  have u3 := Try.underlying3
  clear hS hp
  go_simp
theorem guard_piece : Try.prog.eqGuardType Try.prog.depth 58 = false := by kernel_rfl

theorem one_chk : chkE [(⟨⟨#[99]⟩, 0, 9, -1, 7, -1, -1⟩ : Rt)] ⟨#[99]⟩ 0 60 = 0 := by decide +kernel
theorem one_days : daysN 0 60 = 1 := by decide +kernel
theorem one_sea : seasons [(⟨⟨#[99]⟩, 0, 9, -1, 7, -1, -1⟩ : Rt)] ⟨#[99]⟩ 0 1 = [0] := by decide +kernel
theorem one_pr (k : Int) (hk : 1 ≤ k ∧ k ≤ 4) (v : Int) (h : prH [(⟨⟨#[99]⟩, 0, 9, -1, 7, -1, -1⟩ : Rt)] ⟨#[99]⟩ 0 60 k 0 1 = some v) : k = 2 ∧ v = 7 := by
  unfold prH at h
  rw [one_days, one_sea] at h
  obtain ⟨h1, h2⟩ := hk
  have hk : k = 1 ∨ k = 2 ∨ k = 3 ∨ k = 4 := by omega
  rcases hk with rfl | rfl | rfl | rfl
  · rw [show priceO [(⟨⟨#[99]⟩, 0, 9, -1, 7, -1, -1⟩ : Rt)] [0] 0 60 1 0 1 = none by decide +kernel] at h; cases h
  · rw [show priceO [(⟨⟨#[99]⟩, 0, 9, -1, 7, -1, -1⟩ : Rt)] [0] 0 60 2 0 1 = some 7 by decide +kernel] at h
    injection h with h; exact ⟨rfl, h.symm⟩
  · rw [show priceO [(⟨⟨#[99]⟩, 0, 9, -1, 7, -1, -1⟩ : Rt)] [0] 0 60 3 0 1 = none by decide +kernel] at h; cases h
  · rw [show priceO [(⟨⟨#[99]⟩, 0, 9, -1, 7, -1, -1⟩ : Rt)] [0] 0 60 4 0 1 = none by decide +kernel] at h; cases h
theorem one_best : Best (prH [(⟨⟨#[99]⟩, 0, 9, -1, 7, -1, -1⟩ : Rt)] ⟨#[99]⟩ 0 60) 0 (daysN 0 60) [⟨2, 1, 7⟩] := by
  rw [one_days]
  refine ⟨⟨⟨by decide, by decide, by decide, by decide, ?_⟩, rfl⟩, fun qs hq => .inl ?_⟩
  · unfold prH; rw [one_days, one_sea]; decide +kernel
  · cases qs with
    | nil => simp only [Chain] at hq; omega
    | cons q r =>
      have h1 := hq.1.2.2.1
      have h2 := chain_head hq
      have h3 := chain_le hq.2
      have hd : q.days = 1 := by omega
      have hv := hq.1.2.2.2.2
      rw [hd] at hv
      obtain ⟨e1, e2⟩ := one_pr q.kind ⟨hq.1.1, hq.1.2.1⟩ _ hv
      have hr : r = [] := by
        rw [hd] at h3
        cases r with
        | nil => rfl
        | cons _ _ => simp only [List.length_cons] at h3; omega
      subst hr
      obtain ⟨qk, qd, qc⟩ := q
      dsimp only at e1 e2 hd
      subst e1; subst e2; subst hd; rfl
theorem one_div {e : Int} {ps : List Pc} (h : DivIs [(⟨⟨#[99]⟩, 0, 9, -1, 7, -1, -1⟩ : Rt)] ⟨#[99]⟩ 0 60 e ps) : e = 0 ∧ ps = [⟨2, 1, 7⟩] := divIs_one h (.inr ⟨one_chk, .inr ⟨rfl, one_best⟩⟩)

end Go.Proofs.Ytcggbojhalbkjaa
