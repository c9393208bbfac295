/- The walk of the law StationHours. -/
import Derived.Test.YtcggbojhalbkjaaDoorSr
import Derived.Test.YtcggbojhalbkjaaDoorLo
import Derived.Test.YtcggbojhalbkjaaDoorSg
namespace Go.Proofs.YtcggbojhalbkjaaDoor
open Go.RowKit

theorem firstE_fst {a b : Int} (h : firstE [a, b] = 0) : a = 0 ∧ b = 0 := by
  unfold firstE at h
  by_cases ha : a = 0
  · rw [if_pos ha] at h
    refine ⟨ha, ?_⟩
    unfold firstE at h
    by_cases hb : b = 0
    · exact hb
    · rw [if_neg hb] at h; exact h
  · rw [if_neg ha] at h; exact absurd h ha
theorem isOpen_bad {x : St} {at_ : Int} (h : isOpenE x at_ ≠ 0) : isOpenV x at_ = false := by
  unfold isOpenV
  rw [beq_false_of_ne h]; rfl
theorem isOpen_right {x : St} {at_ : Int} (h : isOpenE x at_ = 0) : isOpenV x at_ = openV x.hs at_ := by
  have h1 : (isOpenE x at_ == 0) = true := by rw [h]; rfl
  unfold isOpenV
  rw [h1, hourFr_eq, hourTo_eq, Bool.true_and]
  unfold openV
  obtain ⟨D, hD⟩ : ∃ D, D = at_ / 1440 := ⟨_, rfl⟩
  rw [← hD]
  cases hb : inB (at_ % 1440) (frD x.hs D) (toD x.hs D - 1) with
  | true =>
    have := inB_iff.1 hb
    rw [decide_eq_true (by omega), decide_eq_true (by omega)]; rfl
  | false =>
    have hn : ¬ (frD x.hs D ≤ at_ % 1440 ∧ at_ % 1440 ≤ toD x.hs D - 1) := fun e => by
      rw [inB_iff.2 e] at hb; cases hb
    by_cases h2 : D * 1440 + frD x.hs D ≤ at_
    · rw [decide_eq_true h2, decide_eq_false (by omega)]; rfl
    · rw [decide_eq_false h2]; rfl
theorem next_bad {x : St} {at_ : Int} (h : isOpenE x at_ ≠ 0) : nextV x at_ = 0 ∧ nextE x at_ = isOpenE x at_ := by
  unfold nextV nextO nextE
  rw [if_neg h, if_neg h]; exact ⟨rfl, rfl⟩
theorem next_right {x : St} {at_ : Int} (h : isOpenE x at_ = 0) (ho : HrsOk x.hs) (h0 : 0 ≤ at_) (h1 : at_ ≤ 5761439) : nextV x at_ = (nextQ x.hs at_).getD 0 ∧ nextE x at_ = whenE (!(nextQ x.hs at_).isSome) 8 := by
  unfold nextV nextE nextO
  rw [if_pos h, if_pos h, next_same ho h0 h1]
  refine ⟨rfl, ?_⟩
  cases (nextQ x.hs at_).isSome <;> rfl

theorem stEnc_lenL {s : St} (h : StOk s) : (stEnc s).length = 15 := stEnc_len h
theorem flat_getL {enc : St → List Value} {k : Nat} : ∀ (l : List St), (∀ x ∈ l, (enc x).length = k) → ∀ (i : Nat) (x : St), l[i]? = some x → ∀ (j : Nat) (v : Value), (enc x)[j]? = some v → (l.flatMap enc)[i * k + j]? = some v
  | [], _, i, x, h, _, _, _ => by simp at h
  | y :: r, hk, 0, x, h, j, v, hv => by
    simp only [List.getElem?_cons_zero, Option.some.injEq] at h
    subst h
    rw [List.flatMap_cons, List.getElem?_append_left (by have := (List.getElem?_eq_some_iff.1 hv).1; omega), Nat.zero_mul, Nat.zero_add]; exact hv
  | y :: r, hk, i + 1, x, h, j, v, hv => by
    have h1 := hk y (List.mem_cons_self ..)
    rw [List.flatMap_cons, List.getElem?_append_right (by rw [h1, Nat.add_mul]; omega), h1, show (i + 1) * k + j - k = i * k + j by rw [Nat.add_mul]; omega]
    exact flat_getL r (fun z hz => hk z (List.mem_cons_of_mem _ hz)) i x (by simpa using h) j v hv
theorem SlT.ofOwnL {enc : St → List Value} {base k n c : Nat} {T : TypeId} {w : World} {A : Option Addr} {l : List St} (hk : ∀ {x : St}, StOk x → (enc x).length = k) (hl : ∀ x ∈ l, StOk x) (h : w.ownsRow base T k (.slice A n c) n (l.flatMap enc)) (hn : l.length = n) : SlT enc k T w A n l := by
  refine ⟨hn, fun hn0 => ?_⟩
  obtain ⟨h1, h2⟩ := h
  rcases h2 with ⟨h2, h3⟩ | ⟨g, cap, cur, hv, _, hh, hle, _, hcs, htk⟩
  · omega
  · injection hv with hA _ _
    refine ⟨g, 0, cur, _, hA, hh, fun i x hx j v hv => ?_⟩
    have := flat_getL l (fun x hx => hk (hl x hx)) i x hx j v hv
    rw [← htk] at this
    rw [List.getElem?_take] at this
    split at this
    · simpa using this
    · cases this

set_option maxRecDepth 100000 in
set_option maxHeartbeats 1000000 in
theorem stationHours_walk (a0 : Option Addr) (len0 cap0 : Nat) (z0 : List Int) (w : World) (hR : RowIn w a0 len0 cap0 z0) :
    Calls Tryd.prog 4 #[.slice a0 len0 cap0] w fun e w' => e = .returned (.bool true) ∧ Below w.heap.size w w' := by
  refine gw_enter ⟨135, w, none, []⟩ Tryd.func4 rfl Tryd.ntmps4 rfl (mem0 (X := []) allF_nil allL_nil) ?_
  refine gw_seq ?_
  refine gw_region ?_
  refine wl_ov (ov_assign rfl) rfl ?_
  refine wl_nil ?_
  refine nx_then ?_
  refine gw_seq ?_
  refine gw_region ?_
  refine wl_ov (ov_move rfl) rfl ?_
  refine wl_ov (ov_build (cs := [.slice a0 len0 cap0, .int .i64 0]) rfl (by kernel_rfl)) rfl ?_
  refine wl_box rfl rfl rfl fun sb => ?_
  refine wl_ov (ov_assign rfl) rfl ?_
  refine wl_nil ?_
  refine nx_then ?_
  refine gw_seq ?_
  refine gw_region ?_
  refine wl_ov (ov_move rfl) rfl ?_
  refine wl_law [] hR 0 rfl fun w1 B hg1 hsb => ?_
  refine wl_calls (γ := ByteArray × Int × Int × Int × Int × Int × Int × Int × Int × Int × Int × Int × Int × Int × Int) (val := (fun (g : ByteArray × Int × Int × Int × Int × Int × Int × Int × Int × Int × Int × Int × Int × Int × Int) => .agg #[.string g.1, .int .i64 g.2.1, .int .i64 g.2.2.1, .int .i64 g.2.2.2.1, .int .i64 g.2.2.2.2.1, .int .i64 g.2.2.2.2.2.1, .int .i64 g.2.2.2.2.2.2.1, .int .i64 g.2.2.2.2.2.2.2.1, .int .i64 g.2.2.2.2.2.2.2.2.1, .int .i64 g.2.2.2.2.2.2.2.2.2.1, .int .i64 g.2.2.2.2.2.2.2.2.2.2.1, .int .i64 g.2.2.2.2.2.2.2.2.2.2.2.1, .int .i64 g.2.2.2.2.2.2.2.2.2.2.2.2.1, .int .i64 g.2.2.2.2.2.2.2.2.2.2.2.2.2.1, .int .i64 g.2.2.2.2.2.2.2.2.2.2.2.2.2.2])) (φ := (fun (g : ByteArray × Int × Int × Int × Int × Int × Int × Int × Int × Int × Int × Int × Int × Int × Int) => g.1.size ≤ 2 ∧ ∀ h ∈ [g.2.1, g.2.2.1, g.2.2.2.1, g.2.2.2.2.1, g.2.2.2.2.2.1, g.2.2.2.2.2.2.1, g.2.2.2.2.2.2.2.1, g.2.2.2.2.2.2.2.2.1, g.2.2.2.2.2.2.2.2.2.1, g.2.2.2.2.2.2.2.2.2.2.1, g.2.2.2.2.2.2.2.2.2.2.2.1, g.2.2.2.2.2.2.2.2.2.2.2.2.1, g.2.2.2.2.2.2.2.2.2.2.2.2.2.1, g.2.2.2.2.2.2.2.2.2.2.2.2.2.2], -2000000000000000 ≤ h ∧ h ≤ 2000000000000000)) (Y := (fun (g : ByteArray × Int × Int × Int × Int × Int × Int × Int × Int × Int × Int × Int × Int × Int × Int) => fun _ => True)) (m' := 0 + 40) rfl cb21 rfl rfl rfl rfl (fun wx hm => (station_any wx B sb _ hm.k (by omega)).mono fun e w' h => by
    obtain ⟨key, hs, hk, hl, hb, he, hS, hg⟩ := h
    obtain ⟨u0, u1, u2, u3, u4, u5, u6, u7, u8, u9, u10, u11, u12, u13, rfl⟩ := list14 hs hl
    exact ⟨(key, u0, u1, u2, u3, u4, u5, u6, u7, u8, u9, u10, u11, u12, u13), he, ⟨hk, hb⟩, hS, hg, trivial⟩) (fun _ => Lasts2.true_) ?_
  rintro ⟨key, u0, u1, u2, u3, u4, u5, u6, u7, u8, u9, u10, u11, u12, u13⟩ hH
  dsimp only at hH ⊢
  obtain ⟨hks, hbb⟩ := hH
  have hso : StOk (⟨key, [u0, u1, u2, u3, u4, u5, u6, u7, u8, u9, u10, u11, u12, u13]⟩ : St) := ⟨rfl, by dsimp only; omega, fun x hx => by have := hbb x hx; omega⟩
  have hbx : ∀ h ∈ [u0, u1, u2, u3, u4, u5, u6, u7, u8, u9, u10, u11, u12, u13], -1000000000000000000 ≤ h ∧ h ≤ 1000000000000000000 := fun x hx => by have := hbb x hx; omega
  clear hbb
  refine wl_ov (ov_move rfl) rfl ?_
  refine wl_calls (γ := Int) (val := (fun (g : Int) => .int .i64 g)) (φ := (fun (g : Int) => -1 ≤ g ∧ g ≤ 5761440)) (Y := (fun (g : Int) => fun _ => True)) (m' := 0 + 40 + 1) rfl cb22 rfl rfl rfl rfl (fun wx hm => (gmoment_any wx B sb _ hm.k (by omega)).mono fun _ _ ⟨v, he, h0, h1, hS, hg⟩ => ⟨v, he, ⟨h0, h1⟩, hS, hg, trivial⟩) (fun _ => Lasts2.true_) ?_
  rintro at_ hat
  refine wl_ov (ov_move rfl) rfl ?_
  refine wl_calls (γ := Int × Int) (val := (fun (g : Int × Int) => .agg #[.int .i64 g.1, .int .i64 g.2])) (φ := (fun (g : Int × Int) => (-2000000000000000 ≤ g.1 ∧ g.1 ≤ 2000000000000000) ∧ (-2000000000000000 ≤ g.2 ∧ g.2 ≤ 2000000000000000))) (Y := (fun (g : Int × Int) => fun _ => True)) (m' := 0 + 40 + 1 + 20) rfl cb23 rfl rfl rfl rfl (fun wx hm => (gwindow_any wx B sb _ hm.k (by omega)).mono fun _ _ ⟨a, b, he, h0, h1, hS, hg⟩ => ⟨(a, b), he, ⟨h0, h1⟩, hS, hg, trivial⟩) (fun _ => Lasts2.true_) ?_
  rintro ⟨wa, wb⟩ hwn
  dsimp only at hwn ⊢
  refine wl_alloc zc56 rfl fun g4 => ?_
  refine wl_alloc zc31 rfl fun g5 => ?_
  refine wl_stores (cs' := [.string key, .int .i64 u0, .int .i64 u1, .int .i64 u2, .int .i64 u3, .int .i64 u4, .int .i64 u5, .int .i64 u6, .int .i64 u7, .int .i64 u8, .int .i64 u9, .int .i64 u10, .int .i64 u11, .int .i64 u12, .int .i64 u13]) 1 rz56 rfl rfl rfl rfl rfl rfl rfl rfl ?_
  refine wl_ov (ov_assign rfl) rfl ?_
  refine wl_stores (cs' := [.int .i64 wa, .int .i64 wb]) 0 rz31 rfl rfl rfl rfl rfl rfl rfl rfl ?_
  refine wl_nil ?_
  refine nx_then ?_
  refine gw_cut (γ := Value × Nat × List St × List Value) (I := (fun (g : Value × Nat × List St × List Value) => g.2.2.1.length = g.2.1 ∧ (∀ x ∈ g.2.2.1, StOk x) ∧ g.2.1 ≤ 4 ∧ g.2.2.2 = g.2.2.1.flatMap stEnc)) (S' := (fun (g : Value × Nat × List St × List Value) => [(2, .bool false), (4, .pointer (some ⟨g4, 0, none⟩)), (5, .int .i64 at_), (6, .pointer (some ⟨g5, 0, none⟩)), (7, g.1)])) (K' := (fun (g : Value × Nat × List St × List Value) => fun w => Strm 25 w B sb (0 + 40 + 1 + 20 + 100))) (L' := (fun (g : Value × Nat × List St × List Value) => [(g5, 31, [.int .i64 wa, .int .i64 wb]), (g4, 56, [.string key, .int .i64 u0, .int .i64 u1, .int .i64 u2, .int .i64 u3, .int .i64 u4, .int .i64 u5, .int .i64 u6, .int .i64 u7, .int .i64 u8, .int .i64 u9, .int .i64 u10, .int .i64 u11, .int .i64 u12, .int .i64 u13])])) (O' := (fun (g : Value × Nat × List St × List Value) => [⟨g.1, 56, 15, g.2.1, g.2.2.2⟩])) (X' := (fun (g : Value × Nat × List St × List Value) => [fun _ => True, fun _ => True, fun _ => True])) ?_ ?_
  · refine gw_draw (fun wz => Blk wz g5 31 [.int .i64 wa, .int .i64 wb] ∧ Blk wz g4 56 [.string key, .int .i64 u0, .int .i64 u1, .int .i64 u2, .int .i64 u3, .int .i64 u4, .int .i64 u5, .int .i64 u6, .int .i64 u7, .int .i64 u8, .int .i64 u9, .int .i64 u10, .int .i64 u11, .int .i64 u12, .int .i64 u13] ∧ (fun _ => True) wz ∧ (fun _ => True) wz ∧ (fun _ => True) wz ∧ True) mixed ?_
    refine wa_take 0 rfl (by kernel_rfl) (by kernel_rfl) (by kernel_rfl) (listed' := #[true, false, false, false, false, false]) rfl (fun _ _ _ h => h) (fun _ hm => ⟨hm.blkI 0 rfl, hm.blkI 1 rfl, hm.fact 0 rfl, hm.fact 1 rfl, hm.fact 2 rfl, trivial⟩) (ov_move rfl) rfl ?_
    refine wa_take 2 rfl (by kernel_rfl) (by kernel_rfl) (by kernel_rfl) (listed' := #[true, false, true, false, false, false]) rfl (fun _ _ _ h => h) (fun _ hm => ⟨hm.blkI 0 rfl, hm.blkI 1 rfl, hm.fact 0 rfl, hm.fact 1 rfl, hm.fact 2 rfl, trivial⟩) (ov_loads rz56 rfl (fun _ hm => hm.2.1) rfl rfl) rfl ?_
    refine wa_all [1, 3] (by kernel_rfl) rfl ⟨⟨_, rfl, ?_⟩, ⟨_, rfl, ?_⟩, trivial⟩
    · refine wl_callgs (γ := Option Addr × Nat × Nat × List St) (val := (fun (g : Option Addr × Nat × Nat × List St) => .slice g.1 g.2.1 g.2.2.1)) (φ := (fun (g : Option Addr × Nat × Nat × List St) => g.2.2.2.length = g.2.1 ∧ (∀ x ∈ g.2.2.2, StB x) ∧ g.2.1 ≤ 3)) (m' := 0 + 40 + 1 + 20 + 100) (fun (g : Option Addr × Nat × Nat × List St) => ⟨.slice g.1 g.2.1 g.2.2.1, 56, 15, g.2.1, g.2.2.2.flatMap stEnc⟩) rfl cb24 rfl rfl rfl rfl (fun wx hm => (gstations_any wx B sb _ hm.k (by omega)).mono fun _ _ ⟨A, n, c, l, he, ho, hl, hok, hn, hS, hg⟩ => ⟨(A, n, c, l), he, ⟨hl, hok, hn⟩, hS, hg, ho⟩) ?_
      rintro ⟨A, n, c, l⟩ hl3
      dsimp only at hl3 ⊢
      obtain ⟨hl, hlb, hn3⟩ := hl3
      refine wl_nil ?_
      refine nx_wa0 (listed' := #[true, true, true, false, false, false]) rfl (fun _ hm => ⟨hm.blkI 0 rfl, hm.blkI 1 rfl, hm.fact 0 rfl, hm.fact 1 rfl, hm.fact 2 rfl, trivial⟩) ?_
      refine wa_all [3] (by kernel_rfl) rfl ⟨⟨_, rfl, ?_⟩, trivial⟩
      refine wl_buildSlice (e := 56) (cs := [.string key, .int .i64 u0, .int .i64 u1, .int .i64 u2, .int .i64 u3, .int .i64 u4, .int .i64 u5, .int .i64 u6, .int .i64 u7, .int .i64 u8, .int .i64 u9, .int .i64 u10, .int .i64 u11, .int .i64 u12, .int .i64 u13]) rfl (by kernel_rfl) rfl fun g6 => ?_
      refine wl_nil ?_
      refine nx_wa0 (listed' := #[true, true, true, true, false, false]) rfl (fun _ hm => ⟨hm.blkI 1 rfl, hm.blkI 2 rfl, hm.fact 0 rfl, hm.fact 1 rfl, hm.fact 2 rfl, trivial⟩) ?_
      refine wa_all [4] (by kernel_rfl) rfl ⟨⟨_, rfl, ?_⟩, trivial⟩
      refine wl_append (news := [.string key, .int .i64 u0, .int .i64 u1, .int .i64 u2, .int .i64 u3, .int .i64 u4, .int .i64 u5, .int .i64 u6, .int .i64 u7, .int .i64 u8, .int .i64 u9, .int .i64 u10, .int .i64 u11, .int .i64 u12, .int .i64 u13]) 0 0 ap60 rfl rfl rfl rfl rfl rfl rfl (by omega) (by unfold maxLen; omega) rfl rfl fun v2 hv2 => ?_
      refine wl_nil ?_
      refine nx_wa0 (listed' := #[true, true, true, true, true, false]) rfl (fun _ hm => ⟨hm.blkI 1 rfl, hm.blkI 2 rfl, hm.fact 0 rfl, hm.fact 1 rfl, hm.fact 2 rfl, trivial⟩) ?_
      refine wa_take 5 rfl (by kernel_rfl) (by kernel_rfl) (by kernel_rfl) (listed' := #[true, true, true, true, true, true]) rfl (fun _ _ _ h => h) (fun _ hm => ⟨hm.blkI 1 rfl, hm.blkI 2 rfl, hm.fact 0 rfl, hm.fact 1 rfl, hm.fact 2 rfl, trivial⟩) (ov_assign rfl) rfl ?_
      refine wa_done (by kernel_rfl) ?_
      exact nx_meet (v2, n + 1, l ++ [(⟨key, [u0, u1, u2, u3, u4, u5, u6, u7, u8, u9, u10, u11, u12, u13]⟩ : St)], l.flatMap stEnc ++ ([.string key, .int .i64 u0, .int .i64 u1, .int .i64 u2, .int .i64 u3, .int .i64 u4, .int .i64 u5, .int .i64 u6, .int .i64 u7, .int .i64 u8, .int .i64 u9, .int .i64 u10, .int .i64 u11, .int .i64 u12, .int .i64 u13] : List Value)) ⟨by simp [hl], (fun y hy => by
        rcases List.mem_append.1 hy with hy | hy
        · exact stB_ok (hlb y hy)
        · rw [List.mem_singleton.1 hy]; exact hso), by dsimp only; omega, by simp [stEnc, stCells]⟩ ⟨rfl, rfl, rfl, rfl, rfl, trivial⟩ (fun _ hm => hm.pick [1, 2] [0] [0, 1, 2] rfl rfl)
    · refine wl_buildSlice (e := 56) (cs := [.string key, .int .i64 u0, .int .i64 u1, .int .i64 u2, .int .i64 u3, .int .i64 u4, .int .i64 u5, .int .i64 u6, .int .i64 u7, .int .i64 u8, .int .i64 u9, .int .i64 u10, .int .i64 u11, .int .i64 u12, .int .i64 u13]) rfl (by kernel_rfl) rfl fun g7 => ?_
      refine wl_nil ?_
      refine nx_wa0 (listed' := #[true, false, true, true, false, false]) rfl (fun _ hm => ⟨hm.blkI 1 rfl, hm.blkI 2 rfl, hm.fact 0 rfl, hm.fact 1 rfl, hm.fact 2 rfl, trivial⟩) ?_
      refine wa_all [1] (by kernel_rfl) rfl ⟨⟨_, rfl, ?_⟩, trivial⟩
      refine wl_callgs (γ := Option Addr × Nat × Nat × List St) (val := (fun (g : Option Addr × Nat × Nat × List St) => .slice g.1 g.2.1 g.2.2.1)) (φ := (fun (g : Option Addr × Nat × Nat × List St) => g.2.2.2.length = g.2.1 ∧ (∀ x ∈ g.2.2.2, StB x) ∧ g.2.1 ≤ 3)) (m' := 0 + 40 + 1 + 20 + 100) (fun (g : Option Addr × Nat × Nat × List St) => ⟨.slice g.1 g.2.1 g.2.2.1, 56, 15, g.2.1, g.2.2.2.flatMap stEnc⟩) rfl cb24 rfl rfl rfl rfl (fun wx hm => (gstations_any wx B sb _ hm.k (by omega)).mono fun _ _ ⟨A, n, c, l, he, ho, hl, hok, hn, hS, hg⟩ => ⟨(A, n, c, l), he, ⟨hl, hok, hn⟩, hS, hg, ho⟩) ?_
      rintro ⟨A, n, c, l⟩ hl3
      dsimp only at hl3 ⊢
      obtain ⟨hl, hlb, hn3⟩ := hl3
      refine wl_nil ?_
      refine nx_wa0 (listed' := #[true, true, true, true, false, false]) rfl (fun _ hm => ⟨hm.blkI 1 rfl, hm.blkI 2 rfl, hm.fact 0 rfl, hm.fact 1 rfl, hm.fact 2 rfl, trivial⟩) ?_
      refine wa_all [4] (by kernel_rfl) rfl ⟨⟨_, rfl, ?_⟩, trivial⟩
      refine wl_append (news := [.string key, .int .i64 u0, .int .i64 u1, .int .i64 u2, .int .i64 u3, .int .i64 u4, .int .i64 u5, .int .i64 u6, .int .i64 u7, .int .i64 u8, .int .i64 u9, .int .i64 u10, .int .i64 u11, .int .i64 u12, .int .i64 u13]) 0 0 ap60 rfl rfl rfl rfl rfl rfl rfl (by omega) (by unfold maxLen; omega) rfl rfl fun v2 hv2 => ?_
      refine wl_nil ?_
      refine nx_wa0 (listed' := #[true, true, true, true, true, false]) rfl (fun _ hm => ⟨hm.blkI 1 rfl, hm.blkI 2 rfl, hm.fact 0 rfl, hm.fact 1 rfl, hm.fact 2 rfl, trivial⟩) ?_
      refine wa_take 5 rfl (by kernel_rfl) (by kernel_rfl) (by kernel_rfl) (listed' := #[true, true, true, true, true, true]) rfl (fun _ _ _ h => h) (fun _ hm => ⟨hm.blkI 1 rfl, hm.blkI 2 rfl, hm.fact 0 rfl, hm.fact 1 rfl, hm.fact 2 rfl, trivial⟩) (ov_assign rfl) rfl ?_
      refine wa_done (by kernel_rfl) ?_
      exact nx_meet (v2, n + 1, l ++ [(⟨key, [u0, u1, u2, u3, u4, u5, u6, u7, u8, u9, u10, u11, u12, u13]⟩ : St)], l.flatMap stEnc ++ ([.string key, .int .i64 u0, .int .i64 u1, .int .i64 u2, .int .i64 u3, .int .i64 u4, .int .i64 u5, .int .i64 u6, .int .i64 u7, .int .i64 u8, .int .i64 u9, .int .i64 u10, .int .i64 u11, .int .i64 u12, .int .i64 u13] : List Value)) ⟨by simp [hl], (fun y hy => by
        rcases List.mem_append.1 hy with hy | hy
        · exact stB_ok (hlb y hy)
        · rw [List.mem_singleton.1 hy]; exact hso), by dsimp only; omega, by simp [stEnc, stCells]⟩ ⟨rfl, rfl, rfl, rfl, rfl, trivial⟩ (fun _ hm => hm.pick [1, 2] [0] [0, 1, 2] rfl rfl)
  · rintro ⟨v, k, l, xs⟩ hinv
    replace hinv : l.length = k ∧ (∀ x ∈ l, StOk x) ∧ k ≤ 4 ∧ xs = l.flatMap stEnc := hinv
    dsimp only
    refine gw_seq ?_
    refine gw_region ?_
    obtain ⟨hlen, hlo, hk4, rfl⟩ := hinv
    refine wl_look (R := ∃ A cc, v = .slice A k cc) (fun wx hm => own_slice (hm.ownI 0 rfl)) ?_
    rintro ⟨A, c, rfl⟩
    refine wl_ov (ov_loads rz56 rfl (fun _ hm => hm.blkI 1 rfl) rfl rfl) rfl ?_
    refine wl_ov (ov_move rfl) rfl ?_
    refine wl_nest none [] fun w2 hm_w2 => ⟨_, _, _, _, mem0 (X := [BlkOld w2.heap.size none g5 31 [.int .i64 wa, .int .i64 wb], BlkOld w2.heap.size none g4 56 [.string key, .int .i64 u0, .int .i64 u1, .int .i64 u2, .int .i64 u3, .int .i64 u4, .int .i64 u5, .int .i64 u6, .int .i64 u7, .int .i64 u8, .int .i64 u9, .int .i64 u10, .int .i64 u11, .int .i64 u12, .int .i64 u13], SlOld stEnc 15 56 w2.heap.size none A k l]) (allF_cons (hm_w2.blkI 0 rfl).old (allF_cons (hm_w2.blkI 1 rfl).old (allF_cons (SlT.old (SlT.ofOwnL stEnc_lenL hlo (hm_w2.ownI 0 rfl) hlen)) allF_nil))) (allL_cons BlkOld.lasts (allL_cons BlkOld.lasts (allL_cons SlOld.lasts allL_nil))), ?_⟩
    obtain ⟨FsQ, hFS⟩ : ∃ E, E = stationsE [(⟨key, [u0, u1, u2, u3, u4, u5, u6, u7, u8, u9, u10, u11, u12, u13]⟩ : St)] := ⟨_, rfl⟩
    obtain ⟨AE, hAE⟩ : ∃ E, E = stationsE l := ⟨_, rfl⟩
    obtain ⟨E1, hE1⟩ : ∃ E, E = isOpenE (⟨key, [u0, u1, u2, u3, u4, u5, u6, u7, u8, u9, u10, u11, u12, u13]⟩ : St) at_ := ⟨_, rfl⟩
    obtain ⟨E3, hE3⟩ : ∃ E, E = openMinE (⟨key, [u0, u1, u2, u3, u4, u5, u6, u7, u8, u9, u10, u11, u12, u13]⟩ : St) wa wb := ⟨_, rfl⟩
    have hone : E1 = firstE [FsQ, momentE at_] := by rw [hE1, hFS]; rfl
    have hthree : E3 = firstE [FsQ, windowE wa wb] := by rw [hE3, hFS]; rfl
    by_cases h1 : E1 = 0
    · obtain ⟨hfs, hmo⟩ := firstE_fst (hone.symm.trans h1)
      have ho : HrsOk [u0, u1, u2, u3, u4, u5, u6, u7, u8, u9, u10, u11, u12, u13] := sta_ok (hFS.symm.trans hfs)
      obtain ⟨hm0, hm1⟩ : 0 ≤ at_ ∧ at_ ≤ 5761439 := momentE_ok hmo
      obtain ⟨OV, hOV⟩ : ∃ v, v = openV [u0, u1, u2, u3, u4, u5, u6, u7, u8, u9, u10, u11, u12, u13] at_ := ⟨_, rfl⟩
      have hov : isOpenV (⟨key, [u0, u1, u2, u3, u4, u5, u6, u7, u8, u9, u10, u11, u12, u13]⟩ : St) at_ = OV := (isOpen_right (hE1.symm.trans h1)).trans hOV.symm
      obtain ⟨NQ, hNQ⟩ : ∃ v, v = (nextQ [u0, u1, u2, u3, u4, u5, u6, u7, u8, u9, u10, u11, u12, u13] at_).getD 0 := ⟨_, rfl⟩
      obtain ⟨IS, hIS⟩ : ∃ v, v = (nextQ [u0, u1, u2, u3, u4, u5, u6, u7, u8, u9, u10, u11, u12, u13] at_).isSome := ⟨_, rfl⟩
      obtain ⟨E2, hE2⟩ : ∃ v, v = whenE (!(nextQ [u0, u1, u2, u3, u4, u5, u6, u7, u8, u9, u10, u11, u12, u13] at_).isSome) 8 := ⟨_, rfl⟩
      have hE2s : E2 = whenE (!IS) 8 := by rw [hE2, hIS]
      have hnr : nextV (⟨key, [u0, u1, u2, u3, u4, u5, u6, u7, u8, u9, u10, u11, u12, u13]⟩ : St) at_ = NQ ∧ nextE (⟨key, [u0, u1, u2, u3, u4, u5, u6, u7, u8, u9, u10, u11, u12, u13]⟩ : St) at_ = E2 := by
        have h := next_right (hE1.symm.trans h1) ho hm0 hm1
        rw [hNQ, hE2]; exact h
      by_cases h3 : E3 = 0
      · obtain ⟨hfs3, hwi⟩ := firstE_fst (hthree.symm.trans h3)
        have ho3 : HrsOk [u0, u1, u2, u3, u4, u5, u6, u7, u8, u9, u10, u11, u12, u13] := sta_ok (hFS.symm.trans hfs3)
        obtain ⟨hw0, hw1, hw2⟩ := windowE_ok hwi
        obtain ⟨MV, hMV⟩ : ∃ v, v = minSum [u0, u1, u2, u3, u4, u5, u6, u7, u8, u9, u10, u11, u12, u13] wa wb 4002 (wa / 1440) := ⟨_, rfl⟩
        have hmv : openMinV (⟨key, [u0, u1, u2, u3, u4, u5, u6, u7, u8, u9, u10, u11, u12, u13]⟩ : St) wa wb = MV := by unfold openMinV; rw [if_pos (hE3.symm.trans h3), hMV]
        refine wl_callv (v := .tuple #[.bool OV, .int .i64 E1]) rfl cb25 rfl rfl (fun wx hm => (by have h := lotOpen_any key [u0, u1, u2, u3, u4, u5, u6, u7, u8, u9, u10, u11, u12, u13] at_ wx hso hbx; rw [hov, ← hE1] at h; exact h)) ?_
        refine wl_ov (ov_move rfl) rfl ?_
        refine wl_ov (ov_extract rfl rfl) rfl ?_
        refine wl_ov (ov_extract rfl rfl) rfl ?_
        refine wl_ov (ov_assign rfl) rfl ?_
        refine wl_ov (ov_assign rfl) rfl ?_
        refine wl_nil ?_
        refine nx_then ?_
        refine gw_seq ?_
        refine gw_region ?_
        refine wl_ov (ov_loads (vs := [.string key, .int .i64 u0, .int .i64 u1, .int .i64 u2, .int .i64 u3, .int .i64 u4, .int .i64 u5, .int .i64 u6, .int .i64 u7, .int .i64 u8, .int .i64 u9, .int .i64 u10, .int .i64 u11, .int .i64 u12, .int .i64 u13]) rz56 rfl (fun _ hm => (hm.fact 1 rfl).2) rfl rfl) rfl ?_
        refine wl_ov (ov_move rfl) rfl ?_
        refine wl_callv (v := .tuple #[.int .i64 NQ, .int .i64 E2]) rfl cb26 rfl rfl (fun wx hm => (by have h := nextOpen_any key [u0, u1, u2, u3, u4, u5, u6, u7, u8, u9, u10, u11, u12, u13] at_ wx hso hbx; rw [hnr.1, hnr.2] at h; exact h)) ?_
        refine wl_ov (ov_move rfl) rfl ?_
        refine wl_ov (ov_extract rfl rfl) rfl ?_
        refine wl_ov (ov_extract rfl rfl) rfl ?_
        refine wl_ov (ov_assign rfl) rfl ?_
        refine wl_ov (ov_assign rfl) rfl ?_
        refine wl_nil ?_
        refine nx_then ?_
        refine gw_seq ?_
        refine gw_region ?_
        refine wl_ov (ov_loads (vs := [.string key, .int .i64 u0, .int .i64 u1, .int .i64 u2, .int .i64 u3, .int .i64 u4, .int .i64 u5, .int .i64 u6, .int .i64 u7, .int .i64 u8, .int .i64 u9, .int .i64 u10, .int .i64 u11, .int .i64 u12, .int .i64 u13]) rz56 rfl (fun _ hm => (hm.fact 1 rfl).2) rfl rfl) rfl ?_
        refine wl_ov (ov_loads (vs := [.int .i64 wa, .int .i64 wb]) rz31 rfl (fun _ hm => (hm.fact 0 rfl).2) rfl rfl) rfl ?_
        refine wl_callv (v := .tuple #[.int .i64 MV, .int .i64 E3]) rfl cb27 rfl rfl (fun wx hm => (by have h := openMin_any key [u0, u1, u2, u3, u4, u5, u6, u7, u8, u9, u10, u11, u12, u13] wa wb wx hso hbx; rw [hmv, ← hE3] at h; exact h)) ?_
        refine wl_ov (ov_move rfl) rfl ?_
        refine wl_ov (ov_extract rfl rfl) rfl ?_
        refine wl_ov (ov_extract rfl rfl) rfl ?_
        refine wl_ov (ov_assign rfl) rfl ?_
        refine wl_ov (ov_assign rfl) rfl ?_
        refine wl_nil ?_
        refine nx_then ?_
        refine gw_seq ?_
        refine gw_region ?_
        refine wl_ov (ov_loads (vs := [.string key, .int .i64 u0, .int .i64 u1, .int .i64 u2, .int .i64 u3, .int .i64 u4, .int .i64 u5, .int .i64 u6, .int .i64 u7, .int .i64 u8, .int .i64 u9, .int .i64 u10, .int .i64 u11, .int .i64 u12, .int .i64 u13]) rz56 rfl (fun _ hm => (hm.fact 1 rfl).2) rfl rfl) rfl ?_
        refine wl_buildSlice (e := 56) (cs := [.string key, .int .i64 u0, .int .i64 u1, .int .i64 u2, .int .i64 u3, .int .i64 u4, .int .i64 u5, .int .i64 u6, .int .i64 u7, .int .i64 u8, .int .i64 u9, .int .i64 u10, .int .i64 u11, .int .i64 u12, .int .i64 u13]) rfl (by kernel_rfl) rfl fun g8 => ?_
        refine wl_callv (v := .int .i64 FsQ) rfl cb28 rfl rfl (fun wx hm => (by rw [hFS]; exact stationsFault_any [(⟨key, [u0, u1, u2, u3, u4, u5, u6, u7, u8, u9, u10, u11, u12, u13]⟩ : St)] _ 1 1 wx (sl_one (hm.blkI 0 rfl)) (fun x hx => by rw [List.mem_singleton.1 hx]; exact hso) (by omega))) ?_
        refine wl_ov (ov_assign rfl) rfl ?_
        refine wl_nil ?_
        refine nx_then ?_
        refine gw_seq ?_
        refine gw_region ?_
        refine wl_ov (ov_move rfl) rfl ?_
        refine wl_ov (ov_move rfl) rfl ?_
        refine wl_callv rfl cb29 rfl rfl (fun wx hm => (momentFault_any at_ wx)) ?_
        refine wl_buildSlice (e := 38) (cs := [.int .i64 FsQ, .int .i64 (momentE at_)]) rfl (by kernel_rfl) rfl fun g9 => ?_
        refine wl_callw (v := .int .i64 E1) rfl cb13 rfl rfl (fun wx hm => (by have h := errs_any [FsQ, momentE at_] g9 2 _ wx (hm.blkI 0 rfl) (by simp); rw [← hone] at h; exact h)) ?_
        refine wl_ov (ov_assign rfl) rfl ?_
        refine wl_nil ?_
        refine nx_then ?_
        refine gw_seq ?_
        refine gw_region ?_
        refine wl_ov (ov_move rfl) rfl ?_
        refine wl_ov (ov_assign rfl) rfl ?_
        refine wl_ov (ov_assign rfl) rfl ?_
        refine wl_nil ?_
        refine nx_then ?_
        refine gw_seq ?_
        refine gw_seq ?_
        refine gw_region ?_
        refine wl_ov (ov_move rfl) rfl ?_
        refine wl_ov (ov_eql rfl rfl) rfl ?_
        refine wl_set 63 (v' := .bool true) rfl (congrArg Value.bool (decide_eq_true h1)) ?_
        refine wl_nil ?_
        refine nx_then ?_
        refine gw_cond rfl (fun _ => ?_) (fun hh => by cases hh)
        refine gw_seq ?_
        refine gw_region ?_
        refine wl_ov (ov_loads (vs := [.string key, .int .i64 u0, .int .i64 u1, .int .i64 u2, .int .i64 u3, .int .i64 u4, .int .i64 u5, .int .i64 u6, .int .i64 u7, .int .i64 u8, .int .i64 u9, .int .i64 u10, .int .i64 u11, .int .i64 u12, .int .i64 u13]) rz56 rfl (fun _ hm => (hm.fact 1 rfl).2) rfl rfl) rfl ?_
        refine wl_ov (ov_move rfl) rfl ?_
        refine wl_callv (v := .tuple #[.int .i64 NQ, .bool IS]) rfl cb30 rfl rfl (fun wx hm => (by rw [hNQ, hIS]; exact nextOpenOf_any key u0 u1 u2 u3 u4 u5 u6 u7 u8 u9 u10 u11 u12 u13 at_ wx ho hm0 hm1)) ?_
        refine wl_ov (ov_move rfl) rfl ?_
        refine wl_ov (ov_extract rfl rfl) rfl ?_
        refine wl_ov (ov_extract rfl rfl) rfl ?_
        refine wl_ov (ov_assign rfl) rfl ?_
        refine wl_ov (ov_assign rfl) rfl ?_
        refine wl_nil ?_
        refine nx_then ?_
        refine gw_region ?_
        refine wl_ov (ov_move rfl) rfl ?_
        refine wl_ov (ov_move rfl) rfl ?_
        refine wl_ov (ov_un_not rfl) rfl ?_
        refine wl_callw (v := .int .i64 E2) rfl cb15 rfl rfl (fun wx hm => (by have h := rwhen_any (!IS) 8 wx; rw [← hE2s] at h; exact h)) ?_
        refine wl_ov (ov_assign rfl) rfl ?_
        refine wl_ov (ov_assign rfl) rfl ?_
        refine wl_nil ?_
        refine nx_then ?_
        refine gw_seq ?_
        refine gw_region ?_
        refine wl_ov (ov_move rfl) rfl ?_
        refine wl_ov (ov_loads (vs := [.int .i64 wa, .int .i64 wb]) rz31 rfl (fun _ hm => (hm.fact 0 rfl).2) rfl rfl) rfl ?_
        refine wl_callv rfl cb31 rfl rfl (fun wx hm => (windowFault_any wa wb wx)) ?_
        refine wl_buildSlice (e := 38) (cs := [.int .i64 FsQ, .int .i64 (windowE wa wb)]) rfl (by kernel_rfl) rfl fun g10 => ?_
        refine wl_callw (v := .int .i64 E3) rfl cb13 rfl rfl (fun wx hm => (by have h := errs_any [FsQ, windowE wa wb] g10 2 _ wx (hm.blkI 0 rfl) (by simp); rw [← hthree] at h; exact h)) ?_
        refine wl_ov (ov_assign rfl) rfl ?_
        refine wl_nil ?_
        refine nx_then ?_
        refine gw_seq ?_
        refine gw_seq ?_
        refine gw_region ?_
        refine wl_ov (ov_move rfl) rfl ?_
        refine wl_callv (v := .int .i64 AE) rfl cb32 rfl rfl (fun wx hm => (by rw [hAE]; exact checkStations_any l A k c wx (hm.fact 2 rfl).1 hlo (by omega))) ?_
        refine wl_ov (ov_move rfl) rfl ?_
        refine wl_callv (v := .int .i64 AE) rfl cb28 rfl rfl (fun wx hm => (by rw [hAE]; exact stationsFault_any l A k c wx (hm.fact 2 rfl).1 hlo (by omega))) ?_
        refine wl_ov (ov_neq rfl rfl) rfl ?_
        refine wl_set 83 (v' := .bool false) rfl (congrArg Value.bool (by simp)) ?_
        refine wl_ov (ov_move rfl) rfl ?_
        refine wl_guard_on rfl rfl rfl ?_
        refine wl_ov (ov_move rfl) rfl ?_
        refine wl_guard_on rfl rfl rfl ?_
        refine wl_ov (ov_move rfl) rfl ?_
        refine wl_guard_on rfl rfl rfl ?_
        refine wl_ov (ov_neq rfl rfl) rfl ?_
        refine wl_set 87 (v' := .bool false) rfl (congrArg Value.bool (by simp)) ?_
        refine wl_ov (ov_pick_f rfl rfl) rfl ?_
        refine wl_ov (ov_move rfl) rfl ?_
        refine wl_guard_on rfl rfl rfl ?_
        refine wl_ov (ov_move rfl) rfl ?_
        refine wl_guard_on rfl rfl rfl ?_
        refine wl_ov (ov_move rfl) rfl ?_
        refine wl_guard_on rfl rfl rfl ?_
        refine wl_ov (ov_eql rfl rfl) rfl ?_
        refine wl_set 92 (v' := .bool true) rfl (congrArg Value.bool (decide_eq_true h1)) ?_
        refine wl_guard_on rfl rfl rfl ?_
        refine wl_ov (ov_move rfl) rfl ?_
        refine wl_guard_on rfl rfl rfl ?_
        refine wl_ov (ov_loads (vs := [.string key, .int .i64 u0, .int .i64 u1, .int .i64 u2, .int .i64 u3, .int .i64 u4, .int .i64 u5, .int .i64 u6, .int .i64 u7, .int .i64 u8, .int .i64 u9, .int .i64 u10, .int .i64 u11, .int .i64 u12, .int .i64 u13]) rz56 rfl (fun _ hm => (hm.fact 1 rfl).2) rfl rfl) rfl ?_
        refine wl_guard_on rfl rfl rfl ?_
        refine wl_ov (ov_move rfl) rfl ?_
        refine wl_guard_on rfl rfl rfl ?_
        refine wl_callv (v := .bool OV) rfl cb33 rfl rfl (fun wx hm => (by rw [hOV]; exact openAt_any key u0 u1 u2 u3 u4 u5 u6 u7 u8 u9 u10 u11 u12 u13 at_ wx ho hm0 hm1)) ?_
        refine wl_guard_on rfl rfl rfl ?_
        refine wl_ov (ov_pick_t rfl rfl) rfl ?_
        refine wl_guard_on rfl rfl rfl ?_
        refine wl_ov (ov_bneq (by kernel_rfl) rfl rfl) rfl ?_
        refine wl_set 98 (v' := .bool false) rfl (congrArg Value.bool (by simp)) ?_
        refine wl_ov (ov_pick_f rfl rfl) rfl ?_
        refine wl_ov (ov_move rfl) rfl ?_
        refine wl_guard_on rfl rfl rfl ?_
        refine wl_ov (ov_move rfl) rfl ?_
        refine wl_guard_on rfl rfl rfl ?_
        refine wl_ov (ov_move rfl) rfl ?_
        refine wl_guard_on rfl rfl rfl ?_
        refine wl_ov (ov_neq rfl rfl) rfl ?_
        refine wl_set 103 (v' := .bool false) rfl (congrArg Value.bool (by simp)) ?_
        refine wl_ov (ov_pick_f rfl rfl) rfl ?_
        refine wl_ov (ov_move rfl) rfl ?_
        refine wl_guard_on rfl rfl rfl ?_
        refine wl_ov (ov_move rfl) rfl ?_
        refine wl_guard_on rfl rfl rfl ?_
        refine wl_ov (ov_move rfl) rfl ?_
        refine wl_guard_on rfl rfl rfl ?_
        refine wl_ov (ov_neq rfl rfl) rfl ?_
        refine wl_set 108 (v' := .bool false) rfl (congrArg Value.bool (by simp)) ?_
        refine wl_ov (ov_pick_f rfl rfl) rfl ?_
        refine wl_nil ?_
        refine nx_then ?_
        refine gw_cond rfl (fun hh => by cases hh) (fun _ => ?_)
        refine gw_skip ?_
        refine nx_then ?_
        refine gw_seq ?_
        refine gw_region ?_
        refine wl_ov (ov_move rfl) rfl ?_
        refine wl_ov (ov_move rfl) rfl ?_
        refine wl_ov (ov_eql rfl rfl) rfl ?_
        refine wl_set 112 (v' := .bool true) rfl (congrArg Value.bool (by simp)) ?_
        refine wl_ov (ov_move rfl) rfl ?_
        refine wl_guard_on rfl rfl rfl ?_
        refine wl_ov (ov_move rfl) rfl ?_
        refine wl_guard_on rfl rfl rfl ?_
        refine wl_ov (ov_eql rfl rfl) rfl ?_
        refine wl_set 115 (v' := .bool true) rfl (congrArg Value.bool (decide_eq_true h3)) ?_
        refine wl_guard_on rfl rfl rfl ?_
        refine wl_ov (ov_move rfl) rfl ?_
        refine wl_guard_on rfl rfl rfl ?_
        refine wl_ov (ov_move rfl) rfl ?_
        refine wl_guard_on rfl rfl rfl ?_
        refine wl_ov (ov_loads (vs := [.string key, .int .i64 u0, .int .i64 u1, .int .i64 u2, .int .i64 u3, .int .i64 u4, .int .i64 u5, .int .i64 u6, .int .i64 u7, .int .i64 u8, .int .i64 u9, .int .i64 u10, .int .i64 u11, .int .i64 u12, .int .i64 u13]) rz56 rfl (fun _ hm => (hm.fact 1 rfl).2) rfl rfl) rfl ?_
        refine wl_guard_on rfl rfl rfl ?_
        refine wl_ov (ov_loads (vs := [.int .i64 wa, .int .i64 wb]) rz31 rfl (fun _ hm => (hm.fact 0 rfl).2) rfl rfl) rfl ?_
        refine wl_guard_on rfl rfl rfl ?_
        refine wl_callv (v := .int .i64 MV) rfl cb34 rfl rfl (fun wx hm => (by rw [hMV]; exact openIn_any key u0 u1 u2 u3 u4 u5 u6 u7 u8 u9 u10 u11 u12 u13 wa wb wx ho3 hw0 hw1 hw2)) ?_
        refine wl_guard_on rfl rfl rfl ?_
        refine wl_ov (ov_eql rfl rfl) rfl ?_
        refine wl_set 121 (v' := .bool true) rfl (congrArg Value.bool (by simp)) ?_
        refine wl_guard_on rfl rfl rfl ?_
        refine wl_ov (ov_pick_t rfl rfl) rfl ?_
        refine wl_guard_on rfl rfl rfl ?_
        refine wl_ov (ov_move rfl) rfl ?_
        refine wl_guard_off rfl rfl rfl (by decide) rfl ?_
        refine wl_guard_off rfl rfl rfl (by decide) rfl ?_
        refine wl_guard_off rfl rfl rfl (by decide) rfl ?_
        refine wl_guard_undef rfl rfl rfl rfl ?_
        refine wl_guard_undef rfl rfl rfl rfl ?_
        refine wl_guard_off rfl rfl rfl (by decide) rfl ?_
        refine wl_guard_on rfl rfl rfl ?_
        refine wl_ov (ov_pick_t rfl rfl) rfl ?_
        refine wl_ov (ov_pick_t rfl rfl) rfl ?_
        refine wl_ov (ov_move rfl) rfl ?_
        refine wl_guard_on rfl rfl rfl ?_
        refine wl_callv rfl cb35 rfl rfl (fun wx hm => (lots_any wx)) ?_
        refine wl_ov (ov_pick_t rfl rfl) rfl ?_
        refine wl_ov (ov_assign rfl) rfl ?_
        refine wl_nil ?_
        refine nx_then ?_
        refine gw_ret ?_
        refine nx_ret1 rfl rfl fun wx hm => ?_
        exact ⟨rfl, law_end hg1 hsb (grow_trans hm_w2.g (grow_weak hm.g))⟩
      · have hmv : openMinV (⟨key, [u0, u1, u2, u3, u4, u5, u6, u7, u8, u9, u10, u11, u12, u13]⟩ : St) wa wb = 0 := by unfold openMinV; rw [if_neg (by rw [← hE3]; exact h3)]
        refine wl_callv (v := .tuple #[.bool OV, .int .i64 E1]) rfl cb25 rfl rfl (fun wx hm => (by have h := lotOpen_any key [u0, u1, u2, u3, u4, u5, u6, u7, u8, u9, u10, u11, u12, u13] at_ wx hso hbx; rw [hov, ← hE1] at h; exact h)) ?_
        refine wl_ov (ov_move rfl) rfl ?_
        refine wl_ov (ov_extract rfl rfl) rfl ?_
        refine wl_ov (ov_extract rfl rfl) rfl ?_
        refine wl_ov (ov_assign rfl) rfl ?_
        refine wl_ov (ov_assign rfl) rfl ?_
        refine wl_nil ?_
        refine nx_then ?_
        refine gw_seq ?_
        refine gw_region ?_
        refine wl_ov (ov_loads (vs := [.string key, .int .i64 u0, .int .i64 u1, .int .i64 u2, .int .i64 u3, .int .i64 u4, .int .i64 u5, .int .i64 u6, .int .i64 u7, .int .i64 u8, .int .i64 u9, .int .i64 u10, .int .i64 u11, .int .i64 u12, .int .i64 u13]) rz56 rfl (fun _ hm => (hm.fact 1 rfl).2) rfl rfl) rfl ?_
        refine wl_ov (ov_move rfl) rfl ?_
        refine wl_callv (v := .tuple #[.int .i64 NQ, .int .i64 E2]) rfl cb26 rfl rfl (fun wx hm => (by have h := nextOpen_any key [u0, u1, u2, u3, u4, u5, u6, u7, u8, u9, u10, u11, u12, u13] at_ wx hso hbx; rw [hnr.1, hnr.2] at h; exact h)) ?_
        refine wl_ov (ov_move rfl) rfl ?_
        refine wl_ov (ov_extract rfl rfl) rfl ?_
        refine wl_ov (ov_extract rfl rfl) rfl ?_
        refine wl_ov (ov_assign rfl) rfl ?_
        refine wl_ov (ov_assign rfl) rfl ?_
        refine wl_nil ?_
        refine nx_then ?_
        refine gw_seq ?_
        refine gw_region ?_
        refine wl_ov (ov_loads (vs := [.string key, .int .i64 u0, .int .i64 u1, .int .i64 u2, .int .i64 u3, .int .i64 u4, .int .i64 u5, .int .i64 u6, .int .i64 u7, .int .i64 u8, .int .i64 u9, .int .i64 u10, .int .i64 u11, .int .i64 u12, .int .i64 u13]) rz56 rfl (fun _ hm => (hm.fact 1 rfl).2) rfl rfl) rfl ?_
        refine wl_ov (ov_loads (vs := [.int .i64 wa, .int .i64 wb]) rz31 rfl (fun _ hm => (hm.fact 0 rfl).2) rfl rfl) rfl ?_
        refine wl_callv (v := .tuple #[.int .i64 0, .int .i64 E3]) rfl cb27 rfl rfl (fun wx hm => (by have h := openMin_any key [u0, u1, u2, u3, u4, u5, u6, u7, u8, u9, u10, u11, u12, u13] wa wb wx hso hbx; rw [hmv, ← hE3] at h; exact h)) ?_
        refine wl_ov (ov_move rfl) rfl ?_
        refine wl_ov (ov_extract rfl rfl) rfl ?_
        refine wl_ov (ov_extract rfl rfl) rfl ?_
        refine wl_ov (ov_assign rfl) rfl ?_
        refine wl_ov (ov_assign rfl) rfl ?_
        refine wl_nil ?_
        refine nx_then ?_
        refine gw_seq ?_
        refine gw_region ?_
        refine wl_ov (ov_loads (vs := [.string key, .int .i64 u0, .int .i64 u1, .int .i64 u2, .int .i64 u3, .int .i64 u4, .int .i64 u5, .int .i64 u6, .int .i64 u7, .int .i64 u8, .int .i64 u9, .int .i64 u10, .int .i64 u11, .int .i64 u12, .int .i64 u13]) rz56 rfl (fun _ hm => (hm.fact 1 rfl).2) rfl rfl) rfl ?_
        refine wl_buildSlice (e := 56) (cs := [.string key, .int .i64 u0, .int .i64 u1, .int .i64 u2, .int .i64 u3, .int .i64 u4, .int .i64 u5, .int .i64 u6, .int .i64 u7, .int .i64 u8, .int .i64 u9, .int .i64 u10, .int .i64 u11, .int .i64 u12, .int .i64 u13]) rfl (by kernel_rfl) rfl fun g11 => ?_
        refine wl_callv (v := .int .i64 FsQ) rfl cb28 rfl rfl (fun wx hm => (by rw [hFS]; exact stationsFault_any [(⟨key, [u0, u1, u2, u3, u4, u5, u6, u7, u8, u9, u10, u11, u12, u13]⟩ : St)] _ 1 1 wx (sl_one (hm.blkI 0 rfl)) (fun x hx => by rw [List.mem_singleton.1 hx]; exact hso) (by omega))) ?_
        refine wl_ov (ov_assign rfl) rfl ?_
        refine wl_nil ?_
        refine nx_then ?_
        refine gw_seq ?_
        refine gw_region ?_
        refine wl_ov (ov_move rfl) rfl ?_
        refine wl_ov (ov_move rfl) rfl ?_
        refine wl_callv rfl cb29 rfl rfl (fun wx hm => (momentFault_any at_ wx)) ?_
        refine wl_buildSlice (e := 38) (cs := [.int .i64 FsQ, .int .i64 (momentE at_)]) rfl (by kernel_rfl) rfl fun g12 => ?_
        refine wl_callw (v := .int .i64 E1) rfl cb13 rfl rfl (fun wx hm => (by have h := errs_any [FsQ, momentE at_] g12 2 _ wx (hm.blkI 0 rfl) (by simp); rw [← hone] at h; exact h)) ?_
        refine wl_ov (ov_assign rfl) rfl ?_
        refine wl_nil ?_
        refine nx_then ?_
        refine gw_seq ?_
        refine gw_region ?_
        refine wl_ov (ov_move rfl) rfl ?_
        refine wl_ov (ov_assign rfl) rfl ?_
        refine wl_ov (ov_assign rfl) rfl ?_
        refine wl_nil ?_
        refine nx_then ?_
        refine gw_seq ?_
        refine gw_seq ?_
        refine gw_region ?_
        refine wl_ov (ov_move rfl) rfl ?_
        refine wl_ov (ov_eql rfl rfl) rfl ?_
        refine wl_set 63 (v' := .bool true) rfl (congrArg Value.bool (decide_eq_true h1)) ?_
        refine wl_nil ?_
        refine nx_then ?_
        refine gw_cond rfl (fun _ => ?_) (fun hh => by cases hh)
        refine gw_seq ?_
        refine gw_region ?_
        refine wl_ov (ov_loads (vs := [.string key, .int .i64 u0, .int .i64 u1, .int .i64 u2, .int .i64 u3, .int .i64 u4, .int .i64 u5, .int .i64 u6, .int .i64 u7, .int .i64 u8, .int .i64 u9, .int .i64 u10, .int .i64 u11, .int .i64 u12, .int .i64 u13]) rz56 rfl (fun _ hm => (hm.fact 1 rfl).2) rfl rfl) rfl ?_
        refine wl_ov (ov_move rfl) rfl ?_
        refine wl_callv (v := .tuple #[.int .i64 NQ, .bool IS]) rfl cb30 rfl rfl (fun wx hm => (by rw [hNQ, hIS]; exact nextOpenOf_any key u0 u1 u2 u3 u4 u5 u6 u7 u8 u9 u10 u11 u12 u13 at_ wx ho hm0 hm1)) ?_
        refine wl_ov (ov_move rfl) rfl ?_
        refine wl_ov (ov_extract rfl rfl) rfl ?_
        refine wl_ov (ov_extract rfl rfl) rfl ?_
        refine wl_ov (ov_assign rfl) rfl ?_
        refine wl_ov (ov_assign rfl) rfl ?_
        refine wl_nil ?_
        refine nx_then ?_
        refine gw_region ?_
        refine wl_ov (ov_move rfl) rfl ?_
        refine wl_ov (ov_move rfl) rfl ?_
        refine wl_ov (ov_un_not rfl) rfl ?_
        refine wl_callw (v := .int .i64 E2) rfl cb15 rfl rfl (fun wx hm => (by have h := rwhen_any (!IS) 8 wx; rw [← hE2s] at h; exact h)) ?_
        refine wl_ov (ov_assign rfl) rfl ?_
        refine wl_ov (ov_assign rfl) rfl ?_
        refine wl_nil ?_
        refine nx_then ?_
        refine gw_seq ?_
        refine gw_region ?_
        refine wl_ov (ov_move rfl) rfl ?_
        refine wl_ov (ov_loads (vs := [.int .i64 wa, .int .i64 wb]) rz31 rfl (fun _ hm => (hm.fact 0 rfl).2) rfl rfl) rfl ?_
        refine wl_callv rfl cb31 rfl rfl (fun wx hm => (windowFault_any wa wb wx)) ?_
        refine wl_buildSlice (e := 38) (cs := [.int .i64 FsQ, .int .i64 (windowE wa wb)]) rfl (by kernel_rfl) rfl fun g13 => ?_
        refine wl_callw (v := .int .i64 E3) rfl cb13 rfl rfl (fun wx hm => (by have h := errs_any [FsQ, windowE wa wb] g13 2 _ wx (hm.blkI 0 rfl) (by simp); rw [← hthree] at h; exact h)) ?_
        refine wl_ov (ov_assign rfl) rfl ?_
        refine wl_nil ?_
        refine nx_then ?_
        refine gw_seq ?_
        refine gw_seq ?_
        refine gw_region ?_
        refine wl_ov (ov_move rfl) rfl ?_
        refine wl_callv (v := .int .i64 AE) rfl cb32 rfl rfl (fun wx hm => (by rw [hAE]; exact checkStations_any l A k c wx (hm.fact 2 rfl).1 hlo (by omega))) ?_
        refine wl_ov (ov_move rfl) rfl ?_
        refine wl_callv (v := .int .i64 AE) rfl cb28 rfl rfl (fun wx hm => (by rw [hAE]; exact stationsFault_any l A k c wx (hm.fact 2 rfl).1 hlo (by omega))) ?_
        refine wl_ov (ov_neq rfl rfl) rfl ?_
        refine wl_set 83 (v' := .bool false) rfl (congrArg Value.bool (by simp)) ?_
        refine wl_ov (ov_move rfl) rfl ?_
        refine wl_guard_on rfl rfl rfl ?_
        refine wl_ov (ov_move rfl) rfl ?_
        refine wl_guard_on rfl rfl rfl ?_
        refine wl_ov (ov_move rfl) rfl ?_
        refine wl_guard_on rfl rfl rfl ?_
        refine wl_ov (ov_neq rfl rfl) rfl ?_
        refine wl_set 87 (v' := .bool false) rfl (congrArg Value.bool (by simp)) ?_
        refine wl_ov (ov_pick_f rfl rfl) rfl ?_
        refine wl_ov (ov_move rfl) rfl ?_
        refine wl_guard_on rfl rfl rfl ?_
        refine wl_ov (ov_move rfl) rfl ?_
        refine wl_guard_on rfl rfl rfl ?_
        refine wl_ov (ov_move rfl) rfl ?_
        refine wl_guard_on rfl rfl rfl ?_
        refine wl_ov (ov_eql rfl rfl) rfl ?_
        refine wl_set 92 (v' := .bool true) rfl (congrArg Value.bool (decide_eq_true h1)) ?_
        refine wl_guard_on rfl rfl rfl ?_
        refine wl_ov (ov_move rfl) rfl ?_
        refine wl_guard_on rfl rfl rfl ?_
        refine wl_ov (ov_loads (vs := [.string key, .int .i64 u0, .int .i64 u1, .int .i64 u2, .int .i64 u3, .int .i64 u4, .int .i64 u5, .int .i64 u6, .int .i64 u7, .int .i64 u8, .int .i64 u9, .int .i64 u10, .int .i64 u11, .int .i64 u12, .int .i64 u13]) rz56 rfl (fun _ hm => (hm.fact 1 rfl).2) rfl rfl) rfl ?_
        refine wl_guard_on rfl rfl rfl ?_
        refine wl_ov (ov_move rfl) rfl ?_
        refine wl_guard_on rfl rfl rfl ?_
        refine wl_callv (v := .bool OV) rfl cb33 rfl rfl (fun wx hm => (by rw [hOV]; exact openAt_any key u0 u1 u2 u3 u4 u5 u6 u7 u8 u9 u10 u11 u12 u13 at_ wx ho hm0 hm1)) ?_
        refine wl_guard_on rfl rfl rfl ?_
        refine wl_ov (ov_pick_t rfl rfl) rfl ?_
        refine wl_guard_on rfl rfl rfl ?_
        refine wl_ov (ov_bneq (by kernel_rfl) rfl rfl) rfl ?_
        refine wl_set 98 (v' := .bool false) rfl (congrArg Value.bool (by simp)) ?_
        refine wl_ov (ov_pick_f rfl rfl) rfl ?_
        refine wl_ov (ov_move rfl) rfl ?_
        refine wl_guard_on rfl rfl rfl ?_
        refine wl_ov (ov_move rfl) rfl ?_
        refine wl_guard_on rfl rfl rfl ?_
        refine wl_ov (ov_move rfl) rfl ?_
        refine wl_guard_on rfl rfl rfl ?_
        refine wl_ov (ov_neq rfl rfl) rfl ?_
        refine wl_set 103 (v' := .bool false) rfl (congrArg Value.bool (by simp)) ?_
        refine wl_ov (ov_pick_f rfl rfl) rfl ?_
        refine wl_ov (ov_move rfl) rfl ?_
        refine wl_guard_on rfl rfl rfl ?_
        refine wl_ov (ov_move rfl) rfl ?_
        refine wl_guard_on rfl rfl rfl ?_
        refine wl_ov (ov_move rfl) rfl ?_
        refine wl_guard_on rfl rfl rfl ?_
        refine wl_ov (ov_neq rfl rfl) rfl ?_
        refine wl_set 108 (v' := .bool false) rfl (congrArg Value.bool (by simp)) ?_
        refine wl_ov (ov_pick_f rfl rfl) rfl ?_
        refine wl_nil ?_
        refine nx_then ?_
        refine gw_cond rfl (fun hh => by cases hh) (fun _ => ?_)
        refine gw_skip ?_
        refine nx_then ?_
        refine gw_seq ?_
        refine gw_region ?_
        refine wl_ov (ov_move rfl) rfl ?_
        refine wl_ov (ov_move rfl) rfl ?_
        refine wl_ov (ov_eql rfl rfl) rfl ?_
        refine wl_set 112 (v' := .bool true) rfl (congrArg Value.bool (by simp)) ?_
        refine wl_ov (ov_move rfl) rfl ?_
        refine wl_guard_on rfl rfl rfl ?_
        refine wl_ov (ov_move rfl) rfl ?_
        refine wl_guard_on rfl rfl rfl ?_
        refine wl_ov (ov_eql rfl rfl) rfl ?_
        refine wl_set 115 (v' := .bool false) rfl (congrArg Value.bool (decide_eq_false h3)) ?_
        refine wl_guard_on rfl rfl rfl ?_
        refine wl_ov (ov_move rfl) rfl ?_
        refine wl_guard_off rfl rfl rfl (by decide) rfl ?_
        refine wl_guard_off rfl rfl rfl (by decide) rfl ?_
        refine wl_guard_off rfl rfl rfl (by decide) rfl ?_
        refine wl_guard_off rfl rfl rfl (by decide) rfl ?_
        refine wl_guard_off rfl rfl rfl (by decide) rfl ?_
        refine wl_guard_on rfl rfl rfl ?_
        refine wl_ov (ov_pick_f rfl rfl) rfl ?_
        refine wl_guard_on rfl rfl rfl ?_
        refine wl_ov (ov_move rfl) rfl ?_
        refine wl_guard_on rfl rfl rfl ?_
        refine wl_ov (ov_move rfl) rfl ?_
        refine wl_guard_on rfl rfl rfl ?_
        refine wl_ov (ov_neq rfl rfl) rfl ?_
        refine wl_set 125 (v' := .bool true) rfl (congrArg Value.bool (by rw [decide_eq_false h3]; rfl)) ?_
        refine wl_guard_on rfl rfl rfl ?_
        refine wl_ov (ov_move rfl) rfl ?_
        refine wl_guard_on rfl rfl rfl ?_
        refine wl_ov (ov_move rfl) rfl ?_
        refine wl_guard_on rfl rfl rfl ?_
        refine wl_ov (ov_eql rfl rfl) rfl ?_
        refine wl_set 128 (v' := .bool true) rfl (congrArg Value.bool (by decide)) ?_
        refine wl_guard_on rfl rfl rfl ?_
        refine wl_ov (ov_pick_t rfl rfl) rfl ?_
        refine wl_guard_on rfl rfl rfl ?_
        refine wl_ov (ov_pick_f rfl rfl) rfl ?_
        refine wl_ov (ov_pick_t rfl rfl) rfl ?_
        refine wl_ov (ov_move rfl) rfl ?_
        refine wl_guard_on rfl rfl rfl ?_
        refine wl_callv rfl cb35 rfl rfl (fun wx hm => (lots_any wx)) ?_
        refine wl_ov (ov_pick_t rfl rfl) rfl ?_
        refine wl_ov (ov_assign rfl) rfl ?_
        refine wl_nil ?_
        refine nx_then ?_
        refine gw_ret ?_
        refine nx_ret1 rfl rfl fun wx hm => ?_
        exact ⟨rfl, law_end hg1 hsb (grow_trans hm_w2.g (grow_weak hm.g))⟩
    · have hov : isOpenV (⟨key, [u0, u1, u2, u3, u4, u5, u6, u7, u8, u9, u10, u11, u12, u13]⟩ : St) at_ = false := isOpen_bad (by rw [← hE1]; exact h1)
      by_cases h3 : E3 = 0
      · obtain ⟨hfs3, hwi⟩ := firstE_fst (hthree.symm.trans h3)
        have ho3 : HrsOk [u0, u1, u2, u3, u4, u5, u6, u7, u8, u9, u10, u11, u12, u13] := sta_ok (hFS.symm.trans hfs3)
        obtain ⟨hw0, hw1, hw2⟩ := windowE_ok hwi
        obtain ⟨MV, hMV⟩ : ∃ v, v = minSum [u0, u1, u2, u3, u4, u5, u6, u7, u8, u9, u10, u11, u12, u13] wa wb 4002 (wa / 1440) := ⟨_, rfl⟩
        have hmv : openMinV (⟨key, [u0, u1, u2, u3, u4, u5, u6, u7, u8, u9, u10, u11, u12, u13]⟩ : St) wa wb = MV := by unfold openMinV; rw [if_pos (hE3.symm.trans h3), hMV]
        refine wl_callv (v := .tuple #[.bool false, .int .i64 E1]) rfl cb25 rfl rfl (fun wx hm => (by have h := lotOpen_any key [u0, u1, u2, u3, u4, u5, u6, u7, u8, u9, u10, u11, u12, u13] at_ wx hso hbx; rw [hov, ← hE1] at h; exact h)) ?_
        refine wl_ov (ov_move rfl) rfl ?_
        refine wl_ov (ov_extract rfl rfl) rfl ?_
        refine wl_ov (ov_extract rfl rfl) rfl ?_
        refine wl_ov (ov_assign rfl) rfl ?_
        refine wl_ov (ov_assign rfl) rfl ?_
        refine wl_nil ?_
        refine nx_then ?_
        refine gw_seq ?_
        refine gw_region ?_
        refine wl_ov (ov_loads (vs := [.string key, .int .i64 u0, .int .i64 u1, .int .i64 u2, .int .i64 u3, .int .i64 u4, .int .i64 u5, .int .i64 u6, .int .i64 u7, .int .i64 u8, .int .i64 u9, .int .i64 u10, .int .i64 u11, .int .i64 u12, .int .i64 u13]) rz56 rfl (fun _ hm => (hm.fact 1 rfl).2) rfl rfl) rfl ?_
        refine wl_ov (ov_move rfl) rfl ?_
        refine wl_callv (v := .tuple #[.int .i64 0, .int .i64 E1]) rfl cb26 rfl rfl (fun wx hm => (by have h := nextOpen_any key [u0, u1, u2, u3, u4, u5, u6, u7, u8, u9, u10, u11, u12, u13] at_ wx hso hbx; rw [(next_bad (by rw [← hE1]; exact h1)).1, (next_bad (by rw [← hE1]; exact h1)).2, ← hE1] at h; exact h)) ?_
        refine wl_ov (ov_move rfl) rfl ?_
        refine wl_ov (ov_extract rfl rfl) rfl ?_
        refine wl_ov (ov_extract rfl rfl) rfl ?_
        refine wl_ov (ov_assign rfl) rfl ?_
        refine wl_ov (ov_assign rfl) rfl ?_
        refine wl_nil ?_
        refine nx_then ?_
        refine gw_seq ?_
        refine gw_region ?_
        refine wl_ov (ov_loads (vs := [.string key, .int .i64 u0, .int .i64 u1, .int .i64 u2, .int .i64 u3, .int .i64 u4, .int .i64 u5, .int .i64 u6, .int .i64 u7, .int .i64 u8, .int .i64 u9, .int .i64 u10, .int .i64 u11, .int .i64 u12, .int .i64 u13]) rz56 rfl (fun _ hm => (hm.fact 1 rfl).2) rfl rfl) rfl ?_
        refine wl_ov (ov_loads (vs := [.int .i64 wa, .int .i64 wb]) rz31 rfl (fun _ hm => (hm.fact 0 rfl).2) rfl rfl) rfl ?_
        refine wl_callv (v := .tuple #[.int .i64 MV, .int .i64 E3]) rfl cb27 rfl rfl (fun wx hm => (by have h := openMin_any key [u0, u1, u2, u3, u4, u5, u6, u7, u8, u9, u10, u11, u12, u13] wa wb wx hso hbx; rw [hmv, ← hE3] at h; exact h)) ?_
        refine wl_ov (ov_move rfl) rfl ?_
        refine wl_ov (ov_extract rfl rfl) rfl ?_
        refine wl_ov (ov_extract rfl rfl) rfl ?_
        refine wl_ov (ov_assign rfl) rfl ?_
        refine wl_ov (ov_assign rfl) rfl ?_
        refine wl_nil ?_
        refine nx_then ?_
        refine gw_seq ?_
        refine gw_region ?_
        refine wl_ov (ov_loads (vs := [.string key, .int .i64 u0, .int .i64 u1, .int .i64 u2, .int .i64 u3, .int .i64 u4, .int .i64 u5, .int .i64 u6, .int .i64 u7, .int .i64 u8, .int .i64 u9, .int .i64 u10, .int .i64 u11, .int .i64 u12, .int .i64 u13]) rz56 rfl (fun _ hm => (hm.fact 1 rfl).2) rfl rfl) rfl ?_
        refine wl_buildSlice (e := 56) (cs := [.string key, .int .i64 u0, .int .i64 u1, .int .i64 u2, .int .i64 u3, .int .i64 u4, .int .i64 u5, .int .i64 u6, .int .i64 u7, .int .i64 u8, .int .i64 u9, .int .i64 u10, .int .i64 u11, .int .i64 u12, .int .i64 u13]) rfl (by kernel_rfl) rfl fun g14 => ?_
        refine wl_callv (v := .int .i64 FsQ) rfl cb28 rfl rfl (fun wx hm => (by rw [hFS]; exact stationsFault_any [(⟨key, [u0, u1, u2, u3, u4, u5, u6, u7, u8, u9, u10, u11, u12, u13]⟩ : St)] _ 1 1 wx (sl_one (hm.blkI 0 rfl)) (fun x hx => by rw [List.mem_singleton.1 hx]; exact hso) (by omega))) ?_
        refine wl_ov (ov_assign rfl) rfl ?_
        refine wl_nil ?_
        refine nx_then ?_
        refine gw_seq ?_
        refine gw_region ?_
        refine wl_ov (ov_move rfl) rfl ?_
        refine wl_ov (ov_move rfl) rfl ?_
        refine wl_callv rfl cb29 rfl rfl (fun wx hm => (momentFault_any at_ wx)) ?_
        refine wl_buildSlice (e := 38) (cs := [.int .i64 FsQ, .int .i64 (momentE at_)]) rfl (by kernel_rfl) rfl fun g15 => ?_
        refine wl_callw (v := .int .i64 E1) rfl cb13 rfl rfl (fun wx hm => (by have h := errs_any [FsQ, momentE at_] g15 2 _ wx (hm.blkI 0 rfl) (by simp); rw [← hone] at h; exact h)) ?_
        refine wl_ov (ov_assign rfl) rfl ?_
        refine wl_nil ?_
        refine nx_then ?_
        refine gw_seq ?_
        refine gw_region ?_
        refine wl_ov (ov_move rfl) rfl ?_
        refine wl_ov (ov_assign rfl) rfl ?_
        refine wl_ov (ov_assign rfl) rfl ?_
        refine wl_nil ?_
        refine nx_then ?_
        refine gw_seq ?_
        refine gw_seq ?_
        refine gw_region ?_
        refine wl_ov (ov_move rfl) rfl ?_
        refine wl_ov (ov_eql rfl rfl) rfl ?_
        refine wl_set 63 (v' := .bool false) rfl (congrArg Value.bool (decide_eq_false h1)) ?_
        refine wl_nil ?_
        refine nx_then ?_
        refine gw_cond rfl (fun hh => by cases hh) (fun _ => ?_)
        refine gw_skip ?_
        refine nx_then ?_
        refine gw_seq ?_
        refine gw_region ?_
        refine wl_ov (ov_move rfl) rfl ?_
        refine wl_ov (ov_loads (vs := [.int .i64 wa, .int .i64 wb]) rz31 rfl (fun _ hm => (hm.fact 0 rfl).2) rfl rfl) rfl ?_
        refine wl_callv rfl cb31 rfl rfl (fun wx hm => (windowFault_any wa wb wx)) ?_
        refine wl_buildSlice (e := 38) (cs := [.int .i64 FsQ, .int .i64 (windowE wa wb)]) rfl (by kernel_rfl) rfl fun g16 => ?_
        refine wl_callw (v := .int .i64 E3) rfl cb13 rfl rfl (fun wx hm => (by have h := errs_any [FsQ, windowE wa wb] g16 2 _ wx (hm.blkI 0 rfl) (by simp); rw [← hthree] at h; exact h)) ?_
        refine wl_ov (ov_assign rfl) rfl ?_
        refine wl_nil ?_
        refine nx_then ?_
        refine gw_seq ?_
        refine gw_seq ?_
        refine gw_region ?_
        refine wl_ov (ov_move rfl) rfl ?_
        refine wl_callv (v := .int .i64 AE) rfl cb32 rfl rfl (fun wx hm => (by rw [hAE]; exact checkStations_any l A k c wx (hm.fact 2 rfl).1 hlo (by omega))) ?_
        refine wl_ov (ov_move rfl) rfl ?_
        refine wl_callv (v := .int .i64 AE) rfl cb28 rfl rfl (fun wx hm => (by rw [hAE]; exact stationsFault_any l A k c wx (hm.fact 2 rfl).1 hlo (by omega))) ?_
        refine wl_ov (ov_neq rfl rfl) rfl ?_
        refine wl_set 83 (v' := .bool false) rfl (congrArg Value.bool (by simp)) ?_
        refine wl_ov (ov_move rfl) rfl ?_
        refine wl_guard_on rfl rfl rfl ?_
        refine wl_ov (ov_move rfl) rfl ?_
        refine wl_guard_on rfl rfl rfl ?_
        refine wl_ov (ov_move rfl) rfl ?_
        refine wl_guard_on rfl rfl rfl ?_
        refine wl_ov (ov_neq rfl rfl) rfl ?_
        refine wl_set 87 (v' := .bool false) rfl (congrArg Value.bool (by simp)) ?_
        refine wl_ov (ov_pick_f rfl rfl) rfl ?_
        refine wl_ov (ov_move rfl) rfl ?_
        refine wl_guard_on rfl rfl rfl ?_
        refine wl_ov (ov_move rfl) rfl ?_
        refine wl_guard_on rfl rfl rfl ?_
        refine wl_ov (ov_move rfl) rfl ?_
        refine wl_guard_on rfl rfl rfl ?_
        refine wl_ov (ov_eql rfl rfl) rfl ?_
        refine wl_set 92 (v' := .bool false) rfl (congrArg Value.bool (decide_eq_false h1)) ?_
        refine wl_guard_on rfl rfl rfl ?_
        refine wl_ov (ov_move rfl) rfl ?_
        refine wl_guard_off rfl rfl rfl (by decide) rfl ?_
        refine wl_guard_off rfl rfl rfl (by decide) rfl ?_
        refine wl_guard_off rfl rfl rfl (by decide) rfl ?_
        refine wl_guard_on rfl rfl rfl ?_
        refine wl_ov (ov_pick_f rfl rfl) rfl ?_
        refine wl_guard_on rfl rfl rfl ?_
        refine wl_ov (ov_bneq (by kernel_rfl) rfl rfl) rfl ?_
        refine wl_set 98 (v' := .bool false) rfl (congrArg Value.bool (by simp)) ?_
        refine wl_ov (ov_pick_f rfl rfl) rfl ?_
        refine wl_ov (ov_move rfl) rfl ?_
        refine wl_guard_on rfl rfl rfl ?_
        refine wl_ov (ov_move rfl) rfl ?_
        refine wl_guard_on rfl rfl rfl ?_
        refine wl_ov (ov_move rfl) rfl ?_
        refine wl_guard_on rfl rfl rfl ?_
        refine wl_ov (ov_neq rfl rfl) rfl ?_
        refine wl_set 103 (v' := .bool false) rfl (congrArg Value.bool (by simp)) ?_
        refine wl_ov (ov_pick_f rfl rfl) rfl ?_
        refine wl_ov (ov_move rfl) rfl ?_
        refine wl_guard_on rfl rfl rfl ?_
        refine wl_ov (ov_move rfl) rfl ?_
        refine wl_guard_on rfl rfl rfl ?_
        refine wl_ov (ov_move rfl) rfl ?_
        refine wl_guard_on rfl rfl rfl ?_
        refine wl_ov (ov_neq rfl rfl) rfl ?_
        refine wl_set 108 (v' := .bool false) rfl (congrArg Value.bool (by decide)) ?_
        refine wl_ov (ov_pick_f rfl rfl) rfl ?_
        refine wl_nil ?_
        refine nx_then ?_
        refine gw_cond rfl (fun hh => by cases hh) (fun _ => ?_)
        refine gw_skip ?_
        refine nx_then ?_
        refine gw_seq ?_
        refine gw_region ?_
        refine wl_ov (ov_move rfl) rfl ?_
        refine wl_ov (ov_move rfl) rfl ?_
        refine wl_ov (ov_eql rfl rfl) rfl ?_
        refine wl_set 112 (v' := .bool true) rfl (congrArg Value.bool (by simp)) ?_
        refine wl_ov (ov_move rfl) rfl ?_
        refine wl_guard_on rfl rfl rfl ?_
        refine wl_ov (ov_move rfl) rfl ?_
        refine wl_guard_on rfl rfl rfl ?_
        refine wl_ov (ov_eql rfl rfl) rfl ?_
        refine wl_set 115 (v' := .bool true) rfl (congrArg Value.bool (decide_eq_true h3)) ?_
        refine wl_guard_on rfl rfl rfl ?_
        refine wl_ov (ov_move rfl) rfl ?_
        refine wl_guard_on rfl rfl rfl ?_
        refine wl_ov (ov_move rfl) rfl ?_
        refine wl_guard_on rfl rfl rfl ?_
        refine wl_ov (ov_loads (vs := [.string key, .int .i64 u0, .int .i64 u1, .int .i64 u2, .int .i64 u3, .int .i64 u4, .int .i64 u5, .int .i64 u6, .int .i64 u7, .int .i64 u8, .int .i64 u9, .int .i64 u10, .int .i64 u11, .int .i64 u12, .int .i64 u13]) rz56 rfl (fun _ hm => (hm.fact 1 rfl).2) rfl rfl) rfl ?_
        refine wl_guard_on rfl rfl rfl ?_
        refine wl_ov (ov_loads (vs := [.int .i64 wa, .int .i64 wb]) rz31 rfl (fun _ hm => (hm.fact 0 rfl).2) rfl rfl) rfl ?_
        refine wl_guard_on rfl rfl rfl ?_
        refine wl_callv (v := .int .i64 MV) rfl cb34 rfl rfl (fun wx hm => (by rw [hMV]; exact openIn_any key u0 u1 u2 u3 u4 u5 u6 u7 u8 u9 u10 u11 u12 u13 wa wb wx ho3 hw0 hw1 hw2)) ?_
        refine wl_guard_on rfl rfl rfl ?_
        refine wl_ov (ov_eql rfl rfl) rfl ?_
        refine wl_set 121 (v' := .bool true) rfl (congrArg Value.bool (by simp)) ?_
        refine wl_guard_on rfl rfl rfl ?_
        refine wl_ov (ov_pick_t rfl rfl) rfl ?_
        refine wl_guard_on rfl rfl rfl ?_
        refine wl_ov (ov_move rfl) rfl ?_
        refine wl_guard_off rfl rfl rfl (by decide) rfl ?_
        refine wl_guard_off rfl rfl rfl (by decide) rfl ?_
        refine wl_guard_off rfl rfl rfl (by decide) rfl ?_
        refine wl_guard_undef rfl rfl rfl rfl ?_
        refine wl_guard_undef rfl rfl rfl rfl ?_
        refine wl_guard_off rfl rfl rfl (by decide) rfl ?_
        refine wl_guard_on rfl rfl rfl ?_
        refine wl_ov (ov_pick_t rfl rfl) rfl ?_
        refine wl_ov (ov_pick_t rfl rfl) rfl ?_
        refine wl_ov (ov_move rfl) rfl ?_
        refine wl_guard_on rfl rfl rfl ?_
        refine wl_callv rfl cb35 rfl rfl (fun wx hm => (lots_any wx)) ?_
        refine wl_ov (ov_pick_t rfl rfl) rfl ?_
        refine wl_ov (ov_assign rfl) rfl ?_
        refine wl_nil ?_
        refine nx_then ?_
        refine gw_ret ?_
        refine nx_ret1 rfl rfl fun wx hm => ?_
        exact ⟨rfl, law_end hg1 hsb (grow_trans hm_w2.g (grow_weak hm.g))⟩
      · have hmv : openMinV (⟨key, [u0, u1, u2, u3, u4, u5, u6, u7, u8, u9, u10, u11, u12, u13]⟩ : St) wa wb = 0 := by unfold openMinV; rw [if_neg (by rw [← hE3]; exact h3)]
        refine wl_callv (v := .tuple #[.bool false, .int .i64 E1]) rfl cb25 rfl rfl (fun wx hm => (by have h := lotOpen_any key [u0, u1, u2, u3, u4, u5, u6, u7, u8, u9, u10, u11, u12, u13] at_ wx hso hbx; rw [hov, ← hE1] at h; exact h)) ?_
        refine wl_ov (ov_move rfl) rfl ?_
        refine wl_ov (ov_extract rfl rfl) rfl ?_
        refine wl_ov (ov_extract rfl rfl) rfl ?_
        refine wl_ov (ov_assign rfl) rfl ?_
        refine wl_ov (ov_assign rfl) rfl ?_
        refine wl_nil ?_
        refine nx_then ?_
        refine gw_seq ?_
        refine gw_region ?_
        refine wl_ov (ov_loads (vs := [.string key, .int .i64 u0, .int .i64 u1, .int .i64 u2, .int .i64 u3, .int .i64 u4, .int .i64 u5, .int .i64 u6, .int .i64 u7, .int .i64 u8, .int .i64 u9, .int .i64 u10, .int .i64 u11, .int .i64 u12, .int .i64 u13]) rz56 rfl (fun _ hm => (hm.fact 1 rfl).2) rfl rfl) rfl ?_
        refine wl_ov (ov_move rfl) rfl ?_
        refine wl_callv (v := .tuple #[.int .i64 0, .int .i64 E1]) rfl cb26 rfl rfl (fun wx hm => (by have h := nextOpen_any key [u0, u1, u2, u3, u4, u5, u6, u7, u8, u9, u10, u11, u12, u13] at_ wx hso hbx; rw [(next_bad (by rw [← hE1]; exact h1)).1, (next_bad (by rw [← hE1]; exact h1)).2, ← hE1] at h; exact h)) ?_
        refine wl_ov (ov_move rfl) rfl ?_
        refine wl_ov (ov_extract rfl rfl) rfl ?_
        refine wl_ov (ov_extract rfl rfl) rfl ?_
        refine wl_ov (ov_assign rfl) rfl ?_
        refine wl_ov (ov_assign rfl) rfl ?_
        refine wl_nil ?_
        refine nx_then ?_
        refine gw_seq ?_
        refine gw_region ?_
        refine wl_ov (ov_loads (vs := [.string key, .int .i64 u0, .int .i64 u1, .int .i64 u2, .int .i64 u3, .int .i64 u4, .int .i64 u5, .int .i64 u6, .int .i64 u7, .int .i64 u8, .int .i64 u9, .int .i64 u10, .int .i64 u11, .int .i64 u12, .int .i64 u13]) rz56 rfl (fun _ hm => (hm.fact 1 rfl).2) rfl rfl) rfl ?_
        refine wl_ov (ov_loads (vs := [.int .i64 wa, .int .i64 wb]) rz31 rfl (fun _ hm => (hm.fact 0 rfl).2) rfl rfl) rfl ?_
        refine wl_callv (v := .tuple #[.int .i64 0, .int .i64 E3]) rfl cb27 rfl rfl (fun wx hm => (by have h := openMin_any key [u0, u1, u2, u3, u4, u5, u6, u7, u8, u9, u10, u11, u12, u13] wa wb wx hso hbx; rw [hmv, ← hE3] at h; exact h)) ?_
        refine wl_ov (ov_move rfl) rfl ?_
        refine wl_ov (ov_extract rfl rfl) rfl ?_
        refine wl_ov (ov_extract rfl rfl) rfl ?_
        refine wl_ov (ov_assign rfl) rfl ?_
        refine wl_ov (ov_assign rfl) rfl ?_
        refine wl_nil ?_
        refine nx_then ?_
        refine gw_seq ?_
        refine gw_region ?_
        refine wl_ov (ov_loads (vs := [.string key, .int .i64 u0, .int .i64 u1, .int .i64 u2, .int .i64 u3, .int .i64 u4, .int .i64 u5, .int .i64 u6, .int .i64 u7, .int .i64 u8, .int .i64 u9, .int .i64 u10, .int .i64 u11, .int .i64 u12, .int .i64 u13]) rz56 rfl (fun _ hm => (hm.fact 1 rfl).2) rfl rfl) rfl ?_
        refine wl_buildSlice (e := 56) (cs := [.string key, .int .i64 u0, .int .i64 u1, .int .i64 u2, .int .i64 u3, .int .i64 u4, .int .i64 u5, .int .i64 u6, .int .i64 u7, .int .i64 u8, .int .i64 u9, .int .i64 u10, .int .i64 u11, .int .i64 u12, .int .i64 u13]) rfl (by kernel_rfl) rfl fun g17 => ?_
        refine wl_callv (v := .int .i64 FsQ) rfl cb28 rfl rfl (fun wx hm => (by rw [hFS]; exact stationsFault_any [(⟨key, [u0, u1, u2, u3, u4, u5, u6, u7, u8, u9, u10, u11, u12, u13]⟩ : St)] _ 1 1 wx (sl_one (hm.blkI 0 rfl)) (fun x hx => by rw [List.mem_singleton.1 hx]; exact hso) (by omega))) ?_
        refine wl_ov (ov_assign rfl) rfl ?_
        refine wl_nil ?_
        refine nx_then ?_
        refine gw_seq ?_
        refine gw_region ?_
        refine wl_ov (ov_move rfl) rfl ?_
        refine wl_ov (ov_move rfl) rfl ?_
        refine wl_callv rfl cb29 rfl rfl (fun wx hm => (momentFault_any at_ wx)) ?_
        refine wl_buildSlice (e := 38) (cs := [.int .i64 FsQ, .int .i64 (momentE at_)]) rfl (by kernel_rfl) rfl fun g18 => ?_
        refine wl_callw (v := .int .i64 E1) rfl cb13 rfl rfl (fun wx hm => (by have h := errs_any [FsQ, momentE at_] g18 2 _ wx (hm.blkI 0 rfl) (by simp); rw [← hone] at h; exact h)) ?_
        refine wl_ov (ov_assign rfl) rfl ?_
        refine wl_nil ?_
        refine nx_then ?_
        refine gw_seq ?_
        refine gw_region ?_
        refine wl_ov (ov_move rfl) rfl ?_
        refine wl_ov (ov_assign rfl) rfl ?_
        refine wl_ov (ov_assign rfl) rfl ?_
        refine wl_nil ?_
        refine nx_then ?_
        refine gw_seq ?_
        refine gw_seq ?_
        refine gw_region ?_
        refine wl_ov (ov_move rfl) rfl ?_
        refine wl_ov (ov_eql rfl rfl) rfl ?_
        refine wl_set 63 (v' := .bool false) rfl (congrArg Value.bool (decide_eq_false h1)) ?_
        refine wl_nil ?_
        refine nx_then ?_
        refine gw_cond rfl (fun hh => by cases hh) (fun _ => ?_)
        refine gw_skip ?_
        refine nx_then ?_
        refine gw_seq ?_
        refine gw_region ?_
        refine wl_ov (ov_move rfl) rfl ?_
        refine wl_ov (ov_loads (vs := [.int .i64 wa, .int .i64 wb]) rz31 rfl (fun _ hm => (hm.fact 0 rfl).2) rfl rfl) rfl ?_
        refine wl_callv rfl cb31 rfl rfl (fun wx hm => (windowFault_any wa wb wx)) ?_
        refine wl_buildSlice (e := 38) (cs := [.int .i64 FsQ, .int .i64 (windowE wa wb)]) rfl (by kernel_rfl) rfl fun g19 => ?_
        refine wl_callw (v := .int .i64 E3) rfl cb13 rfl rfl (fun wx hm => (by have h := errs_any [FsQ, windowE wa wb] g19 2 _ wx (hm.blkI 0 rfl) (by simp); rw [← hthree] at h; exact h)) ?_
        refine wl_ov (ov_assign rfl) rfl ?_
        refine wl_nil ?_
        refine nx_then ?_
        refine gw_seq ?_
        refine gw_seq ?_
        refine gw_region ?_
        refine wl_ov (ov_move rfl) rfl ?_
        refine wl_callv (v := .int .i64 AE) rfl cb32 rfl rfl (fun wx hm => (by rw [hAE]; exact checkStations_any l A k c wx (hm.fact 2 rfl).1 hlo (by omega))) ?_
        refine wl_ov (ov_move rfl) rfl ?_
        refine wl_callv (v := .int .i64 AE) rfl cb28 rfl rfl (fun wx hm => (by rw [hAE]; exact stationsFault_any l A k c wx (hm.fact 2 rfl).1 hlo (by omega))) ?_
        refine wl_ov (ov_neq rfl rfl) rfl ?_
        refine wl_set 83 (v' := .bool false) rfl (congrArg Value.bool (by simp)) ?_
        refine wl_ov (ov_move rfl) rfl ?_
        refine wl_guard_on rfl rfl rfl ?_
        refine wl_ov (ov_move rfl) rfl ?_
        refine wl_guard_on rfl rfl rfl ?_
        refine wl_ov (ov_move rfl) rfl ?_
        refine wl_guard_on rfl rfl rfl ?_
        refine wl_ov (ov_neq rfl rfl) rfl ?_
        refine wl_set 87 (v' := .bool false) rfl (congrArg Value.bool (by simp)) ?_
        refine wl_ov (ov_pick_f rfl rfl) rfl ?_
        refine wl_ov (ov_move rfl) rfl ?_
        refine wl_guard_on rfl rfl rfl ?_
        refine wl_ov (ov_move rfl) rfl ?_
        refine wl_guard_on rfl rfl rfl ?_
        refine wl_ov (ov_move rfl) rfl ?_
        refine wl_guard_on rfl rfl rfl ?_
        refine wl_ov (ov_eql rfl rfl) rfl ?_
        refine wl_set 92 (v' := .bool false) rfl (congrArg Value.bool (decide_eq_false h1)) ?_
        refine wl_guard_on rfl rfl rfl ?_
        refine wl_ov (ov_move rfl) rfl ?_
        refine wl_guard_off rfl rfl rfl (by decide) rfl ?_
        refine wl_guard_off rfl rfl rfl (by decide) rfl ?_
        refine wl_guard_off rfl rfl rfl (by decide) rfl ?_
        refine wl_guard_on rfl rfl rfl ?_
        refine wl_ov (ov_pick_f rfl rfl) rfl ?_
        refine wl_guard_on rfl rfl rfl ?_
        refine wl_ov (ov_bneq (by kernel_rfl) rfl rfl) rfl ?_
        refine wl_set 98 (v' := .bool false) rfl (congrArg Value.bool (by simp)) ?_
        refine wl_ov (ov_pick_f rfl rfl) rfl ?_
        refine wl_ov (ov_move rfl) rfl ?_
        refine wl_guard_on rfl rfl rfl ?_
        refine wl_ov (ov_move rfl) rfl ?_
        refine wl_guard_on rfl rfl rfl ?_
        refine wl_ov (ov_move rfl) rfl ?_
        refine wl_guard_on rfl rfl rfl ?_
        refine wl_ov (ov_neq rfl rfl) rfl ?_
        refine wl_set 103 (v' := .bool false) rfl (congrArg Value.bool (by simp)) ?_
        refine wl_ov (ov_pick_f rfl rfl) rfl ?_
        refine wl_ov (ov_move rfl) rfl ?_
        refine wl_guard_on rfl rfl rfl ?_
        refine wl_ov (ov_move rfl) rfl ?_
        refine wl_guard_on rfl rfl rfl ?_
        refine wl_ov (ov_move rfl) rfl ?_
        refine wl_guard_on rfl rfl rfl ?_
        refine wl_ov (ov_neq rfl rfl) rfl ?_
        refine wl_set 108 (v' := .bool false) rfl (congrArg Value.bool (by decide)) ?_
        refine wl_ov (ov_pick_f rfl rfl) rfl ?_
        refine wl_nil ?_
        refine nx_then ?_
        refine gw_cond rfl (fun hh => by cases hh) (fun _ => ?_)
        refine gw_skip ?_
        refine nx_then ?_
        refine gw_seq ?_
        refine gw_region ?_
        refine wl_ov (ov_move rfl) rfl ?_
        refine wl_ov (ov_move rfl) rfl ?_
        refine wl_ov (ov_eql rfl rfl) rfl ?_
        refine wl_set 112 (v' := .bool true) rfl (congrArg Value.bool (by simp)) ?_
        refine wl_ov (ov_move rfl) rfl ?_
        refine wl_guard_on rfl rfl rfl ?_
        refine wl_ov (ov_move rfl) rfl ?_
        refine wl_guard_on rfl rfl rfl ?_
        refine wl_ov (ov_eql rfl rfl) rfl ?_
        refine wl_set 115 (v' := .bool false) rfl (congrArg Value.bool (decide_eq_false h3)) ?_
        refine wl_guard_on rfl rfl rfl ?_
        refine wl_ov (ov_move rfl) rfl ?_
        refine wl_guard_off rfl rfl rfl (by decide) rfl ?_
        refine wl_guard_off rfl rfl rfl (by decide) rfl ?_
        refine wl_guard_off rfl rfl rfl (by decide) rfl ?_
        refine wl_guard_off rfl rfl rfl (by decide) rfl ?_
        refine wl_guard_off rfl rfl rfl (by decide) rfl ?_
        refine wl_guard_on rfl rfl rfl ?_
        refine wl_ov (ov_pick_f rfl rfl) rfl ?_
        refine wl_guard_on rfl rfl rfl ?_
        refine wl_ov (ov_move rfl) rfl ?_
        refine wl_guard_on rfl rfl rfl ?_
        refine wl_ov (ov_move rfl) rfl ?_
        refine wl_guard_on rfl rfl rfl ?_
        refine wl_ov (ov_neq rfl rfl) rfl ?_
        refine wl_set 125 (v' := .bool true) rfl (congrArg Value.bool (by rw [decide_eq_false h3]; rfl)) ?_
        refine wl_guard_on rfl rfl rfl ?_
        refine wl_ov (ov_move rfl) rfl ?_
        refine wl_guard_on rfl rfl rfl ?_
        refine wl_ov (ov_move rfl) rfl ?_
        refine wl_guard_on rfl rfl rfl ?_
        refine wl_ov (ov_eql rfl rfl) rfl ?_
        refine wl_set 128 (v' := .bool true) rfl (congrArg Value.bool (by decide)) ?_
        refine wl_guard_on rfl rfl rfl ?_
        refine wl_ov (ov_pick_t rfl rfl) rfl ?_
        refine wl_guard_on rfl rfl rfl ?_
        refine wl_ov (ov_pick_f rfl rfl) rfl ?_
        refine wl_ov (ov_pick_t rfl rfl) rfl ?_
        refine wl_ov (ov_move rfl) rfl ?_
        refine wl_guard_on rfl rfl rfl ?_
        refine wl_callv rfl cb35 rfl rfl (fun wx hm => (lots_any wx)) ?_
        refine wl_ov (ov_pick_t rfl rfl) rfl ?_
        refine wl_ov (ov_assign rfl) rfl ?_
        refine wl_nil ?_
        refine nx_then ?_
        refine gw_ret ?_
        refine nx_ret1 rfl rfl fun wx hm => ?_
        exact ⟨rfl, law_end hg1 hsb (grow_trans hm_w2.g (grow_weak hm.g))⟩

end Go.Proofs.YtcggbojhalbkjaaDoor
