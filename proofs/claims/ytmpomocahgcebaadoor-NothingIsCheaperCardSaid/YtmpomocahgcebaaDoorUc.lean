/- DivideOf. -/
import Derived.Test.YtmpomocahgcebaaDoorUb
import Derived.Test.YtmpomocahgcebaaDoorTx
namespace Go.Proofs.YtmpomocahgcebaaDoor
open Go.RowKit

structure Wy where
  g : Nat
  A : Option Addr
  n : Nat
  c : Nat
  ps : List Pc
def wyEnc : Option Wy → List Value
  | none => [.pointer none]
  | some y => [.pointer (some ⟨y.g, 0, none⟩)]
theorem wy_len (x : Option Wy) : (wyEnc x).length = 1 := by cases x <;> rfl
def wyPs (x : Option Wy) : Option (List Pc) := x.map Wy.ps
/-- A division lies in memory: its sum, its pieces. -/
def Way1 (base : Nat) (y : Wy) (w : World) : Prop := Blk w y.g 174 [.int .i64 (pcSum y.ps), .slice y.A y.n y.c] ∧ w.ownsRow base 79 3 (.slice y.A y.n y.c) y.n (y.ps.flatMap pcEnc)
def WyOk (y : Wy) : Prop := y.ps.length = y.n ∧ (y.n = 0 → y.A = none ∧ y.c = 0)
def Ways (base : Nat) (bs : List (Option Wy)) (w : World) : Prop := ∀ y, some y ∈ bs → WyOk y ∧ Way1 base y w
theorem Way1.lasts {base N : Nat} {row : Option Nat} {y : Wy} : Lasts2 N row [174, 79] (Way1 base y) := Lasts2.and_ (Blk.lasts2 rfl) (own_lasts2 rfl)
theorem Ways.lasts {base N : Nat} {row : Option Nat} {bs : List (Option Wy)} : Lasts2 N row [174, 79] (Ways base bs) :=
  ⟨fun w w' hg hx y hy => ⟨(hx y hy).1, Way1.lasts.gr (N := N) (row := row) w w' hg (hx y hy).2⟩, fun w w' r T c h1 h2 h3 h4 hx y hy => ⟨(hx y hy).1, Way1.lasts.st w w' r T c h1 h2 h3 h4 (hx y hy).2⟩⟩
theorem Ways.set {base j : Nat} {bs : List (Option Wy)} {y : Wy} {w : World} (h : Ways base bs w) (ho : WyOk y) (hy : Way1 base y w) : Ways base (bs.set j (some y)) w := fun z hz => by
  rcases List.mem_or_eq_of_mem_set hz with hz | e
  · exact h z hz
  · injection e with e; subst e; exact ⟨ho, hy⟩
/-- The same, as what lay in memory when the inner walk began. -/
def WayO (N : Nat) (row : Option Nat) (y : Wy) (w : World) : Prop := BlkOld N row y.g 174 [.int .i64 (pcSum y.ps), .slice y.A y.n y.c] w ∧ SlOld pcEnc 3 79 N row y.A y.n y.ps w
def WaysO (N : Nat) (row : Option Nat) (bs : List (Option Wy)) (w : World) : Prop := ∀ y, some y ∈ bs → WayO N row y w
theorem WaysO.lasts {N : Nat} {row : Option Nat} {Tt : List TypeId} {bs : List (Option Wy)} : Lasts2 N row Tt (WaysO N row bs) :=
  ⟨fun w w' hg hx y hy => ⟨BlkOld.lasts.gr (Tt := Tt) w w' hg (hx y hy).1, SlOld.lasts.gr (Tt := Tt) w w' hg (hx y hy).2⟩, fun w w' r T c h1 h2 h3 h4 hx y hy => ⟨BlkOld.lasts.st w w' r T c h1 h2 h3 h4 (hx y hy).1, SlOld.lasts.st w w' r T c h1 h2 h3 h4 (hx y hy).2⟩⟩
theorem Ways.nest {base bo : Nat} {bs : List (Option Wy)} {w : World} {cells : Array Value} (h : Ways base bs w) (hb : w.heap[bo]? = some (.cells cells 172 (0, 0))) : WaysO w.heap.size (some bo) bs w := fun y hy => by
  obtain ⟨ho, hw, hr⟩ := h y hy
  exact ⟨hw.oldRow hb (by decide), (SlT.ofOwn pc_len hr ho.1).oldRow hb (by decide)⟩
/-- What the search knows of every place. -/
def FRow (pr : Int → Nat → Int → Option Int) (i : Nat) (k m : Int) (bs : List (Option Wy)) : Prop := ∀ j x, bs[j]? = some x → FCur pr i k m j (wyPs x)
section
variable {pr : Int → Nat → Int → Option Int} {i D mm g0 : Nat} {k : Int} {bs : List (Option Wy)} {y x z : Wy} {cc : Int}
theorem frow_start : FRow pr 0 1 1 ((List.replicate (D + 1) none).set 0 (some ⟨g0, none, 0, 0, []⟩)) := fun j x hx => by
  by_cases hj : j = 0
  · subst hj
    rw [List.getElem?_set_self (by simp)] at hx
    injection hx with hx; subst hx
    exact fcur_zero
  · rw [List.getElem?_set_ne (by omega), List.getElem?_replicate] at hx
    split at hx
    · injection hx with hx; subst hx
      exact fcur_start (by omega)
    · cases hx
theorem frow_dead (h : FRow pr i 1 1 bs) (hi : bs[i]? = some none) : FRow pr (i + 1) 1 1 bs := fun j x hx => fcur_dead (h j x hx) ((fcur_best (h i none hi)).1 rfl)
theorem frow_none (h : FRow pr i k mm bs) (hno : pr k i mm = none) : FRow pr i k ((mm + 1 : Nat) : Int) bs := fun j x hx => by
  have := fcur_none (h j x hx) hno
  simpa using this
theorem frow_kind (h : FRow pr i k ((8 : Nat) : Int) bs) : FRow pr i (k + 1) 1 bs := fun j x hx => fcur_kind (by simpa using h j x hx)
theorem frow_next (h : FRow pr i 5 1 bs) : FRow pr (i + 1) 1 1 bs := fun j x hx => fcur_next (h j x hx)
theorem frow_best (h : FRow pr i 1 1 bs) (hi : bs[i]? = some (some y)) : Best pr 0 i y.ps := (fcur_best (h i _ hi)).2 y.ps rfl
theorem frow_take (h : FRow pr i k mm bs) (hb : Best pr 0 i y.ps) (hk : 1 ≤ k ∧ k ≤ 4) (hm : 1 ≤ mm ∧ mm ≤ 7) (hp : pr k i mm = some cc) (hx : x.ps = y.ps ++ [⟨k, mm, cc⟩]) (hz : bs[i + mm]? = some none ∨ (bs[i + mm]? = some (some z) ∧ WLt x.ps z.ps)) : FRow pr i k ((mm + 1 : Nat) : Int) (bs.set (i + mm) (some x)) := fun j u hu => by
  have hm2 : (1 : Int) ≤ (mm : Int) ∧ (mm : Int) ≤ 7 := by omega
  by_cases hj : j = i + mm
  · subst hj
    have hlt : i + mm < bs.length := by
      rcases hz with hz | ⟨hz, _⟩ <;> exact (List.getElem?_eq_some_iff.1 hz).1
    rw [List.getElem?_set_self hlt] at hu
    injection hu with hu; subst hu
    rw [Int.natCast_add]
    rcases hz with hz | ⟨hz, hl⟩
    · have := fcur_first (h _ _ hz) hk hm2 hp hb (by simp)
      show FCur pr i k (mm + 1) (i + mm) (some x.ps)
      rw [hx]; exact this
    · have := fcur_better (h _ _ hz) hk hm2 hp hb (by simp) (by rw [← hx]; exact hl)
      show FCur pr i k (mm + 1) (i + mm) (some x.ps)
      rw [hx]; exact this
  · rw [List.getElem?_set_ne (fun e => hj e.symm)] at hu
    have := fcur_other (h j u hu) (by simpa using hj)
    simpa using this
theorem frow_keep (h : FRow pr i k mm bs) (hb : Best pr 0 i y.ps) (hk : 1 ≤ k ∧ k ≤ 4) (hm : 1 ≤ mm ∧ mm ≤ 7) (hp : pr k i mm = some cc) (hz : bs[i + mm]? = some (some z)) (hl : ¬ WLt (y.ps ++ [⟨k, mm, cc⟩]) z.ps) : FRow pr i k ((mm + 1 : Nat) : Int) bs := fun j u hu => by
  have hm2 : (1 : Int) ≤ (mm : Int) ∧ (mm : Int) ≤ 7 := by omega
  rw [Int.natCast_add]
  by_cases hj : j = i + mm
  · subst hj
    obtain rfl : some z = u := Option.some.inj (hz.symm.trans hu)
    exact fcur_keep (h _ _ hz) hk hm2 hp hb (by simp) hl
  · exact fcur_other (h j u hu) (by simpa using hj)
end
/-- The division of the reference. -/
def RefIs (l : List Rt) (c : ByteArray) (fr tt : Int) (ok : Bool) (ps : List Pc) : Prop := (ok = true ∧ Best (prH l c fr tt) 0 (daysN fr tt) ps) ∨ (ok = false ∧ ps = [] ∧ ∀ qs, ¬ Chain (prH l c fr tt) 0 (daysN fr tt) qs)
theorem sum_bound {pr : Int → Nat → Int → Option Int} {i : Nat} {ps : List Pc} (hb : ∀ k i m c, pr k i m = some c → 0 ≤ c ∧ c ≤ 24000000) (h : Chain pr 0 i ps) (hi : i ≤ 200) : 0 ≤ pcSum ps ∧ pcSum ps ≤ 5000000000 := by
  have h1 := chain_sum hb h
  have h2 := chain_le h
  omega
theorem pcSum_snoc (a : List Pc) (p : Pc) : pcSum (a ++ [p]) = pcSum a + p.cents := by rw [pcSum_append]; simp [pcSum]

theorem own_xs {c : Cx} {K : World → Prop} {L : List (Nat × TypeId × List Value)} {X : List (World → Prop)} {w : World} {v : Value} {e : TypeId} {sz n : Nat} {xs ys : List Value} (h : xs = ys) (hm : Mem c K L [⟨v, e, sz, n, xs⟩] X w) : Mem c K L [⟨v, e, sz, n, ys⟩] X w := h ▸ hm
set_option maxRecDepth 100000 in
set_option maxHeartbeats 2000000 in
theorem divideOf_any (l : List Rt) (A : Option Addr) (n c0 : Nat) (c : ByteArray) (fr tt : Int) (w : World) (hl : SlT rtEnc 7 61 w A n l) (hn : n ≤ 1000000) (hr0 : ratesE l = 0) (ht : timeE fr tt = 0) :
    Calls Tryd.prog 43 #[.slice A n c0, .string c, .agg #[.int .i64 fr, .int .i64 tt]] w (fun e w' => ∃ (A2 : Option Addr) (n2 c2 : Nat) (ps : List Pc) (ok : Bool), e = .returned (.tuple #[.slice A2 n2 c2, .bool ok]) ∧ w.grownBy w' none ∧ w'.ownsRow w.heap.size 79 3 (.slice A2 n2 c2) n2 (ps.flatMap pcEnc) ∧ RefIs l c fr tt ok ps ∧ ps.length = n2 ∧ (n2 = 0 → A2 = none ∧ c2 = 0)) := by
  refine gw_enter ⟨123, w, none, [174, 79]⟩ Tryd.func43 rfl Tryd.ntmps43 rfl (mem0 (X := [SlOld rtEnc 7 61 w.heap.size none A n l]) (allF_cons hl.old allF_nil) (allL_cons SlOld.lasts allL_nil)) ?_
  refine gw_seq ?_
  refine gw_region ?_
  obtain ⟨h0, hlt, htt, _⟩ := timeE_ok ht
  have hD1 := timeE_days ht
  obtain ⟨D, hD⟩ : ∃ D, D = daysN fr tt := ⟨_, rfl⟩
  have hDv : daysV fr tt = ((D : Nat) : Int) := by rw [hD]; unfold daysN; omega
  have hD2 : 1 ≤ D ∧ D ≤ 120 := by omega
  have hD3 := hD2.1
  have hD4 := hD2.2
  have hto : ∀ j, j < D → begV fr j < tt := fun j hj => by unfold daysV at hDv; unfold begV; omega
  obtain ⟨pr, hpr⟩ : ∃ p, p = prH l c fr tt := ⟨_, rfl⟩
  have hprD : pr = priceO l (seasons l c fr D) fr tt := by rw [hpr, hD]; rfl
  have hpb : ∀ k i m c, pr k i m = some c → 0 ≤ c ∧ c ≤ 24000000 := by rw [hprD]; exact price_all (rate_ok hr0) (fun i hi => by rw [seasons_len] at hi; exact Int.le_of_lt (hto i hi))
  refine wl_box rfl rfl rfl fun g1 => ?_
  refine wl_ov (ov_assign rfl) rfl ?_
  refine wl_ov (ov_assign rfl) rfl ?_
  refine wl_nil ?_
  refine nx_then ?_
  refine gw_cut (γ := Nat) (I := (fun (gt : Nat) => True)) (S' := (fun (gt : Nat) => [(6, .slice none 0 0), (7, .bool false), (8, .pointer (some ⟨gt, 0, none⟩))])) (K' := (fun (gt : Nat) => fun _ => True)) (L' := (fun (gt : Nat) => [(gt, 170, [.slice A n c0, .string c, .int .i64 fr, .int .i64 tt, .int .i64 ((D : Nat) : Int)])])) (O' := (fun (gt : Nat) => [])) (X' := (fun (gt : Nat) => [SlOld rtEnc 7 61 w.heap.size none A n l])) ?_ ?_
  · refine gw_draw (fun wz => Blk wz g1 56 [.int .i64 fr, .int .i64 tt] ∧ (SlOld rtEnc 7 61 w.heap.size none A n l) wz ∧ True) mixed ?_
    refine wa_take 0 rfl (by kernel_rfl) (by kernel_rfl) (by kernel_rfl) (listed' := #[true, false, false, false, false, false, false, false]) rfl (fun _ _ _ h => h) (fun _ hm => ⟨hm.blkI 0 rfl, hm.fact 0 rfl, trivial⟩) (ov_move rfl) rfl ?_
    refine wa_take 1 rfl (by kernel_rfl) (by kernel_rfl) (by kernel_rfl) (listed' := #[true, true, false, false, false, false, false, false]) rfl (fun _ _ _ h => h) (fun _ hm => ⟨hm.blkI 0 rfl, hm.fact 0 rfl, trivial⟩) (ov_move rfl) rfl ?_
    refine wa_take 2 rfl (by kernel_rfl) (by kernel_rfl) (by kernel_rfl) (listed' := #[true, true, true, false, false, false, false, false]) rfl (fun _ _ _ h => h) (fun _ hm => ⟨hm.blkI 0 rfl, hm.fact 0 rfl, trivial⟩) (ov_loads rz56 rfl (fun _ hm => hm.1) rfl rfl) rfl ?_
    refine wa_take 3 rfl (by kernel_rfl) (by kernel_rfl) (by kernel_rfl) (listed' := #[true, true, true, true, false, false, false, false]) rfl (fun _ _ _ h => h) (fun _ hm => ⟨hm.blkI 0 rfl, hm.fact 0 rfl, trivial⟩) (ov_loads rz56 rfl (fun _ hm => hm.1) rfl rfl) rfl ?_
    refine wa_all [4, 6] (by kernel_rfl) rfl ⟨⟨_, rfl, ?_⟩, ⟨_, rfl, ?_⟩, trivial⟩
    · refine wl_callv (v := .int .i64 ((D : Nat) : Int)) rfl cb36 rfl rfl (fun wx hm => (by have h := daysOf_any fr tt wx h0 (by omega) htt; rw [hDv] at h; exact h)) ?_
      refine wl_nil ?_
      refine nx_wa0 (listed' := #[true, true, true, true, true, false, false, false]) rfl (fun _ hm => ⟨hm.blkI 0 rfl, hm.fact 0 rfl, trivial⟩) ?_
      refine wa_take 5 rfl (by kernel_rfl) (by kernel_rfl) (by kernel_rfl) (listed' := #[true, true, true, true, true, true, false, false]) rfl (fun _ _ _ h => h) (fun _ hm => ⟨hm.blkI 0 rfl, hm.fact 0 rfl, trivial⟩) (ov_build (cs := [.slice A n c0, .string c, .int .i64 fr, .int .i64 tt, .int .i64 ((D : Nat) : Int)]) rfl (by kernel_rfl)) rfl ?_
      refine wa_all [6] (by kernel_rfl) rfl ⟨⟨_, rfl, ?_⟩, trivial⟩
      refine wl_alloc zc170 rfl fun g2 => ?_
      refine wl_nil ?_
      refine nx_wa0 (listed' := #[true, true, true, true, true, true, true, false]) rfl (fun _ hm => ⟨hm.blkI 1 rfl, hm.fact 0 rfl, trivial⟩) ?_
      refine wa_all [7] (by kernel_rfl) rfl ⟨⟨_, rfl, ?_⟩, trivial⟩
      refine wl_stores (cs' := [.slice A n c0, .string c, .int .i64 fr, .int .i64 tt, .int .i64 ((D : Nat) : Int)]) 0 rz170 rfl rfl rfl rfl rfl rfl rfl rfl ?_
      refine wl_nil ?_
      refine nx_wa0 (listed' := #[true, true, true, true, true, true, true, true]) rfl (fun _ hm => ⟨hm.blkI 1 rfl, hm.fact 0 rfl, trivial⟩) ?_
      refine wa_done (by kernel_rfl) ?_
      exact nx_meet g2 trivial ⟨rfl, rfl, rfl, trivial⟩ (fun _ hm => hm.pick [0] [] [0] rfl rfl)
    · refine wl_alloc zc170 rfl fun g3 => ?_
      refine wl_nil ?_
      refine nx_wa0 (listed' := #[true, true, true, true, false, false, true, false]) rfl (fun _ hm => ⟨hm.blkI 1 rfl, hm.fact 0 rfl, trivial⟩) ?_
      refine wa_all [4] (by kernel_rfl) rfl ⟨⟨_, rfl, ?_⟩, trivial⟩
      refine wl_callv (v := .int .i64 ((D : Nat) : Int)) rfl cb36 rfl rfl (fun wx hm => (by have h := daysOf_any fr tt wx h0 (by omega) htt; rw [hDv] at h; exact h)) ?_
      refine wl_nil ?_
      refine nx_wa0 (listed' := #[true, true, true, true, true, false, true, false]) rfl (fun _ hm => ⟨hm.blkI 1 rfl, hm.fact 0 rfl, trivial⟩) ?_
      refine wa_take 5 rfl (by kernel_rfl) (by kernel_rfl) (by kernel_rfl) (listed' := #[true, true, true, true, true, true, true, false]) rfl (fun _ _ _ h => h) (fun _ hm => ⟨hm.blkI 1 rfl, hm.fact 0 rfl, trivial⟩) (ov_build (cs := [.slice A n c0, .string c, .int .i64 fr, .int .i64 tt, .int .i64 ((D : Nat) : Int)]) rfl (by kernel_rfl)) rfl ?_
      refine wa_all [7] (by kernel_rfl) rfl ⟨⟨_, rfl, ?_⟩, trivial⟩
      refine wl_stores (cs' := [.slice A n c0, .string c, .int .i64 fr, .int .i64 tt, .int .i64 ((D : Nat) : Int)]) 0 rz170 rfl rfl rfl rfl rfl rfl rfl rfl ?_
      refine wl_nil ?_
      refine nx_wa0 (listed' := #[true, true, true, true, true, true, true, true]) rfl (fun _ hm => ⟨hm.blkI 1 rfl, hm.fact 0 rfl, trivial⟩) ?_
      refine wa_done (by kernel_rfl) ?_
      exact nx_meet g3 trivial ⟨rfl, rfl, rfl, trivial⟩ (fun _ hm => hm.pick [0] [] [0] rfl rfl)
  · intro gt hinv
    replace hinv : True := hinv
    refine gw_seq ?_
    refine gw_region ?_
    clear hinv
    refine wl_ov (ov_field fo170_3 rfl rfl) rfl ?_
    refine wl_ov (ov_load sc3 rfl (fun _ hm => hm.blkI 0 rfl) rfl) rfl ?_
    refine wl_ov (ov_add rfl rfl (by omega) (by omega)) rfl ?_
    refine wl_makeO (n := (D + 1)) (sz := 1) (e := 172) (by_ := 8) (z := .pointer none) (by kernel_rfl) (by kernel_rfl) rfl rfl (by omega) (by omega) (by omega) (by unfold maxLen; omega) (made_flat (enc := wyEnc) (x := (none : Option Wy)) rfl rfl (by decide) (D + 1)) rfl fun g4 => ?_
    refine wl_ov (ov_assign rfl) rfl ?_
    refine wl_nil ?_
    refine nx_then ?_
    refine gw_seq ?_
    refine gw_region ?_
    refine wl_ov (ov_move rfl) rfl ?_
    refine wl_ov (ov_build (cs := [.int .i64 0, .slice none 0 0]) rfl (by kernel_rfl)) rfl ?_
    refine wl_box rfl rfl rfl fun g5 => ?_
    refine wl_ov (ov_index (j := 0) es171 rfl rfl (by omega)) rfl ?_
    refine wl_storeE (l := (List.replicate (D + 1) (none : Option Wy))) (j := 0) (r := 0) (el := none) (el' := (some ⟨g5, none, 0, 0, []⟩)) 0 sc172 rfl rfl rfl rfl wy_len rfl (by rw [List.getElem?_replicate, if_pos (by omega)]) List.length_replicate (by decide) rfl rfl ?_
    refine wl_also (Y := Ways w.heap.size ((List.replicate (D + 1) (none : Option Wy)).set 0 (some ⟨g5, none, 0, 0, []⟩))) (Ways.lasts) (fun wx hm => fun y hy => by
      rcases List.mem_or_eq_of_mem_set hy with hy | e
      · rw [List.mem_replicate] at hy; cases hy.2
      · injection e with e; subst e; exact ⟨⟨rfl, fun _ => ⟨rfl, rfl⟩⟩, hm.blkI 0 rfl, ⟨rfl, .inl ⟨rfl, rfl⟩⟩⟩) ?_
    refine wl_nil ?_
    refine nx_then ?_
    refine gw_seq ?_
    refine gw_seq ?_
    refine gw_region ?_
    refine wl_ov (ov_field fo170_3 rfl rfl) rfl ?_
    refine wl_ov (ov_load sc3 rfl (fun _ hm => hm.blkI 1 rfl) rfl) rfl ?_
    refine wl_ov (ov_move rfl) rfl ?_
    refine wl_nil ?_
    refine nx_then ?_
    refine gw_block ?_
    refine gw_loop (γ := Nat × List (Option Wy)) (fun (g : Nat × List (Option Wy)) => g.1 ≤ D ∧ g.2.length = D + 1 ∧ FRow pr g.1 1 1 g.2) (fun (g : Nat × List (Option Wy)) => [(6, .slice none 0 0), (7, .bool false), (8, .pointer (some ⟨gt, 0, none⟩)), (9, .slice (some ⟨g4, 0, none⟩) (D + 1) (D + 1)), (32, .int .i64 ((D : Nat) : Int)), (33, .int .i64 ((g.1 : Nat) : Int))]) (fun (g : Nat × List (Option Wy)) => fun _ => True) (fun (g : Nat × List (Option Wy)) => [(gt, 170, [.slice A n c0, .string c, .int .i64 fr, .int .i64 tt, .int .i64 ((D : Nat) : Int)])]) (fun (g : Nat × List (Option Wy)) => [⟨.slice (some ⟨g4, 0, none⟩) (D + 1) (D + 1), 172, 1, (D + 1), g.2.flatMap wyEnc⟩]) (fun (g : Nat × List (Option Wy)) => [Ways w.heap.size g.2, SlOld rtEnc 7 61 w.heap.size none A n l]) (fun (g : Nat × List (Option Wy)) => D - g.1) (0, (List.replicate (D + 1) (none : Option Wy)).set 0 (some ⟨g5, none, 0, 0, []⟩)) ⟨Nat.zero_le _, by simp, frow_start⟩ ⟨rfl, rfl, rfl, rfl, rfl, rfl, trivial⟩ (fun _ hm => hm.pick [1] [0] [0, 1] rfl rfl) ?_
    rintro ⟨i, bs⟩ hinv
    replace hinv : i ≤ D ∧ bs.length = D + 1 ∧ FRow pr i 1 1 bs := hinv
    dsimp only
    refine gw_seq ?_
    refine gw_region ?_
    obtain ⟨hi0, hbl, hfr⟩ := hinv
    refine wl_ov (ov_lss rfl rfl) rfl ?_
    refine wl_nil ?_
    refine nx_then ?_
    refine gw_seq ?_
    refine gw_cond rfl (fun hh => ?_) (fun hh => ?_)
    · have hiD : ((i : Nat) : Int) < ((D : Nat) : Int) := by simpa using hh
      clear hh
      refine gw_skip ?_
      refine nx_then ?_
      refine gw_seq ?_
      refine gw_block ?_
      refine gw_seq ?_
      refine gw_region ?_
      have hiD2 : i < D := by omega
      obtain ⟨x, hx⟩ : ∃ x, bs[i]? = some x := ⟨_, List.getElem?_eq_getElem (by omega)⟩
      rcases x with _ | ⟨yg, yA, yn, yc, yp⟩
      · refine wl_ov (ov_move rfl) rfl ?_
        refine wl_ov (ov_assign rfl) rfl ?_
        refine wl_nil ?_
        refine nx_then ?_
        refine gw_seq ?_
        refine gw_seq ?_
        refine gw_region ?_
        refine wl_ov (ov_move rfl) rfl ?_
        refine wl_ov (ov_move rfl) rfl ?_
        refine wl_ov (ov_index (j := i) es171 rfl rfl (by omega)) rfl ?_
        refine wl_ov (ov_elem1 (k := 0) (v := .pointer none) sc172 rfl (fun _ hm => (SlT.ofOwn wy_len (hm.ownI 0 rfl) hbl)) hx rfl rfl) rfl ?_
        refine wl_ov (ov_bin rfl rfl (fun _ => rfl)) rfl ?_
        refine wl_nil ?_
        refine nx_then ?_
        refine gw_cond rfl (fun _ => ?_) (fun hh => by cases hh)
        refine gw_exit ?_
        refine nx_then_exit ?_
        refine nx_blk_here ?_
        refine nx_then ?_
        refine gw_region ?_
        refine wl_ov (ov_add rfl rfl (by omega) (by omega)) rfl ?_
        refine wl_ov (ov_move rfl) rfl ?_
        refine wl_nil ?_
        exact nx_round (i + 1, bs) ⟨by dsimp only; omega, hbl, frow_dead hfr hx⟩ (by dsimp only; omega) ⟨rfl, rfl, rfl, rfl, rfl, (some_int (by omega)), trivial⟩ (fun _ hm => hm.pick [0] [0] [0, 1] rfl rfl)
      · have hby := frow_best hfr hx
        have hyb := sum_bound hpb hby.1 (by omega)
        dsimp only at hby hyb
        have hyb0 := hyb.1
        have hyb1 := hyb.2
        have hyle := chain_le hby.1
        refine wl_ov (ov_move rfl) rfl ?_
        refine wl_ov (ov_assign rfl) rfl ?_
        refine wl_nil ?_
        refine nx_then ?_
        refine gw_seq ?_
        refine gw_seq ?_
        refine gw_region ?_
        refine wl_ov (ov_move rfl) rfl ?_
        refine wl_ov (ov_move rfl) rfl ?_
        refine wl_ov (ov_index (j := i) es171 rfl rfl (by omega)) rfl ?_
        refine wl_ov (ov_elem1 (k := 0) (v := .pointer (some ⟨yg, 0, none⟩)) sc172 rfl (fun _ hm => (SlT.ofOwn wy_len (hm.ownI 0 rfl) hbl)) hx rfl rfl) rfl ?_
        refine wl_ov (ov_bin rfl rfl (fun _ => rfl)) rfl ?_
        refine wl_nil ?_
        refine nx_then ?_
        refine gw_cond rfl (fun hh => by cases hh) (fun _ => ?_)
        refine gw_skip ?_
        refine nx_then ?_
        refine gw_seq ?_
        refine gw_region ?_
        refine wl_ov (ov_assign rfl) rfl ?_
        refine wl_nil ?_
        refine nx_then ?_
        refine gw_block ?_
        refine gw_loop (γ := Int × List (Option Wy)) (fun (g : Int × List (Option Wy)) => (1 ≤ g.1 ∧ g.1 ≤ 5) ∧ g.2.length = D + 1 ∧ g.2[i]? = some (some ⟨yg, yA, yn, yc, yp⟩) ∧ FRow pr i g.1 1 g.2) (fun (g : Int × List (Option Wy)) => [(6, .slice none 0 0), (7, .bool false), (8, .pointer (some ⟨gt, 0, none⟩)), (9, .slice (some ⟨g4, 0, none⟩) (D + 1) (D + 1)), (10, .int .i64 ((i : Nat) : Int)), (11, .int .i64 g.1), (32, .int .i64 ((D : Nat) : Int)), (33, .int .i64 ((i : Nat) : Int))]) (fun (g : Int × List (Option Wy)) => fun _ => True) (fun (g : Int × List (Option Wy)) => [(gt, 170, [.slice A n c0, .string c, .int .i64 fr, .int .i64 tt, .int .i64 ((D : Nat) : Int)])]) (fun (g : Int × List (Option Wy)) => [⟨.slice (some ⟨g4, 0, none⟩) (D + 1) (D + 1), 172, 1, (D + 1), g.2.flatMap wyEnc⟩]) (fun (g : Int × List (Option Wy)) => [Ways w.heap.size g.2, SlOld rtEnc 7 61 w.heap.size none A n l]) (fun (g : Int × List (Option Wy)) => (5 - g.1).toNat) (1, bs) ⟨⟨by dsimp only; omega, by dsimp only; omega⟩, hbl, hx, hfr⟩ ⟨rfl, rfl, rfl, rfl, rfl, rfl, rfl, rfl, trivial⟩ (fun _ hm => hm.pick [0] [0] [0, 1] rfl rfl) ?_
        rintro ⟨kd, bs2⟩ hinv
        replace hinv : (1 ≤ kd ∧ kd ≤ 5) ∧ bs2.length = D + 1 ∧ bs2[i]? = some (some ⟨yg, yA, yn, yc, yp⟩) ∧ FRow pr i kd 1 bs2 := hinv
        dsimp only
        refine gw_seq ?_
        refine gw_seq ?_
        refine gw_region ?_
        obtain ⟨⟨hk1, hk2⟩, hbl2, hx2, hfr2⟩ := hinv
        refine wl_ov (ov_move rfl) rfl ?_
        refine wl_ov (ov_leq rfl rfl) rfl ?_
        refine wl_nil ?_
        refine nx_then ?_
        refine gw_cond rfl (fun hh => ?_) (fun hh => ?_)
        · have hk4 : kd ≤ 4 := by simpa using hh
          clear hh
          refine gw_skip ?_
          refine nx_then ?_
          refine gw_seq ?_
          refine gw_block ?_
          refine gw_seq ?_
          refine gw_region ?_
          refine wl_ov (ov_assign rfl) rfl ?_
          refine wl_nil ?_
          refine nx_then ?_
          refine gw_block ?_
          refine gw_loop (γ := Nat × List (Option Wy)) (fun (g : Nat × List (Option Wy)) => (1 ≤ g.1 ∧ g.1 ≤ 8) ∧ g.2.length = D + 1 ∧ g.2[i]? = some (some ⟨yg, yA, yn, yc, yp⟩) ∧ FRow pr i kd ((g.1 : Nat) : Int) g.2) (fun (g : Nat × List (Option Wy)) => [(6, .slice none 0 0), (7, .bool false), (8, .pointer (some ⟨gt, 0, none⟩)), (9, .slice (some ⟨g4, 0, none⟩) (D + 1) (D + 1)), (10, .int .i64 ((i : Nat) : Int)), (11, .int .i64 kd), (12, .int .i64 ((g.1 : Nat) : Int)), (32, .int .i64 ((D : Nat) : Int)), (33, .int .i64 ((i : Nat) : Int))]) (fun (g : Nat × List (Option Wy)) => fun _ => True) (fun (g : Nat × List (Option Wy)) => [(gt, 170, [.slice A n c0, .string c, .int .i64 fr, .int .i64 tt, .int .i64 ((D : Nat) : Int)])]) (fun (g : Nat × List (Option Wy)) => [⟨.slice (some ⟨g4, 0, none⟩) (D + 1) (D + 1), 172, 1, (D + 1), g.2.flatMap wyEnc⟩]) (fun (g : Nat × List (Option Wy)) => [Ways w.heap.size g.2, SlOld rtEnc 7 61 w.heap.size none A n l]) (fun (g : Nat × List (Option Wy)) => 8 - g.1) (1, bs2) ⟨⟨by dsimp only; omega, by dsimp only; omega⟩, hbl2, hx2, hfr2⟩ ⟨rfl, rfl, rfl, rfl, rfl, rfl, rfl, rfl, rfl, trivial⟩ (fun _ hm => hm.pick [0] [0] [0, 1] rfl rfl) ?_
          rintro ⟨mm, bs3⟩ hinv
          replace hinv : (1 ≤ mm ∧ mm ≤ 8) ∧ bs3.length = D + 1 ∧ bs3[i]? = some (some ⟨yg, yA, yn, yc, yp⟩) ∧ FRow pr i kd ((mm : Nat) : Int) bs3 := hinv
          dsimp only
          refine gw_seq ?_
          refine gw_seq ?_
          refine gw_region ?_
          obtain ⟨⟨hm1, hm2⟩, hbl3, hx3, hfr3⟩ := hinv
          refine wl_ov (ov_move rfl) rfl ?_
          refine wl_ov (ov_leq rfl rfl) rfl ?_
          refine wl_nil ?_
          refine nx_then ?_
          refine gw_cond rfl (fun hh => ?_) (fun hh => ?_)
          · have hm7 : ((mm : Nat) : Int) ≤ 7 := by simpa using hh
            clear hh
            refine gw_skip ?_
            refine nx_then ?_
            refine gw_seq ?_
            refine gw_block ?_
            refine gw_seq ?_
            refine gw_region ?_
            refine wl_nest (some g4) [] fun w2 hm_w2 => ?_
            obtain ⟨bcells, hbc⟩ := RowK.cells (show RowK w.heap.size 172 1 (D + 1) (D + 1) g4 (bs3.flatMap wyEnc) w2 from hm_w2.ownI 0 rfl)
            refine ⟨_, _, _, _, nest_mem (X' := [WaysO w2.heap.size (some g4) bs3, SlOld rtEnc 7 61 w2.heap.size (some g4) A n l, BlkOld w2.heap.size (some g4) gt 170 [.slice A n c0, .string c, .int .i64 fr, .int .i64 tt, .int .i64 ((D : Nat) : Int)]]) hm_w2 0 rfl [] (allF_cons (Ways.nest (hm_w2.fact 0 rfl) hbc) (allF_cons (SlT.oldRow (hm_w2.fact 1 rfl).1 hbc (by decide)) (allF_cons ((hm_w2.blkI 0 rfl).oldRow hbc (by decide)) allF_nil))) (allL_cons WaysO.lasts (allL_cons SlOld.lasts (allL_cons BlkOld.lasts allL_nil))), ?_⟩
            rcases hpo : pr kd i ((mm : Nat) : Int) with _ | cc
            · refine wl_ov (ov_move rfl) rfl ?_
              refine wl_ov (ov_move rfl) rfl ?_
              refine wl_ov (ov_build (cs := [.int .i64 kd, .int .i64 ((mm : Nat) : Int), .int .i64 0]) rfl (by kernel_rfl)) rfl ?_
              refine wl_alloc zc79 rfl fun g6 => ?_
              refine wl_stores (cs' := [.int .i64 kd, .int .i64 ((mm : Nat) : Int), .int .i64 0]) 0 rz79 rfl rfl rfl rfl rfl rfl rfl rfl ?_
              refine wl_nil ?_
              refine nx_then ?_
              refine gw_seq ?_
              refine gw_region ?_
              refine wl_ov (ov_loads (vs := [.slice A n c0, .string c, .int .i64 fr, .int .i64 tt, .int .i64 ((D : Nat) : Int)]) rz170 rfl (fun _ hm => (hm.fact 2 rfl).2) rfl rfl) rfl ?_
              refine wl_ov (ov_move rfl) rfl ?_
              refine wl_ov (ov_loads rz79 rfl (fun _ hm => hm.blkI 0 rfl) rfl rfl) rfl ?_
              refine wl_callx (γ := Int) (val := (fun (g : Int) => .tuple #[.int .i64 g, .bool false])) (φ := (fun (g : Int) => True)) (Y := (fun (g : Int) => fun _ => True)) rfl cb114 rfl rfl (fun wx hm => (by have h := rprice_any l A n c0 c fr tt D kd i ((mm : Nat) : Int) 0 wx (hm.fact 1 rfl).1 hn hr0 h0 (by omega) (by omega) (by omega) hD4 (by omega) (by omega) hto; rw [← hprD, hpo] at h; exact h.mono fun _ _ ⟨v, he, hv, hg⟩ => ⟨v, he, trivial, hg, trivial⟩)) (fun _ => Lasts2.true_) ?_
              rintro v1 hphi
              clear hphi
              refine wl_ov (ov_move rfl) rfl ?_
              refine wl_ov (ov_extract rfl rfl) rfl ?_
              refine wl_ov (ov_extract rfl rfl) rfl ?_
              refine wl_ov (ov_assign rfl) rfl ?_
              refine wl_ov (ov_assign rfl) rfl ?_
              refine wl_nil ?_
              refine nx_then ?_
              refine gw_seq ?_
              refine gw_seq ?_
              refine gw_region ?_
              refine wl_ov (ov_move rfl) rfl ?_
              refine wl_ov (ov_un_not rfl) rfl ?_
              refine wl_set 60 (v' := .bool true) rfl (congrArg Value.bool (by decide)) ?_
              refine wl_nil ?_
              refine nx_then ?_
              refine gw_cond rfl (fun _ => ?_) (fun hh => by cases hh)
              refine gw_exit ?_
              refine nx_then_exit ?_
              refine nx_blk_here ?_
              refine nx_then ?_
              refine gw_region ?_
              refine wl_ov (ov_move rfl) rfl ?_
              refine wl_ov (ov_add rfl rfl (by omega) (by omega)) rfl ?_
              refine wl_ov (ov_assign rfl) rfl ?_
              refine wl_nil ?_
              refine nx_unnest (c := ⟨123, w, none, [174, 79]⟩) (L' := [(gt, 170, [.slice A n c0, .string c, .int .i64 fr, .int .i64 tt, .int .i64 ((D : Nat) : Int)])]) (O' := [⟨.slice (some ⟨g4, 0, none⟩) (D + 1) (D + 1), 172, 1, (D + 1), (bs3).flatMap wyEnc⟩]) (X' := [(fun _ => True), Ways w.heap.size bs3, SlOld rtEnc 7 61 w.heap.size none A n l]) (K' := fun _ => True) rfl (fun wx hm => back_mem hm_w2 rfl hm (F := fun _ => True) trivial Lasts2.true_) ?_
              exact nx_round (mm + 1, bs3) ⟨⟨by dsimp only; omega, by dsimp only; omega⟩, hbl3, hx3, frow_none hfr3 hpo⟩ (by dsimp only; omega) ⟨rfl, rfl, rfl, rfl, rfl, rfl, (some_int (by omega)), rfl, rfl, trivial⟩ (fun _ hm => hm.pick [0] [0] [1, 2] rfl rfl)
            · have hcc := hpb _ _ _ _ hpo
              have hcc0 := hcc.1
              have hcc1 := hcc.2
              have himm : i + mm ≤ D := by
                have h := price_some (by rw [← hprD]; exact hpo)
                rw [seasons_len] at h
                omega
              refine wl_ov (ov_move rfl) rfl ?_
              refine wl_ov (ov_move rfl) rfl ?_
              refine wl_ov (ov_build (cs := [.int .i64 kd, .int .i64 ((mm : Nat) : Int), .int .i64 0]) rfl (by kernel_rfl)) rfl ?_
              refine wl_alloc zc79 rfl fun g8 => ?_
              refine wl_stores (cs' := [.int .i64 kd, .int .i64 ((mm : Nat) : Int), .int .i64 0]) 0 rz79 rfl rfl rfl rfl rfl rfl rfl rfl ?_
              refine wl_nil ?_
              refine nx_then ?_
              refine gw_seq ?_
              refine gw_region ?_
              refine wl_ov (ov_loads (vs := [.slice A n c0, .string c, .int .i64 fr, .int .i64 tt, .int .i64 ((D : Nat) : Int)]) rz170 rfl (fun _ hm => (hm.fact 2 rfl).2) rfl rfl) rfl ?_
              refine wl_ov (ov_move rfl) rfl ?_
              refine wl_ov (ov_loads rz79 rfl (fun _ hm => hm.blkI 0 rfl) rfl rfl) rfl ?_
              refine wl_callv (v := .tuple #[.int .i64 cc, .bool true]) rfl cb114 rfl rfl (fun wx hm => (by have h := rprice_any l A n c0 c fr tt D kd i ((mm : Nat) : Int) 0 wx (hm.fact 1 rfl).1 hn hr0 h0 (by omega) (by omega) (by omega) hD4 (by omega) (by omega) hto; rw [← hprD, hpo] at h; exact h.mono fun _ _ ⟨v, he, hv, hg⟩ => ⟨by rw [he, hv cc rfl]; rfl, hg⟩)) ?_
              refine wl_ov (ov_move rfl) rfl ?_
              refine wl_ov (ov_extract rfl rfl) rfl ?_
              refine wl_ov (ov_extract rfl rfl) rfl ?_
              refine wl_ov (ov_assign rfl) rfl ?_
              refine wl_ov (ov_assign rfl) rfl ?_
              refine wl_nil ?_
              refine nx_then ?_
              refine gw_seq ?_
              refine gw_seq ?_
              refine gw_region ?_
              refine wl_ov (ov_move rfl) rfl ?_
              refine wl_ov (ov_un_not rfl) rfl ?_
              refine wl_set 60 (v' := .bool false) rfl (congrArg Value.bool (by decide)) ?_
              refine wl_nil ?_
              refine nx_then ?_
              refine gw_cond rfl (fun hh => by cases hh) (fun _ => ?_)
              refine gw_skip ?_
              refine nx_then ?_
              refine gw_seq ?_
              refine gw_region ?_
              refine wl_ov (ov_move rfl) rfl ?_
              refine wl_ov (ov_field fo79_2 rfl rfl) rfl ?_
              refine wl_store 0 sc3 rfl rfl rfl rfl rfl rfl ?_
              refine wl_nil ?_
              refine nx_then ?_
              refine gw_cut (γ := Nat × Option Addr × Nat) (I := (fun (g : Nat × Option Addr × Nat) => True)) (S' := (fun (g : Nat × Option Addr × Nat) => [(6, .slice none 0 0), (7, .bool false), (8, .pointer (some ⟨gt, 0, none⟩)), (9, .slice (some ⟨g4, 0, none⟩) (D + 1) (D + 1)), (10, .int .i64 ((i : Nat) : Int)), (11, .int .i64 kd), (12, .int .i64 ((mm : Nat) : Int)), (16, .pointer (some ⟨g.1, 0, none⟩)), (32, .int .i64 ((D : Nat) : Int)), (33, .int .i64 ((i : Nat) : Int))])) (K' := (fun (g : Nat × Option Addr × Nat) => RowK w.heap.size 172 1 (D + 1) (D + 1) g4 (bs3.flatMap wyEnc))) (L' := (fun (g : Nat × Option Addr × Nat) => [(g.1, 174, [.int .i64 (pcSum yp + cc), .slice g.2.1 (yn + 1) g.2.2])])) (O' := (fun (g : Nat × Option Addr × Nat) => [⟨.slice g.2.1 (yn + 1) g.2.2, 79, 3, (yn + 1), (yp ++ [(⟨kd, ((mm : Nat) : Int), cc⟩ : Pc)]).flatMap pcEnc⟩])) (X' := (fun (g : Nat × Option Addr × Nat) => [WaysO w2.heap.size (some g4) bs3, SlOld rtEnc 7 61 w2.heap.size (some g4) A n l, BlkOld w2.heap.size (some g4) gt 170 [.slice A n c0, .string c, .int .i64 fr, .int .i64 tt, .int .i64 ((D : Nat) : Int)]])) ?_ ?_
              · have hynil : yn = 0 → yA = none ∧ yc = 0 := ((hm_w2.fact 0 rfl : Ways w.heap.size bs3 w2) ⟨yg, yA, yn, yc, yp⟩ (List.mem_of_getElem? hx3)).1.2
                have hyl : yp.length = yn := ((hm_w2.fact 0 rfl : Ways w.heap.size bs3 w2) ⟨yg, yA, yn, yc, yp⟩ (List.mem_of_getElem? hx3)).1.1
                refine gw_draw (fun wz => Blk wz g8 79 [.int .i64 kd, .int .i64 ((mm : Nat) : Int), .int .i64 cc] ∧ (WaysO w2.heap.size (some g4) bs3) wz ∧ (SlOld rtEnc 7 61 w2.heap.size (some g4) A n l) wz ∧ (BlkOld w2.heap.size (some g4) gt 170 [.slice A n c0, .string c, .int .i64 fr, .int .i64 tt, .int .i64 ((D : Nat) : Int)]) wz ∧ (RowK w.heap.size 172 1 (D + 1) (D + 1) g4 (bs3.flatMap wyEnc)) wz ∧ True) mixed ?_
                refine wa_take 0 rfl (by kernel_rfl) (by kernel_rfl) (by kernel_rfl) (listed' := #[true, false, false, false, false, false, false, false, false, false, false, false, false, false, false, false, false, false, false, false, false, false, false]) rfl (fun _ _ _ h => h) (fun _ hm => ⟨hm.blkI 0 rfl, hm.fact 0 rfl, hm.fact 1 rfl, hm.fact 2 rfl, hm.k, trivial⟩) (ov_move rfl) rfl ?_
                refine wa_take 1 rfl (by kernel_rfl) (by kernel_rfl) (by kernel_rfl) (listed' := #[true, true, false, false, false, false, false, false, false, false, false, false, false, false, false, false, false, false, false, false, false, false, false]) rfl (fun _ _ _ h => h) (fun _ hm => ⟨hm.blkI 0 rfl, hm.fact 0 rfl, hm.fact 1 rfl, hm.fact 2 rfl, hm.k, trivial⟩) (ov_move rfl) rfl ?_
                refine wa_take 2 rfl (by kernel_rfl) (by kernel_rfl) (by kernel_rfl) (listed' := #[true, true, true, false, false, false, false, false, false, false, false, false, false, false, false, false, false, false, false, false, false, false, false]) rfl (fun _ _ _ h => h) (fun _ hm => ⟨hm.blkI 0 rfl, hm.fact 0 rfl, hm.fact 1 rfl, hm.fact 2 rfl, hm.k, trivial⟩) (ov_index (j := i) es171 rfl rfl (by omega)) rfl ?_
                refine wa_take 3 rfl (by kernel_rfl) (by kernel_rfl) (by kernel_rfl) (listed' := #[true, true, true, true, false, false, false, false, false, false, false, false, false, false, false, false, false, false, false, false, false, false, false]) rfl (fun _ _ _ h => h) (fun _ hm => ⟨hm.blkI 0 rfl, hm.fact 0 rfl, hm.fact 1 rfl, hm.fact 2 rfl, hm.k, trivial⟩) (ov_elem1 (k := 0) (v := .pointer (some ⟨yg, 0, none⟩)) sc172 rfl (fun _ hm => (RowK.get (hm.2.2.2.2.1) wy_len hbl3)) hx3 rfl rfl) rfl ?_
                refine wa_take 4 rfl (by kernel_rfl) (by kernel_rfl) (by kernel_rfl) (listed' := #[true, true, true, true, true, false, false, false, false, false, false, false, false, false, false, false, false, false, false, false, false, false, false]) rfl (fun _ _ _ h => h) (fun _ hm => ⟨hm.blkI 0 rfl, hm.fact 0 rfl, hm.fact 1 rfl, hm.fact 2 rfl, hm.k, trivial⟩) (ov_nilcheck rfl) rfl ?_
                refine wa_take 5 rfl (by kernel_rfl) (by kernel_rfl) (by kernel_rfl) (listed' := #[true, true, true, true, true, true, false, false, false, false, false, false, false, false, false, false, false, false, false, false, false, false, false]) rfl (fun _ _ _ h => h) (fun _ hm => ⟨hm.blkI 0 rfl, hm.fact 0 rfl, hm.fact 1 rfl, hm.fact 2 rfl, hm.k, trivial⟩) (ov_field fo174_0 rfl rfl) rfl ?_
                refine wa_take 6 rfl (by kernel_rfl) (by kernel_rfl) (by kernel_rfl) (listed' := #[true, true, true, true, true, true, true, false, false, false, false, false, false, false, false, false, false, false, false, false, false, false, false]) rfl (fun _ _ _ h => h) (fun _ hm => ⟨hm.blkI 0 rfl, hm.fact 0 rfl, hm.fact 1 rfl, hm.fact 2 rfl, hm.k, trivial⟩) (ov_load (v := .int .i64 (pcSum yp)) sc3 rfl (fun _ hm => ((hm.2.1) ⟨yg, yA, yn, yc, yp⟩ (List.mem_of_getElem? hx3)).1.2) rfl) rfl ?_
                refine wa_take 7 rfl (by kernel_rfl) (by kernel_rfl) (by kernel_rfl) (listed' := #[true, true, true, true, true, true, true, true, false, false, false, false, false, false, false, false, false, false, false, false, false, false, false]) rfl (fun _ _ _ h => h) (fun _ hm => ⟨hm.blkI 0 rfl, hm.fact 0 rfl, hm.fact 1 rfl, hm.fact 2 rfl, hm.k, trivial⟩) (ov_move rfl) rfl ?_
                refine wa_take 8 rfl (by kernel_rfl) (by kernel_rfl) (by kernel_rfl) (listed' := #[true, true, true, true, true, true, true, true, true, false, false, false, false, false, false, false, false, false, false, false, false, false, false]) rfl (fun _ _ _ h => h) (fun _ hm => ⟨hm.blkI 0 rfl, hm.fact 0 rfl, hm.fact 1 rfl, hm.fact 2 rfl, hm.k, trivial⟩) (ov_add rfl rfl (by omega) (by omega)) rfl ?_
                refine wa_take 9 rfl (by kernel_rfl) (by kernel_rfl) (by kernel_rfl) (listed' := #[true, true, true, true, true, true, true, true, true, true, false, false, false, false, false, false, false, false, false, false, false, false, false]) rfl (fun _ _ _ h => h) (fun _ hm => ⟨hm.blkI 0 rfl, hm.fact 0 rfl, hm.fact 1 rfl, hm.fact 2 rfl, hm.k, trivial⟩) (ov_move rfl) rfl ?_
                refine wa_take 10 rfl (by kernel_rfl) (by kernel_rfl) (by kernel_rfl) (listed' := #[true, true, true, true, true, true, true, true, true, true, true, false, false, false, false, false, false, false, false, false, false, false, false]) rfl (fun _ _ _ h => h) (fun _ hm => ⟨hm.blkI 0 rfl, hm.fact 0 rfl, hm.fact 1 rfl, hm.fact 2 rfl, hm.k, trivial⟩) (ov_move rfl) rfl ?_
                refine wa_take 11 rfl (by kernel_rfl) (by kernel_rfl) (by kernel_rfl) (listed' := #[true, true, true, true, true, true, true, true, true, true, true, true, false, false, false, false, false, false, false, false, false, false, false]) rfl (fun _ _ _ h => h) (fun _ hm => ⟨hm.blkI 0 rfl, hm.fact 0 rfl, hm.fact 1 rfl, hm.fact 2 rfl, hm.k, trivial⟩) (ov_index (j := i) es171 rfl rfl (by omega)) rfl ?_
                refine wa_take 12 rfl (by kernel_rfl) (by kernel_rfl) (by kernel_rfl) (listed' := #[true, true, true, true, true, true, true, true, true, true, true, true, true, false, false, false, false, false, false, false, false, false, false]) rfl (fun _ _ _ h => h) (fun _ hm => ⟨hm.blkI 0 rfl, hm.fact 0 rfl, hm.fact 1 rfl, hm.fact 2 rfl, hm.k, trivial⟩) (ov_elem1 (k := 0) (v := .pointer (some ⟨yg, 0, none⟩)) sc172 rfl (fun _ hm => (RowK.get (hm.2.2.2.2.1) wy_len hbl3)) hx3 rfl rfl) rfl ?_
                refine wa_take 13 rfl (by kernel_rfl) (by kernel_rfl) (by kernel_rfl) (listed' := #[true, true, true, true, true, true, true, true, true, true, true, true, true, true, false, false, false, false, false, false, false, false, false]) rfl (fun _ _ _ h => h) (fun _ hm => ⟨hm.blkI 0 rfl, hm.fact 0 rfl, hm.fact 1 rfl, hm.fact 2 rfl, hm.k, trivial⟩) (ov_nilcheck rfl) rfl ?_
                refine wa_take 14 rfl (by kernel_rfl) (by kernel_rfl) (by kernel_rfl) (listed' := #[true, true, true, true, true, true, true, true, true, true, true, true, true, true, true, false, false, false, false, false, false, false, false]) rfl (fun _ _ _ h => h) (fun _ hm => ⟨hm.blkI 0 rfl, hm.fact 0 rfl, hm.fact 1 rfl, hm.fact 2 rfl, hm.k, trivial⟩) (ov_field fo174_1 rfl rfl) rfl ?_
                refine wa_take 15 rfl (by kernel_rfl) (by kernel_rfl) (by kernel_rfl) (listed' := #[true, true, true, true, true, true, true, true, true, true, true, true, true, true, true, true, false, false, false, false, false, false, false]) rfl (fun _ _ _ h => h) (fun _ hm => ⟨hm.blkI 0 rfl, hm.fact 0 rfl, hm.fact 1 rfl, hm.fact 2 rfl, hm.k, trivial⟩) (ov_load (v := .slice yA yn yc) sc72 rfl (fun _ hm => ((hm.2.1) ⟨yg, yA, yn, yc, yp⟩ (List.mem_of_getElem? hx3)).1.2) rfl) rfl ?_
                refine wa_take 17 rfl (by kernel_rfl) (by kernel_rfl) (by kernel_rfl) (listed' := #[true, true, true, true, true, true, true, true, true, true, true, true, true, true, true, true, false, true, false, false, false, false, false]) rfl (fun _ _ _ h => h) (fun _ hm => ⟨hm.blkI 0 rfl, hm.fact 0 rfl, hm.fact 1 rfl, hm.fact 2 rfl, hm.k, trivial⟩) (ov_loads rz79 rfl (fun _ hm => hm.1) rfl rfl) rfl ?_
                refine wa_all [16, 18, 21] (by kernel_rfl) rfl ⟨⟨_, rfl, ?_⟩, ⟨_, rfl, ?_⟩, ⟨_, rfl, ?_⟩, trivial⟩
                · refine wl_callgo (γ := Option Addr × Nat) (val := (fun (g : Option Addr × Nat) => .slice g.1 yn g.2)) (φ := (fun (g : Option Addr × Nat) => True)) (fun (g : Option Addr × Nat) => ⟨.slice g.1 yn g.2, 79, 3, yn, yp.flatMap pcEnc⟩) rfl cb115 rfl rfl (fun wx hm => (by have hW := (hm.fact 0 rfl) ⟨yg, yA, yn, yc, yp⟩ (List.mem_of_getElem? hx3); exact (clonePieces_any yp yA yn yc wx hW.2.1 hynil (by omega)).mono fun _ _ ⟨A2, c2, he, ho, hg⟩ => ⟨(A2, c2), he, trivial, ho, hg⟩)) ?_
                  rintro ⟨qA, qc⟩ hphi
                  dsimp only at hphi ⊢
                  clear hphi
                  refine wl_nil ?_
                  refine nx_wa0 (listed' := #[true, true, true, true, true, true, true, true, true, true, true, true, true, true, true, true, true, true, false, false, false, false, false]) rfl (fun _ hm => ⟨hm.blkI 0 rfl, hm.fact 0 rfl, hm.fact 1 rfl, hm.fact 2 rfl, hm.k, trivial⟩) ?_
                  refine wa_all [18, 21] (by kernel_rfl) rfl ⟨⟨_, rfl, ?_⟩, ⟨_, rfl, ?_⟩, trivial⟩
                  · refine wl_buildSlice (e := 79) (cs := [.int .i64 kd, .int .i64 ((mm : Nat) : Int), .int .i64 cc]) rfl (by kernel_rfl) rfl fun g9 => ?_
                    refine wl_nil ?_
                    refine nx_wa0 (listed' := #[true, true, true, true, true, true, true, true, true, true, true, true, true, true, true, true, true, true, true, false, false, false, false]) rfl (fun _ hm => ⟨hm.blkI 1 rfl, hm.fact 0 rfl, hm.fact 1 rfl, hm.fact 2 rfl, hm.k, trivial⟩) ?_
                    refine wa_all [19, 21] (by kernel_rfl) rfl ⟨⟨_, rfl, ?_⟩, ⟨_, rfl, ?_⟩, trivial⟩
                    · refine wl_append (news := [.int .i64 kd, .int .i64 ((mm : Nat) : Int), .int .i64 cc]) 0 0 ap72 rfl rfl rfl rfl rfl rfl rfl (by omega) (by unfold maxLen; omega) rfl rfl fun v2 hv2 => ?_
                      refine wl_look (R := ∃ A cc, v2 = .slice A (yn + 1) cc) (fun wx hm => own_slice (hm.ownI 0 rfl)) ?_
                      rintro ⟨xA, xc, rfl⟩
                      refine wl_nil ?_
                      refine nx_wa0 (listed' := #[true, true, true, true, true, true, true, true, true, true, true, true, true, true, true, true, true, true, true, true, false, false, false]) rfl (fun _ hm => ⟨hm.blkI 1 rfl, hm.fact 0 rfl, hm.fact 1 rfl, hm.fact 2 rfl, hm.k, trivial⟩) ?_
                      refine wa_take 20 rfl (by kernel_rfl) (by kernel_rfl) (by kernel_rfl) (listed' := #[true, true, true, true, true, true, true, true, true, true, true, true, true, true, true, true, true, true, true, true, true, false, false]) rfl (fun _ _ _ h => h) (fun _ hm => ⟨hm.blkI 1 rfl, hm.fact 0 rfl, hm.fact 1 rfl, hm.fact 2 rfl, hm.k, trivial⟩) (ov_build (cs := [.int .i64 ((pcSum yp) + cc), .slice xA (yn + 1) xc]) rfl (by kernel_rfl)) rfl ?_
                      refine wa_all [21] (by kernel_rfl) rfl ⟨⟨_, rfl, ?_⟩, trivial⟩
                      refine wl_alloc zc174 rfl fun g10 => ?_
                      refine wl_nil ?_
                      refine nx_wa0 (listed' := #[true, true, true, true, true, true, true, true, true, true, true, true, true, true, true, true, true, true, true, true, true, true, false]) rfl (fun _ hm => ⟨hm.blkI 2 rfl, hm.fact 0 rfl, hm.fact 1 rfl, hm.fact 2 rfl, hm.k, trivial⟩) ?_
                      refine wa_all [22] (by kernel_rfl) rfl ⟨⟨_, rfl, ?_⟩, trivial⟩
                      refine wl_stores (cs' := [.int .i64 ((pcSum yp) + cc), .slice xA (yn + 1) xc]) 0 rz174 rfl rfl rfl rfl rfl rfl rfl rfl ?_
                      refine wl_nil ?_
                      refine nx_wa0 (listed' := #[true, true, true, true, true, true, true, true, true, true, true, true, true, true, true, true, true, true, true, true, true, true, true]) rfl (fun _ hm => ⟨hm.blkI 2 rfl, hm.fact 0 rfl, hm.fact 1 rfl, hm.fact 2 rfl, hm.k, trivial⟩) ?_
                      refine wa_done (by kernel_rfl) ?_
                      have hxs : yp.flatMap pcEnc ++ ([.int .i64 kd, .int .i64 ((mm : Nat) : Int), .int .i64 cc] : List Value) = (yp ++ [(⟨kd, ((mm : Nat) : Int), cc⟩ : Pc)]).flatMap pcEnc := by simp [pcEnc]
                      exact nx_meet (g10, xA, xc) trivial ⟨rfl, rfl, rfl, rfl, rfl, rfl, rfl, rfl, rfl, rfl, trivial⟩ (fun _ hm => (own_xs hxs hm).pick [0] [0] [0, 1, 2] rfl rfl)
                    · refine wl_alloc zc174 rfl fun g11 => ?_
                      refine wl_nil ?_
                      refine nx_wa0 (listed' := #[true, true, true, true, true, true, true, true, true, true, true, true, true, true, true, true, true, true, true, false, false, true, false]) rfl (fun _ hm => ⟨hm.blkI 2 rfl, hm.fact 0 rfl, hm.fact 1 rfl, hm.fact 2 rfl, hm.k, trivial⟩) ?_
                      refine wa_all [19] (by kernel_rfl) rfl ⟨⟨_, rfl, ?_⟩, trivial⟩
                      refine wl_append (news := [.int .i64 kd, .int .i64 ((mm : Nat) : Int), .int .i64 cc]) 0 1 ap72 rfl rfl rfl rfl rfl rfl rfl (by omega) (by unfold maxLen; omega) rfl rfl fun v2 hv2 => ?_
                      refine wl_look (R := ∃ A cc, v2 = .slice A (yn + 1) cc) (fun wx hm => own_slice (hm.ownI 0 rfl)) ?_
                      rintro ⟨xA, xc, rfl⟩
                      refine wl_nil ?_
                      refine nx_wa0 (listed' := #[true, true, true, true, true, true, true, true, true, true, true, true, true, true, true, true, true, true, true, true, false, true, false]) rfl (fun _ hm => ⟨hm.blkI 2 rfl, hm.fact 0 rfl, hm.fact 1 rfl, hm.fact 2 rfl, hm.k, trivial⟩) ?_
                      refine wa_take 20 rfl (by kernel_rfl) (by kernel_rfl) (by kernel_rfl) (listed' := #[true, true, true, true, true, true, true, true, true, true, true, true, true, true, true, true, true, true, true, true, true, true, false]) rfl (fun _ _ _ h => h) (fun _ hm => ⟨hm.blkI 2 rfl, hm.fact 0 rfl, hm.fact 1 rfl, hm.fact 2 rfl, hm.k, trivial⟩) (ov_build (cs := [.int .i64 ((pcSum yp) + cc), .slice xA (yn + 1) xc]) rfl (by kernel_rfl)) rfl ?_
                      refine wa_all [22] (by kernel_rfl) rfl ⟨⟨_, rfl, ?_⟩, trivial⟩
                      refine wl_stores (cs' := [.int .i64 ((pcSum yp) + cc), .slice xA (yn + 1) xc]) 0 rz174 rfl rfl rfl rfl rfl rfl rfl rfl ?_
                      refine wl_nil ?_
                      refine nx_wa0 (listed' := #[true, true, true, true, true, true, true, true, true, true, true, true, true, true, true, true, true, true, true, true, true, true, true]) rfl (fun _ hm => ⟨hm.blkI 2 rfl, hm.fact 0 rfl, hm.fact 1 rfl, hm.fact 2 rfl, hm.k, trivial⟩) ?_
                      refine wa_done (by kernel_rfl) ?_
                      have hxs : yp.flatMap pcEnc ++ ([.int .i64 kd, .int .i64 ((mm : Nat) : Int), .int .i64 cc] : List Value) = (yp ++ [(⟨kd, ((mm : Nat) : Int), cc⟩ : Pc)]).flatMap pcEnc := by simp [pcEnc]
                      exact nx_meet (g11, xA, xc) trivial ⟨rfl, rfl, rfl, rfl, rfl, rfl, rfl, rfl, rfl, rfl, trivial⟩ (fun _ hm => (own_xs hxs hm).pick [0] [0] [0, 1, 2] rfl rfl)
                  · refine wl_alloc zc174 rfl fun g12 => ?_
                    refine wl_nil ?_
                    refine nx_wa0 (listed' := #[true, true, true, true, true, true, true, true, true, true, true, true, true, true, true, true, true, true, false, false, false, true, false]) rfl (fun _ hm => ⟨hm.blkI 1 rfl, hm.fact 0 rfl, hm.fact 1 rfl, hm.fact 2 rfl, hm.k, trivial⟩) ?_
                    refine wa_all [18] (by kernel_rfl) rfl ⟨⟨_, rfl, ?_⟩, trivial⟩
                    refine wl_buildSlice (e := 79) (cs := [.int .i64 kd, .int .i64 ((mm : Nat) : Int), .int .i64 cc]) rfl (by kernel_rfl) rfl fun g13 => ?_
                    refine wl_nil ?_
                    refine nx_wa0 (listed' := #[true, true, true, true, true, true, true, true, true, true, true, true, true, true, true, true, true, true, true, false, false, true, false]) rfl (fun _ hm => ⟨hm.blkI 2 rfl, hm.fact 0 rfl, hm.fact 1 rfl, hm.fact 2 rfl, hm.k, trivial⟩) ?_
                    refine wa_all [19] (by kernel_rfl) rfl ⟨⟨_, rfl, ?_⟩, trivial⟩
                    refine wl_append (news := [.int .i64 kd, .int .i64 ((mm : Nat) : Int), .int .i64 cc]) 0 0 ap72 rfl rfl rfl rfl rfl rfl rfl (by omega) (by unfold maxLen; omega) rfl rfl fun v2 hv2 => ?_
                    refine wl_look (R := ∃ A cc, v2 = .slice A (yn + 1) cc) (fun wx hm => own_slice (hm.ownI 0 rfl)) ?_
                    rintro ⟨xA, xc, rfl⟩
                    refine wl_nil ?_
                    refine nx_wa0 (listed' := #[true, true, true, true, true, true, true, true, true, true, true, true, true, true, true, true, true, true, true, true, false, true, false]) rfl (fun _ hm => ⟨hm.blkI 2 rfl, hm.fact 0 rfl, hm.fact 1 rfl, hm.fact 2 rfl, hm.k, trivial⟩) ?_
                    refine wa_take 20 rfl (by kernel_rfl) (by kernel_rfl) (by kernel_rfl) (listed' := #[true, true, true, true, true, true, true, true, true, true, true, true, true, true, true, true, true, true, true, true, true, true, false]) rfl (fun _ _ _ h => h) (fun _ hm => ⟨hm.blkI 2 rfl, hm.fact 0 rfl, hm.fact 1 rfl, hm.fact 2 rfl, hm.k, trivial⟩) (ov_build (cs := [.int .i64 ((pcSum yp) + cc), .slice xA (yn + 1) xc]) rfl (by kernel_rfl)) rfl ?_
                    refine wa_all [22] (by kernel_rfl) rfl ⟨⟨_, rfl, ?_⟩, trivial⟩
                    refine wl_stores (cs' := [.int .i64 ((pcSum yp) + cc), .slice xA (yn + 1) xc]) 1 rz174 rfl rfl rfl rfl rfl rfl rfl rfl ?_
                    refine wl_nil ?_
                    refine nx_wa0 (listed' := #[true, true, true, true, true, true, true, true, true, true, true, true, true, true, true, true, true, true, true, true, true, true, true]) rfl (fun _ hm => ⟨hm.blkI 2 rfl, hm.fact 0 rfl, hm.fact 1 rfl, hm.fact 2 rfl, hm.k, trivial⟩) ?_
                    refine wa_done (by kernel_rfl) ?_
                    have hxs : yp.flatMap pcEnc ++ ([.int .i64 kd, .int .i64 ((mm : Nat) : Int), .int .i64 cc] : List Value) = (yp ++ [(⟨kd, ((mm : Nat) : Int), cc⟩ : Pc)]).flatMap pcEnc := by simp [pcEnc]
                    exact nx_meet (g12, xA, xc) trivial ⟨rfl, rfl, rfl, rfl, rfl, rfl, rfl, rfl, rfl, rfl, trivial⟩ (fun _ hm => (own_xs hxs hm).pick [1] [0] [0, 1, 2] rfl rfl)
                · refine wl_buildSlice (e := 79) (cs := [.int .i64 kd, .int .i64 ((mm : Nat) : Int), .int .i64 cc]) rfl (by kernel_rfl) rfl fun g14 => ?_
                  refine wl_nil ?_
                  refine nx_wa0 (listed' := #[true, true, true, true, true, true, true, true, true, true, true, true, true, true, true, true, false, true, true, false, false, false, false]) rfl (fun _ hm => ⟨hm.blkI 1 rfl, hm.fact 0 rfl, hm.fact 1 rfl, hm.fact 2 rfl, hm.k, trivial⟩) ?_
                  refine wa_all [16, 21] (by kernel_rfl) rfl ⟨⟨_, rfl, ?_⟩, ⟨_, rfl, ?_⟩, trivial⟩
                  · refine wl_callgo (γ := Option Addr × Nat) (val := (fun (g : Option Addr × Nat) => .slice g.1 yn g.2)) (φ := (fun (g : Option Addr × Nat) => True)) (fun (g : Option Addr × Nat) => ⟨.slice g.1 yn g.2, 79, 3, yn, yp.flatMap pcEnc⟩) rfl cb115 rfl rfl (fun wx hm => (by have hW := (hm.fact 0 rfl) ⟨yg, yA, yn, yc, yp⟩ (List.mem_of_getElem? hx3); exact (clonePieces_any yp yA yn yc wx hW.2.1 hynil (by omega)).mono fun _ _ ⟨A2, c2, he, ho, hg⟩ => ⟨(A2, c2), he, trivial, ho, hg⟩)) ?_
                    rintro ⟨qA, qc⟩ hphi
                    dsimp only at hphi ⊢
                    clear hphi
                    refine wl_nil ?_
                    refine nx_wa0 (listed' := #[true, true, true, true, true, true, true, true, true, true, true, true, true, true, true, true, true, true, true, false, false, false, false]) rfl (fun _ hm => ⟨hm.blkI 1 rfl, hm.fact 0 rfl, hm.fact 1 rfl, hm.fact 2 rfl, hm.k, trivial⟩) ?_
                    refine wa_all [19, 21] (by kernel_rfl) rfl ⟨⟨_, rfl, ?_⟩, ⟨_, rfl, ?_⟩, trivial⟩
                    · refine wl_append (news := [.int .i64 kd, .int .i64 ((mm : Nat) : Int), .int .i64 cc]) 0 0 ap72 rfl rfl rfl rfl rfl rfl rfl (by omega) (by unfold maxLen; omega) rfl rfl fun v2 hv2 => ?_
                      refine wl_look (R := ∃ A cc, v2 = .slice A (yn + 1) cc) (fun wx hm => own_slice (hm.ownI 0 rfl)) ?_
                      rintro ⟨xA, xc, rfl⟩
                      refine wl_nil ?_
                      refine nx_wa0 (listed' := #[true, true, true, true, true, true, true, true, true, true, true, true, true, true, true, true, true, true, true, true, false, false, false]) rfl (fun _ hm => ⟨hm.blkI 1 rfl, hm.fact 0 rfl, hm.fact 1 rfl, hm.fact 2 rfl, hm.k, trivial⟩) ?_
                      refine wa_take 20 rfl (by kernel_rfl) (by kernel_rfl) (by kernel_rfl) (listed' := #[true, true, true, true, true, true, true, true, true, true, true, true, true, true, true, true, true, true, true, true, true, false, false]) rfl (fun _ _ _ h => h) (fun _ hm => ⟨hm.blkI 1 rfl, hm.fact 0 rfl, hm.fact 1 rfl, hm.fact 2 rfl, hm.k, trivial⟩) (ov_build (cs := [.int .i64 ((pcSum yp) + cc), .slice xA (yn + 1) xc]) rfl (by kernel_rfl)) rfl ?_
                      refine wa_all [21] (by kernel_rfl) rfl ⟨⟨_, rfl, ?_⟩, trivial⟩
                      refine wl_alloc zc174 rfl fun g15 => ?_
                      refine wl_nil ?_
                      refine nx_wa0 (listed' := #[true, true, true, true, true, true, true, true, true, true, true, true, true, true, true, true, true, true, true, true, true, true, false]) rfl (fun _ hm => ⟨hm.blkI 2 rfl, hm.fact 0 rfl, hm.fact 1 rfl, hm.fact 2 rfl, hm.k, trivial⟩) ?_
                      refine wa_all [22] (by kernel_rfl) rfl ⟨⟨_, rfl, ?_⟩, trivial⟩
                      refine wl_stores (cs' := [.int .i64 ((pcSum yp) + cc), .slice xA (yn + 1) xc]) 0 rz174 rfl rfl rfl rfl rfl rfl rfl rfl ?_
                      refine wl_nil ?_
                      refine nx_wa0 (listed' := #[true, true, true, true, true, true, true, true, true, true, true, true, true, true, true, true, true, true, true, true, true, true, true]) rfl (fun _ hm => ⟨hm.blkI 2 rfl, hm.fact 0 rfl, hm.fact 1 rfl, hm.fact 2 rfl, hm.k, trivial⟩) ?_
                      refine wa_done (by kernel_rfl) ?_
                      have hxs : yp.flatMap pcEnc ++ ([.int .i64 kd, .int .i64 ((mm : Nat) : Int), .int .i64 cc] : List Value) = (yp ++ [(⟨kd, ((mm : Nat) : Int), cc⟩ : Pc)]).flatMap pcEnc := by simp [pcEnc]
                      exact nx_meet (g15, xA, xc) trivial ⟨rfl, rfl, rfl, rfl, rfl, rfl, rfl, rfl, rfl, rfl, trivial⟩ (fun _ hm => (own_xs hxs hm).pick [0] [0] [0, 1, 2] rfl rfl)
                    · refine wl_alloc zc174 rfl fun g16 => ?_
                      refine wl_nil ?_
                      refine nx_wa0 (listed' := #[true, true, true, true, true, true, true, true, true, true, true, true, true, true, true, true, true, true, true, false, false, true, false]) rfl (fun _ hm => ⟨hm.blkI 2 rfl, hm.fact 0 rfl, hm.fact 1 rfl, hm.fact 2 rfl, hm.k, trivial⟩) ?_
                      refine wa_all [19] (by kernel_rfl) rfl ⟨⟨_, rfl, ?_⟩, trivial⟩
                      refine wl_append (news := [.int .i64 kd, .int .i64 ((mm : Nat) : Int), .int .i64 cc]) 0 1 ap72 rfl rfl rfl rfl rfl rfl rfl (by omega) (by unfold maxLen; omega) rfl rfl fun v2 hv2 => ?_
                      refine wl_look (R := ∃ A cc, v2 = .slice A (yn + 1) cc) (fun wx hm => own_slice (hm.ownI 0 rfl)) ?_
                      rintro ⟨xA, xc, rfl⟩
                      refine wl_nil ?_
                      refine nx_wa0 (listed' := #[true, true, true, true, true, true, true, true, true, true, true, true, true, true, true, true, true, true, true, true, false, true, false]) rfl (fun _ hm => ⟨hm.blkI 2 rfl, hm.fact 0 rfl, hm.fact 1 rfl, hm.fact 2 rfl, hm.k, trivial⟩) ?_
                      refine wa_take 20 rfl (by kernel_rfl) (by kernel_rfl) (by kernel_rfl) (listed' := #[true, true, true, true, true, true, true, true, true, true, true, true, true, true, true, true, true, true, true, true, true, true, false]) rfl (fun _ _ _ h => h) (fun _ hm => ⟨hm.blkI 2 rfl, hm.fact 0 rfl, hm.fact 1 rfl, hm.fact 2 rfl, hm.k, trivial⟩) (ov_build (cs := [.int .i64 ((pcSum yp) + cc), .slice xA (yn + 1) xc]) rfl (by kernel_rfl)) rfl ?_
                      refine wa_all [22] (by kernel_rfl) rfl ⟨⟨_, rfl, ?_⟩, trivial⟩
                      refine wl_stores (cs' := [.int .i64 ((pcSum yp) + cc), .slice xA (yn + 1) xc]) 0 rz174 rfl rfl rfl rfl rfl rfl rfl rfl ?_
                      refine wl_nil ?_
                      refine nx_wa0 (listed' := #[true, true, true, true, true, true, true, true, true, true, true, true, true, true, true, true, true, true, true, true, true, true, true]) rfl (fun _ hm => ⟨hm.blkI 2 rfl, hm.fact 0 rfl, hm.fact 1 rfl, hm.fact 2 rfl, hm.k, trivial⟩) ?_
                      refine wa_done (by kernel_rfl) ?_
                      have hxs : yp.flatMap pcEnc ++ ([.int .i64 kd, .int .i64 ((mm : Nat) : Int), .int .i64 cc] : List Value) = (yp ++ [(⟨kd, ((mm : Nat) : Int), cc⟩ : Pc)]).flatMap pcEnc := by simp [pcEnc]
                      exact nx_meet (g16, xA, xc) trivial ⟨rfl, rfl, rfl, rfl, rfl, rfl, rfl, rfl, rfl, rfl, trivial⟩ (fun _ hm => (own_xs hxs hm).pick [0] [0] [0, 1, 2] rfl rfl)
                  · refine wl_alloc zc174 rfl fun g17 => ?_
                    refine wl_nil ?_
                    refine nx_wa0 (listed' := #[true, true, true, true, true, true, true, true, true, true, true, true, true, true, true, true, false, true, true, false, false, true, false]) rfl (fun _ hm => ⟨hm.blkI 2 rfl, hm.fact 0 rfl, hm.fact 1 rfl, hm.fact 2 rfl, hm.k, trivial⟩) ?_
                    refine wa_all [16] (by kernel_rfl) rfl ⟨⟨_, rfl, ?_⟩, trivial⟩
                    refine wl_callgo (γ := Option Addr × Nat) (val := (fun (g : Option Addr × Nat) => .slice g.1 yn g.2)) (φ := (fun (g : Option Addr × Nat) => True)) (fun (g : Option Addr × Nat) => ⟨.slice g.1 yn g.2, 79, 3, yn, yp.flatMap pcEnc⟩) rfl cb115 rfl rfl (fun wx hm => (by have hW := (hm.fact 0 rfl) ⟨yg, yA, yn, yc, yp⟩ (List.mem_of_getElem? hx3); exact (clonePieces_any yp yA yn yc wx hW.2.1 hynil (by omega)).mono fun _ _ ⟨A2, c2, he, ho, hg⟩ => ⟨(A2, c2), he, trivial, ho, hg⟩)) ?_
                    rintro ⟨qA, qc⟩ hphi
                    dsimp only at hphi ⊢
                    clear hphi
                    refine wl_nil ?_
                    refine nx_wa0 (listed' := #[true, true, true, true, true, true, true, true, true, true, true, true, true, true, true, true, true, true, true, false, false, true, false]) rfl (fun _ hm => ⟨hm.blkI 2 rfl, hm.fact 0 rfl, hm.fact 1 rfl, hm.fact 2 rfl, hm.k, trivial⟩) ?_
                    refine wa_all [19] (by kernel_rfl) rfl ⟨⟨_, rfl, ?_⟩, trivial⟩
                    refine wl_append (news := [.int .i64 kd, .int .i64 ((mm : Nat) : Int), .int .i64 cc]) 0 1 ap72 rfl rfl rfl rfl rfl rfl rfl (by omega) (by unfold maxLen; omega) rfl rfl fun v2 hv2 => ?_
                    refine wl_look (R := ∃ A cc, v2 = .slice A (yn + 1) cc) (fun wx hm => own_slice (hm.ownI 0 rfl)) ?_
                    rintro ⟨xA, xc, rfl⟩
                    refine wl_nil ?_
                    refine nx_wa0 (listed' := #[true, true, true, true, true, true, true, true, true, true, true, true, true, true, true, true, true, true, true, true, false, true, false]) rfl (fun _ hm => ⟨hm.blkI 2 rfl, hm.fact 0 rfl, hm.fact 1 rfl, hm.fact 2 rfl, hm.k, trivial⟩) ?_
                    refine wa_take 20 rfl (by kernel_rfl) (by kernel_rfl) (by kernel_rfl) (listed' := #[true, true, true, true, true, true, true, true, true, true, true, true, true, true, true, true, true, true, true, true, true, true, false]) rfl (fun _ _ _ h => h) (fun _ hm => ⟨hm.blkI 2 rfl, hm.fact 0 rfl, hm.fact 1 rfl, hm.fact 2 rfl, hm.k, trivial⟩) (ov_build (cs := [.int .i64 ((pcSum yp) + cc), .slice xA (yn + 1) xc]) rfl (by kernel_rfl)) rfl ?_
                    refine wa_all [22] (by kernel_rfl) rfl ⟨⟨_, rfl, ?_⟩, trivial⟩
                    refine wl_stores (cs' := [.int .i64 ((pcSum yp) + cc), .slice xA (yn + 1) xc]) 0 rz174 rfl rfl rfl rfl rfl rfl rfl rfl ?_
                    refine wl_nil ?_
                    refine nx_wa0 (listed' := #[true, true, true, true, true, true, true, true, true, true, true, true, true, true, true, true, true, true, true, true, true, true, true]) rfl (fun _ hm => ⟨hm.blkI 2 rfl, hm.fact 0 rfl, hm.fact 1 rfl, hm.fact 2 rfl, hm.k, trivial⟩) ?_
                    refine wa_done (by kernel_rfl) ?_
                    have hxs : yp.flatMap pcEnc ++ ([.int .i64 kd, .int .i64 ((mm : Nat) : Int), .int .i64 cc] : List Value) = (yp ++ [(⟨kd, ((mm : Nat) : Int), cc⟩ : Pc)]).flatMap pcEnc := by simp [pcEnc]
                    exact nx_meet (g17, xA, xc) trivial ⟨rfl, rfl, rfl, rfl, rfl, rfl, rfl, rfl, rfl, rfl, trivial⟩ (fun _ hm => (own_xs hxs hm).pick [0] [0] [0, 1, 2] rfl rfl)
                · refine wl_alloc zc174 rfl fun g18 => ?_
                  refine wl_nil ?_
                  refine nx_wa0 (listed' := #[true, true, true, true, true, true, true, true, true, true, true, true, true, true, true, true, false, true, false, false, false, true, false]) rfl (fun _ hm => ⟨hm.blkI 1 rfl, hm.fact 0 rfl, hm.fact 1 rfl, hm.fact 2 rfl, hm.k, trivial⟩) ?_
                  refine wa_all [16, 18] (by kernel_rfl) rfl ⟨⟨_, rfl, ?_⟩, ⟨_, rfl, ?_⟩, trivial⟩
                  · refine wl_callgo (γ := Option Addr × Nat) (val := (fun (g : Option Addr × Nat) => .slice g.1 yn g.2)) (φ := (fun (g : Option Addr × Nat) => True)) (fun (g : Option Addr × Nat) => ⟨.slice g.1 yn g.2, 79, 3, yn, yp.flatMap pcEnc⟩) rfl cb115 rfl rfl (fun wx hm => (by have hW := (hm.fact 0 rfl) ⟨yg, yA, yn, yc, yp⟩ (List.mem_of_getElem? hx3); exact (clonePieces_any yp yA yn yc wx hW.2.1 hynil (by omega)).mono fun _ _ ⟨A2, c2, he, ho, hg⟩ => ⟨(A2, c2), he, trivial, ho, hg⟩)) ?_
                    rintro ⟨qA, qc⟩ hphi
                    dsimp only at hphi ⊢
                    clear hphi
                    refine wl_nil ?_
                    refine nx_wa0 (listed' := #[true, true, true, true, true, true, true, true, true, true, true, true, true, true, true, true, true, true, false, false, false, true, false]) rfl (fun _ hm => ⟨hm.blkI 1 rfl, hm.fact 0 rfl, hm.fact 1 rfl, hm.fact 2 rfl, hm.k, trivial⟩) ?_
                    refine wa_all [18] (by kernel_rfl) rfl ⟨⟨_, rfl, ?_⟩, trivial⟩
                    refine wl_buildSlice (e := 79) (cs := [.int .i64 kd, .int .i64 ((mm : Nat) : Int), .int .i64 cc]) rfl (by kernel_rfl) rfl fun g19 => ?_
                    refine wl_nil ?_
                    refine nx_wa0 (listed' := #[true, true, true, true, true, true, true, true, true, true, true, true, true, true, true, true, true, true, true, false, false, true, false]) rfl (fun _ hm => ⟨hm.blkI 2 rfl, hm.fact 0 rfl, hm.fact 1 rfl, hm.fact 2 rfl, hm.k, trivial⟩) ?_
                    refine wa_all [19] (by kernel_rfl) rfl ⟨⟨_, rfl, ?_⟩, trivial⟩
                    refine wl_append (news := [.int .i64 kd, .int .i64 ((mm : Nat) : Int), .int .i64 cc]) 0 0 ap72 rfl rfl rfl rfl rfl rfl rfl (by omega) (by unfold maxLen; omega) rfl rfl fun v2 hv2 => ?_
                    refine wl_look (R := ∃ A cc, v2 = .slice A (yn + 1) cc) (fun wx hm => own_slice (hm.ownI 0 rfl)) ?_
                    rintro ⟨xA, xc, rfl⟩
                    refine wl_nil ?_
                    refine nx_wa0 (listed' := #[true, true, true, true, true, true, true, true, true, true, true, true, true, true, true, true, true, true, true, true, false, true, false]) rfl (fun _ hm => ⟨hm.blkI 2 rfl, hm.fact 0 rfl, hm.fact 1 rfl, hm.fact 2 rfl, hm.k, trivial⟩) ?_
                    refine wa_take 20 rfl (by kernel_rfl) (by kernel_rfl) (by kernel_rfl) (listed' := #[true, true, true, true, true, true, true, true, true, true, true, true, true, true, true, true, true, true, true, true, true, true, false]) rfl (fun _ _ _ h => h) (fun _ hm => ⟨hm.blkI 2 rfl, hm.fact 0 rfl, hm.fact 1 rfl, hm.fact 2 rfl, hm.k, trivial⟩) (ov_build (cs := [.int .i64 ((pcSum yp) + cc), .slice xA (yn + 1) xc]) rfl (by kernel_rfl)) rfl ?_
                    refine wa_all [22] (by kernel_rfl) rfl ⟨⟨_, rfl, ?_⟩, trivial⟩
                    refine wl_stores (cs' := [.int .i64 ((pcSum yp) + cc), .slice xA (yn + 1) xc]) 1 rz174 rfl rfl rfl rfl rfl rfl rfl rfl ?_
                    refine wl_nil ?_
                    refine nx_wa0 (listed' := #[true, true, true, true, true, true, true, true, true, true, true, true, true, true, true, true, true, true, true, true, true, true, true]) rfl (fun _ hm => ⟨hm.blkI 2 rfl, hm.fact 0 rfl, hm.fact 1 rfl, hm.fact 2 rfl, hm.k, trivial⟩) ?_
                    refine wa_done (by kernel_rfl) ?_
                    have hxs : yp.flatMap pcEnc ++ ([.int .i64 kd, .int .i64 ((mm : Nat) : Int), .int .i64 cc] : List Value) = (yp ++ [(⟨kd, ((mm : Nat) : Int), cc⟩ : Pc)]).flatMap pcEnc := by simp [pcEnc]
                    exact nx_meet (g18, xA, xc) trivial ⟨rfl, rfl, rfl, rfl, rfl, rfl, rfl, rfl, rfl, rfl, trivial⟩ (fun _ hm => (own_xs hxs hm).pick [1] [0] [0, 1, 2] rfl rfl)
                  · refine wl_buildSlice (e := 79) (cs := [.int .i64 kd, .int .i64 ((mm : Nat) : Int), .int .i64 cc]) rfl (by kernel_rfl) rfl fun g20 => ?_
                    refine wl_nil ?_
                    refine nx_wa0 (listed' := #[true, true, true, true, true, true, true, true, true, true, true, true, true, true, true, true, false, true, true, false, false, true, false]) rfl (fun _ hm => ⟨hm.blkI 2 rfl, hm.fact 0 rfl, hm.fact 1 rfl, hm.fact 2 rfl, hm.k, trivial⟩) ?_
                    refine wa_all [16] (by kernel_rfl) rfl ⟨⟨_, rfl, ?_⟩, trivial⟩
                    refine wl_callgo (γ := Option Addr × Nat) (val := (fun (g : Option Addr × Nat) => .slice g.1 yn g.2)) (φ := (fun (g : Option Addr × Nat) => True)) (fun (g : Option Addr × Nat) => ⟨.slice g.1 yn g.2, 79, 3, yn, yp.flatMap pcEnc⟩) rfl cb115 rfl rfl (fun wx hm => (by have hW := (hm.fact 0 rfl) ⟨yg, yA, yn, yc, yp⟩ (List.mem_of_getElem? hx3); exact (clonePieces_any yp yA yn yc wx hW.2.1 hynil (by omega)).mono fun _ _ ⟨A2, c2, he, ho, hg⟩ => ⟨(A2, c2), he, trivial, ho, hg⟩)) ?_
                    rintro ⟨qA, qc⟩ hphi
                    dsimp only at hphi ⊢
                    clear hphi
                    refine wl_nil ?_
                    refine nx_wa0 (listed' := #[true, true, true, true, true, true, true, true, true, true, true, true, true, true, true, true, true, true, true, false, false, true, false]) rfl (fun _ hm => ⟨hm.blkI 2 rfl, hm.fact 0 rfl, hm.fact 1 rfl, hm.fact 2 rfl, hm.k, trivial⟩) ?_
                    refine wa_all [19] (by kernel_rfl) rfl ⟨⟨_, rfl, ?_⟩, trivial⟩
                    refine wl_append (news := [.int .i64 kd, .int .i64 ((mm : Nat) : Int), .int .i64 cc]) 0 0 ap72 rfl rfl rfl rfl rfl rfl rfl (by omega) (by unfold maxLen; omega) rfl rfl fun v2 hv2 => ?_
                    refine wl_look (R := ∃ A cc, v2 = .slice A (yn + 1) cc) (fun wx hm => own_slice (hm.ownI 0 rfl)) ?_
                    rintro ⟨xA, xc, rfl⟩
                    refine wl_nil ?_
                    refine nx_wa0 (listed' := #[true, true, true, true, true, true, true, true, true, true, true, true, true, true, true, true, true, true, true, true, false, true, false]) rfl (fun _ hm => ⟨hm.blkI 2 rfl, hm.fact 0 rfl, hm.fact 1 rfl, hm.fact 2 rfl, hm.k, trivial⟩) ?_
                    refine wa_take 20 rfl (by kernel_rfl) (by kernel_rfl) (by kernel_rfl) (listed' := #[true, true, true, true, true, true, true, true, true, true, true, true, true, true, true, true, true, true, true, true, true, true, false]) rfl (fun _ _ _ h => h) (fun _ hm => ⟨hm.blkI 2 rfl, hm.fact 0 rfl, hm.fact 1 rfl, hm.fact 2 rfl, hm.k, trivial⟩) (ov_build (cs := [.int .i64 ((pcSum yp) + cc), .slice xA (yn + 1) xc]) rfl (by kernel_rfl)) rfl ?_
                    refine wa_all [22] (by kernel_rfl) rfl ⟨⟨_, rfl, ?_⟩, trivial⟩
                    refine wl_stores (cs' := [.int .i64 ((pcSum yp) + cc), .slice xA (yn + 1) xc]) 1 rz174 rfl rfl rfl rfl rfl rfl rfl rfl ?_
                    refine wl_nil ?_
                    refine nx_wa0 (listed' := #[true, true, true, true, true, true, true, true, true, true, true, true, true, true, true, true, true, true, true, true, true, true, true]) rfl (fun _ hm => ⟨hm.blkI 2 rfl, hm.fact 0 rfl, hm.fact 1 rfl, hm.fact 2 rfl, hm.k, trivial⟩) ?_
                    refine wa_done (by kernel_rfl) ?_
                    have hxs : yp.flatMap pcEnc ++ ([.int .i64 kd, .int .i64 ((mm : Nat) : Int), .int .i64 cc] : List Value) = (yp ++ [(⟨kd, ((mm : Nat) : Int), cc⟩ : Pc)]).flatMap pcEnc := by simp [pcEnc]
                    exact nx_meet (g18, xA, xc) trivial ⟨rfl, rfl, rfl, rfl, rfl, rfl, rfl, rfl, rfl, rfl, trivial⟩ (fun _ hm => (own_xs hxs hm).pick [1] [0] [0, 1, 2] rfl rfl)
              · rintro ⟨gx, xA, xc⟩ hinv
                replace hinv : True := hinv
                dsimp only
                refine gw_seq ?_
                clear hinv
                have hyl : yp.length = yn := ((hm_w2.fact 0 rfl : Ways w.heap.size bs3 w2) ⟨yg, yA, yn, yc, yp⟩ (List.mem_of_getElem? hx3)).1.1
                have hXok : WyOk ⟨gx, xA, yn + 1, xc, yp ++ [(⟨kd, ((mm : Nat) : Int), cc⟩ : Pc)]⟩ := ⟨by dsimp only; simp [hyl], fun h => absurd h (by dsimp only; omega)⟩
                obtain ⟨z, hz⟩ : ∃ z, bs3[i + mm]? = some z := ⟨_, List.getElem?_eq_getElem (by omega)⟩
                rcases z with _ | ⟨zg, zA, zn, zc, zp⟩
                · refine gw_draw (fun wz => Blk wz gx 174 [.int .i64 (pcSum yp + cc), .slice xA (yn + 1) xc] ∧ (WaysO w2.heap.size (some g4) bs3) wz ∧ (SlOld rtEnc 7 61 w2.heap.size (some g4) A n l) wz ∧ (BlkOld w2.heap.size (some g4) gt 170 [.slice A n c0, .string c, .int .i64 fr, .int .i64 tt, .int .i64 ((D : Nat) : Int)]) wz ∧ (RowK w.heap.size 172 1 (D + 1) (D + 1) g4 (bs3.flatMap wyEnc)) wz ∧ True) mixed ?_
                  refine wa_take 0 rfl (by kernel_rfl) (by kernel_rfl) (by kernel_rfl) (listed' := #[true, false, false, false, false, false, false, false, false, false, false, false, false, false, false, false, false, false, false]) rfl (fun _ _ _ h => h) (fun _ hm => ⟨hm.blkI 0 rfl, hm.fact 0 rfl, hm.fact 1 rfl, hm.fact 2 rfl, hm.k, trivial⟩) (ov_move rfl) rfl ?_
                  refine wa_take 1 rfl (by kernel_rfl) (by kernel_rfl) (by kernel_rfl) (listed' := #[true, true, false, false, false, false, false, false, false, false, false, false, false, false, false, false, false, false, false]) rfl (fun _ _ _ h => h) (fun _ hm => ⟨hm.blkI 0 rfl, hm.fact 0 rfl, hm.fact 1 rfl, hm.fact 2 rfl, hm.k, trivial⟩) (ov_move rfl) rfl ?_
                  refine wa_take 2 rfl (by kernel_rfl) (by kernel_rfl) (by kernel_rfl) (listed' := #[true, true, true, false, false, false, false, false, false, false, false, false, false, false, false, false, false, false, false]) rfl (fun _ _ _ h => h) (fun _ hm => ⟨hm.blkI 0 rfl, hm.fact 0 rfl, hm.fact 1 rfl, hm.fact 2 rfl, hm.k, trivial⟩) (ov_move rfl) rfl ?_
                  refine wa_take 3 rfl (by kernel_rfl) (by kernel_rfl) (by kernel_rfl) (listed' := #[true, true, true, true, false, false, false, false, false, false, false, false, false, false, false, false, false, false, false]) rfl (fun _ _ _ h => h) (fun _ hm => ⟨hm.blkI 0 rfl, hm.fact 0 rfl, hm.fact 1 rfl, hm.fact 2 rfl, hm.k, trivial⟩) (ov_add rfl rfl (by omega) (by omega)) rfl ?_
                  refine wa_set 87 (v' := .int .i64 ((i + mm : Nat) : Int)) rfl (congrArg (Value.int .i64) (by omega)) ?_
                  refine wa_take 4 rfl (by kernel_rfl) (by kernel_rfl) (by kernel_rfl) (listed' := #[true, true, true, true, true, false, false, false, false, false, false, false, false, false, false, false, false, false, false]) rfl (fun _ _ _ h => h) (fun _ hm => ⟨hm.blkI 0 rfl, hm.fact 0 rfl, hm.fact 1 rfl, hm.fact 2 rfl, hm.k, trivial⟩) (ov_index (j := i + mm) es171 rfl rfl (by omega)) rfl ?_
                  refine wa_take 5 rfl (by kernel_rfl) (by kernel_rfl) (by kernel_rfl) (listed' := #[true, true, true, true, true, true, false, false, false, false, false, false, false, false, false, false, false, false, false]) rfl (fun _ _ _ h => h) (fun _ hm => ⟨hm.blkI 0 rfl, hm.fact 0 rfl, hm.fact 1 rfl, hm.fact 2 rfl, hm.k, trivial⟩) (ov_elem1 (k := 0) (v := .pointer none) sc172 rfl (fun _ hm => (RowK.get (hm.2.2.2.2.1) wy_len hbl3)) hz rfl rfl) rfl ?_
                  refine wa_take 6 rfl (by kernel_rfl) (by kernel_rfl) (by kernel_rfl) (listed' := #[true, true, true, true, true, true, true, false, false, false, false, false, false, false, false, false, false, false, false]) rfl (fun _ _ _ h => h) (fun _ hm => ⟨hm.blkI 0 rfl, hm.fact 0 rfl, hm.fact 1 rfl, hm.fact 2 rfl, hm.k, trivial⟩) (ov_bin rfl rfl (fun _ => rfl)) rfl ?_
                  refine wa_take 7 rfl (by kernel_rfl) (by kernel_rfl) (by kernel_rfl) (listed' := #[true, true, true, true, true, true, true, true, false, false, false, false, false, false, false, false, false, false, false]) rfl (fun _ _ _ h => h) (fun _ hm => ⟨hm.blkI 0 rfl, hm.fact 0 rfl, hm.fact 1 rfl, hm.fact 2 rfl, hm.k, trivial⟩) (ov_move rfl) rfl ?_
                  refine wa_take_off 8 rfl rfl rfl (by decide) (by kernel_rfl) (by kernel_rfl) (by kernel_rfl) (listed' := #[true, true, true, true, true, true, true, true, true, false, false, false, false, false, false, false, false, false, false]) rfl (fun _ _ _ h => h) (fun _ hm => ⟨hm.blkI 0 rfl, hm.fact 0 rfl, hm.fact 1 rfl, hm.fact 2 rfl, hm.k, trivial⟩) rfl ?_
                  refine wa_take_off 9 rfl rfl rfl (by decide) (by kernel_rfl) (by kernel_rfl) (by kernel_rfl) (listed' := #[true, true, true, true, true, true, true, true, true, true, false, false, false, false, false, false, false, false, false]) rfl (fun _ _ _ h => h) (fun _ hm => ⟨hm.blkI 0 rfl, hm.fact 0 rfl, hm.fact 1 rfl, hm.fact 2 rfl, hm.k, trivial⟩) rfl ?_
                  refine wa_take_off 10 rfl rfl rfl (by decide) (by kernel_rfl) (by kernel_rfl) (by kernel_rfl) (listed' := #[true, true, true, true, true, true, true, true, true, true, true, false, false, false, false, false, false, false, false]) rfl (fun _ _ _ h => h) (fun _ hm => ⟨hm.blkI 0 rfl, hm.fact 0 rfl, hm.fact 1 rfl, hm.fact 2 rfl, hm.k, trivial⟩) rfl ?_
                  refine wa_take_off 11 rfl rfl rfl (by decide) (by kernel_rfl) (by kernel_rfl) (by kernel_rfl) (listed' := #[true, true, true, true, true, true, true, true, true, true, true, true, false, false, false, false, false, false, false]) rfl (fun _ _ _ h => h) (fun _ hm => ⟨hm.blkI 0 rfl, hm.fact 0 rfl, hm.fact 1 rfl, hm.fact 2 rfl, hm.k, trivial⟩) rfl ?_
                  refine wa_take_off 12 rfl rfl rfl (by decide) (by kernel_rfl) (by kernel_rfl) (by kernel_rfl) (listed' := #[true, true, true, true, true, true, true, true, true, true, true, true, true, false, false, false, false, false, false]) rfl (fun _ _ _ h => h) (fun _ hm => ⟨hm.blkI 0 rfl, hm.fact 0 rfl, hm.fact 1 rfl, hm.fact 2 rfl, hm.k, trivial⟩) rfl ?_
                  refine wa_take_off 13 rfl rfl rfl (by decide) (by kernel_rfl) (by kernel_rfl) (by kernel_rfl) (listed' := #[true, true, true, true, true, true, true, true, true, true, true, true, true, true, false, false, false, false, false]) rfl (fun _ _ _ h => h) (fun _ hm => ⟨hm.blkI 0 rfl, hm.fact 0 rfl, hm.fact 1 rfl, hm.fact 2 rfl, hm.k, trivial⟩) rfl ?_
                  refine wa_take_off 14 rfl rfl rfl (by decide) (by kernel_rfl) (by kernel_rfl) (by kernel_rfl) (listed' := #[true, true, true, true, true, true, true, true, true, true, true, true, true, true, true, false, false, false, false]) rfl (fun _ _ _ h => h) (fun _ hm => ⟨hm.blkI 0 rfl, hm.fact 0 rfl, hm.fact 1 rfl, hm.fact 2 rfl, hm.k, trivial⟩) rfl ?_
                  refine wa_take_off 15 rfl rfl rfl (by decide) (by kernel_rfl) (by kernel_rfl) (by kernel_rfl) (listed' := #[true, true, true, true, true, true, true, true, true, true, true, true, true, true, true, true, false, false, false]) rfl (fun _ _ _ h => h) (fun _ hm => ⟨hm.blkI 0 rfl, hm.fact 0 rfl, hm.fact 1 rfl, hm.fact 2 rfl, hm.k, trivial⟩) rfl ?_
                  refine wa_take_off 16 rfl rfl rfl (by decide) (by kernel_rfl) (by kernel_rfl) (by kernel_rfl) (listed' := #[true, true, true, true, true, true, true, true, true, true, true, true, true, true, true, true, true, false, false]) rfl (fun _ _ _ h => h) (fun _ hm => ⟨hm.blkI 0 rfl, hm.fact 0 rfl, hm.fact 1 rfl, hm.fact 2 rfl, hm.k, trivial⟩) rfl ?_
                  refine wa_take_off 17 rfl rfl rfl (by decide) (by kernel_rfl) (by kernel_rfl) (by kernel_rfl) (listed' := #[true, true, true, true, true, true, true, true, true, true, true, true, true, true, true, true, true, true, false]) rfl (fun _ _ _ h => h) (fun _ hm => ⟨hm.blkI 0 rfl, hm.fact 0 rfl, hm.fact 1 rfl, hm.fact 2 rfl, hm.k, trivial⟩) rfl ?_
                  refine wa_take 18 rfl (by kernel_rfl) (by kernel_rfl) (by kernel_rfl) (listed' := #[true, true, true, true, true, true, true, true, true, true, true, true, true, true, true, true, true, true, true]) rfl (fun _ _ _ h => h) (fun _ hm => ⟨hm.blkI 0 rfl, hm.fact 0 rfl, hm.fact 1 rfl, hm.fact 2 rfl, hm.k, trivial⟩) (ov_pick_t rfl rfl) rfl ?_
                  refine wa_done (by kernel_rfl) ?_
                  refine nx_then ?_
                  refine gw_cond rfl (fun _ => ?_) (fun hh => by cases hh)
                  refine gw_region ?_
                  refine wl_ov (ov_move rfl) rfl ?_
                  refine wl_ov (ov_move rfl) rfl ?_
                  refine wl_ov (ov_move rfl) rfl ?_
                  refine wl_ov (ov_add rfl rfl (by omega) (by omega)) rfl ?_
                  refine wl_set 106 (v' := .int .i64 ((i + mm : Nat) : Int)) rfl (congrArg (Value.int .i64) (by omega)) ?_
                  refine wl_ov (ov_index (j := i + mm) es171 rfl rfl (by omega)) rfl ?_
                  refine wl_storeRow (l := bs3) (j := i + mm) (r := 0) (el := none) (el' := some ⟨gx, xA, yn + 1, xc, yp ++ [(⟨kd, ((mm : Nat) : Int), cc⟩ : Pc)]⟩) rfl sc172 rfl rfl rfl wy_len rfl hz hbl3 (by decide) rfl rfl ?_
                  refine wl_nil ?_
                  refine nx_blk_nrm ?_
                  refine nx_then ?_
                  refine gw_region ?_
                  refine wl_ov (ov_move rfl) rfl ?_
                  refine wl_ov (ov_add rfl rfl (by omega) (by omega)) rfl ?_
                  refine wl_ov (ov_assign rfl) rfl ?_
                  refine wl_nil ?_
                  refine nx_unnest (c := ⟨123, w, none, [174, 79]⟩) (L' := [(gt, 170, [.slice A n c0, .string c, .int .i64 fr, .int .i64 tt, .int .i64 ((D : Nat) : Int)])]) (O' := [⟨.slice (some ⟨g4, 0, none⟩) (D + 1) (D + 1), 172, 1, (D + 1), (bs3.set (i + mm) (some ⟨gx, xA, yn + 1, xc, yp ++ [(⟨kd, ((mm : Nat) : Int), cc⟩ : Pc)]⟩)).flatMap wyEnc⟩]) (X' := [Way1 w.heap.size ⟨gx, xA, yn + 1, xc, yp ++ [(⟨kd, ((mm : Nat) : Int), cc⟩ : Pc)]⟩, Ways w.heap.size bs3, SlOld rtEnc 7 61 w.heap.size none A n l]) (K' := fun _ => True) rfl (fun wx hm => back_mem hm_w2 rfl hm (F := Way1 w.heap.size ⟨gx, xA, yn + 1, xc, yp ++ [(⟨kd, ((mm : Nat) : Int), cc⟩ : Pc)]⟩) (⟨(by have h := hm.blkI 0 rfl; rw [← pcSum_snoc yp ⟨kd, ((mm : Nat) : Int), cc⟩] at h; exact h), own_base (hm.ownI 0 rfl) hm_w2.g.size⟩) Way1.lasts) ?_
                  refine nx_also (Y := Ways w.heap.size (bs3.set (i + mm) (some ⟨gx, xA, yn + 1, xc, yp ++ [(⟨kd, ((mm : Nat) : Int), cc⟩ : Pc)]⟩))) (Ways.lasts) (fun wx hm => Ways.set (hm.fact 1 rfl) hXok (hm.fact 0 rfl)) ?_
                  exact nx_round (mm + 1, bs3.set (i + mm) (some ⟨gx, xA, yn + 1, xc, yp ++ [(⟨kd, ((mm : Nat) : Int), cc⟩ : Pc)]⟩)) ⟨⟨by dsimp only; omega, by dsimp only; omega⟩, by simp [hbl3], by rw [List.getElem?_set_ne (by omega)]; exact hx3, frow_take (y := ⟨yg, yA, yn, yc, yp⟩) (z := ⟨0, none, 0, 0, []⟩) hfr3 hby ⟨hk1, hk4⟩ ⟨by omega, by omega⟩ hpo rfl (.inl hz)⟩ (by dsimp only; omega) ⟨rfl, rfl, rfl, rfl, rfl, rfl, (some_int (by omega)), rfl, rfl, trivial⟩ (fun _ hm => hm.pick [0] [0] [0, 3] rfl rfl)
                · have hfz : Chain pr 0 (i + mm) zp := (hfr3 _ _ hz).1
                  have hsx : Chain pr 0 (i + mm) (yp ++ [(⟨kd, ((mm : Nat) : Int), cc⟩ : Pc)]) := chain_snoc hby.1 ⟨hk1, hk4, by dsimp only; omega, by dsimp only; omega, hpo⟩ (by dsimp only; omega)
                  refine gw_draw (fun wz => Blk wz gx 174 [.int .i64 (pcSum yp + cc), .slice xA (yn + 1) xc] ∧ (WaysO w2.heap.size (some g4) bs3) wz ∧ (SlOld rtEnc 7 61 w2.heap.size (some g4) A n l) wz ∧ (BlkOld w2.heap.size (some g4) gt 170 [.slice A n c0, .string c, .int .i64 fr, .int .i64 tt, .int .i64 ((D : Nat) : Int)]) wz ∧ (RowK w.heap.size 172 1 (D + 1) (D + 1) g4 (bs3.flatMap wyEnc)) wz ∧ True) mixed ?_
                  refine wa_take 0 rfl (by kernel_rfl) (by kernel_rfl) (by kernel_rfl) (listed' := #[true, false, false, false, false, false, false, false, false, false, false, false, false, false, false, false, false, false, false]) rfl (fun _ _ _ h => h) (fun _ hm => ⟨hm.blkI 0 rfl, hm.fact 0 rfl, hm.fact 1 rfl, hm.fact 2 rfl, hm.k, trivial⟩) (ov_move rfl) rfl ?_
                  refine wa_take 1 rfl (by kernel_rfl) (by kernel_rfl) (by kernel_rfl) (listed' := #[true, true, false, false, false, false, false, false, false, false, false, false, false, false, false, false, false, false, false]) rfl (fun _ _ _ h => h) (fun _ hm => ⟨hm.blkI 0 rfl, hm.fact 0 rfl, hm.fact 1 rfl, hm.fact 2 rfl, hm.k, trivial⟩) (ov_move rfl) rfl ?_
                  refine wa_take 2 rfl (by kernel_rfl) (by kernel_rfl) (by kernel_rfl) (listed' := #[true, true, true, false, false, false, false, false, false, false, false, false, false, false, false, false, false, false, false]) rfl (fun _ _ _ h => h) (fun _ hm => ⟨hm.blkI 0 rfl, hm.fact 0 rfl, hm.fact 1 rfl, hm.fact 2 rfl, hm.k, trivial⟩) (ov_move rfl) rfl ?_
                  refine wa_take 3 rfl (by kernel_rfl) (by kernel_rfl) (by kernel_rfl) (listed' := #[true, true, true, true, false, false, false, false, false, false, false, false, false, false, false, false, false, false, false]) rfl (fun _ _ _ h => h) (fun _ hm => ⟨hm.blkI 0 rfl, hm.fact 0 rfl, hm.fact 1 rfl, hm.fact 2 rfl, hm.k, trivial⟩) (ov_add rfl rfl (by omega) (by omega)) rfl ?_
                  refine wa_set 87 (v' := .int .i64 ((i + mm : Nat) : Int)) rfl (congrArg (Value.int .i64) (by omega)) ?_
                  refine wa_take 4 rfl (by kernel_rfl) (by kernel_rfl) (by kernel_rfl) (listed' := #[true, true, true, true, true, false, false, false, false, false, false, false, false, false, false, false, false, false, false]) rfl (fun _ _ _ h => h) (fun _ hm => ⟨hm.blkI 0 rfl, hm.fact 0 rfl, hm.fact 1 rfl, hm.fact 2 rfl, hm.k, trivial⟩) (ov_index (j := i + mm) es171 rfl rfl (by omega)) rfl ?_
                  refine wa_take 5 rfl (by kernel_rfl) (by kernel_rfl) (by kernel_rfl) (listed' := #[true, true, true, true, true, true, false, false, false, false, false, false, false, false, false, false, false, false, false]) rfl (fun _ _ _ h => h) (fun _ hm => ⟨hm.blkI 0 rfl, hm.fact 0 rfl, hm.fact 1 rfl, hm.fact 2 rfl, hm.k, trivial⟩) (ov_elem1 (k := 0) (v := .pointer (some ⟨zg, 0, none⟩)) sc172 rfl (fun _ hm => (RowK.get (hm.2.2.2.2.1) wy_len hbl3)) hz rfl rfl) rfl ?_
                  refine wa_take 6 rfl (by kernel_rfl) (by kernel_rfl) (by kernel_rfl) (listed' := #[true, true, true, true, true, true, true, false, false, false, false, false, false, false, false, false, false, false, false]) rfl (fun _ _ _ h => h) (fun _ hm => ⟨hm.blkI 0 rfl, hm.fact 0 rfl, hm.fact 1 rfl, hm.fact 2 rfl, hm.k, trivial⟩) (ov_bin rfl rfl (fun _ => rfl)) rfl ?_
                  refine wa_take 7 rfl (by kernel_rfl) (by kernel_rfl) (by kernel_rfl) (listed' := #[true, true, true, true, true, true, true, true, false, false, false, false, false, false, false, false, false, false, false]) rfl (fun _ _ _ h => h) (fun _ hm => ⟨hm.blkI 0 rfl, hm.fact 0 rfl, hm.fact 1 rfl, hm.fact 2 rfl, hm.k, trivial⟩) (ov_move rfl) rfl ?_
                  refine wa_take_on 8 rfl rfl rfl (by kernel_rfl) (by kernel_rfl) (by kernel_rfl) (listed' := #[true, true, true, true, true, true, true, true, true, false, false, false, false, false, false, false, false, false, false]) rfl (fun _ _ _ h => h) (fun _ hm => ⟨hm.blkI 0 rfl, hm.fact 0 rfl, hm.fact 1 rfl, hm.fact 2 rfl, hm.k, trivial⟩) (ov_loads rz174 rfl (fun _ hm => hm.1) rfl rfl) rfl ?_
                  refine wa_take_on 9 rfl rfl rfl (by kernel_rfl) (by kernel_rfl) (by kernel_rfl) (listed' := #[true, true, true, true, true, true, true, true, true, true, false, false, false, false, false, false, false, false, false]) rfl (fun _ _ _ h => h) (fun _ hm => ⟨hm.blkI 0 rfl, hm.fact 0 rfl, hm.fact 1 rfl, hm.fact 2 rfl, hm.k, trivial⟩) (ov_move rfl) rfl ?_
                  refine wa_take_on 10 rfl rfl rfl (by kernel_rfl) (by kernel_rfl) (by kernel_rfl) (listed' := #[true, true, true, true, true, true, true, true, true, true, true, false, false, false, false, false, false, false, false]) rfl (fun _ _ _ h => h) (fun _ hm => ⟨hm.blkI 0 rfl, hm.fact 0 rfl, hm.fact 1 rfl, hm.fact 2 rfl, hm.k, trivial⟩) (ov_move rfl) rfl ?_
                  refine wa_take_on 11 rfl rfl rfl (by kernel_rfl) (by kernel_rfl) (by kernel_rfl) (listed' := #[true, true, true, true, true, true, true, true, true, true, true, true, false, false, false, false, false, false, false]) rfl (fun _ _ _ h => h) (fun _ hm => ⟨hm.blkI 0 rfl, hm.fact 0 rfl, hm.fact 1 rfl, hm.fact 2 rfl, hm.k, trivial⟩) (ov_move rfl) rfl ?_
                  refine wa_take_on 12 rfl rfl rfl (by kernel_rfl) (by kernel_rfl) (by kernel_rfl) (listed' := #[true, true, true, true, true, true, true, true, true, true, true, true, true, false, false, false, false, false, false]) rfl (fun _ _ _ h => h) (fun _ hm => ⟨hm.blkI 0 rfl, hm.fact 0 rfl, hm.fact 1 rfl, hm.fact 2 rfl, hm.k, trivial⟩) (ov_add rfl rfl (by omega) (by omega)) rfl ?_
                  refine wa_set 96 (v' := .int .i64 ((i + mm : Nat) : Int)) rfl (congrArg (Value.int .i64) (by omega)) ?_
                  refine wa_take_on 13 rfl rfl rfl (by kernel_rfl) (by kernel_rfl) (by kernel_rfl) (listed' := #[true, true, true, true, true, true, true, true, true, true, true, true, true, true, false, false, false, false, false]) rfl (fun _ _ _ h => h) (fun _ hm => ⟨hm.blkI 0 rfl, hm.fact 0 rfl, hm.fact 1 rfl, hm.fact 2 rfl, hm.k, trivial⟩) (ov_index (j := i + mm) es171 rfl rfl (by omega)) rfl ?_
                  refine wa_take_on 14 rfl rfl rfl (by kernel_rfl) (by kernel_rfl) (by kernel_rfl) (listed' := #[true, true, true, true, true, true, true, true, true, true, true, true, true, true, true, false, false, false, false]) rfl (fun _ _ _ h => h) (fun _ hm => ⟨hm.blkI 0 rfl, hm.fact 0 rfl, hm.fact 1 rfl, hm.fact 2 rfl, hm.k, trivial⟩) (ov_elem1 (k := 0) (v := .pointer (some ⟨zg, 0, none⟩)) sc172 rfl (fun _ hm => (RowK.get (hm.2.2.2.2.1) wy_len hbl3)) hz rfl rfl) rfl ?_
                  refine wa_take_on 15 rfl rfl rfl (by kernel_rfl) (by kernel_rfl) (by kernel_rfl) (listed' := #[true, true, true, true, true, true, true, true, true, true, true, true, true, true, true, true, false, false, false]) rfl (fun _ _ _ h => h) (fun _ hm => ⟨hm.blkI 0 rfl, hm.fact 0 rfl, hm.fact 1 rfl, hm.fact 2 rfl, hm.k, trivial⟩) (ov_nilcheck rfl) rfl ?_
                  refine wa_take_on 16 rfl rfl rfl (by kernel_rfl) (by kernel_rfl) (by kernel_rfl) (listed' := #[true, true, true, true, true, true, true, true, true, true, true, true, true, true, true, true, true, false, false]) rfl (fun _ _ _ h => h) (fun _ hm => ⟨hm.blkI 0 rfl, hm.fact 0 rfl, hm.fact 1 rfl, hm.fact 2 rfl, hm.k, trivial⟩) (ov_loads (vs := [.int .i64 (pcSum zp), .slice zA zn zc]) rz174 rfl (fun _ hm => ((hm.2.1) ⟨zg, zA, zn, zc, zp⟩ (List.mem_of_getElem? hz)).1.2) rfl rfl) rfl ?_
                  refine wa_all [17] (by kernel_rfl) rfl ⟨⟨_, rfl, ?_⟩, trivial⟩
                  refine wl_guard_on rfl rfl rfl ?_
                  refine wl_callv (v := .bool (wltB (pcSum (yp ++ [(⟨kd, ((mm : Nat) : Int), cc⟩ : Pc)])) (pcSum zp) (yp ++ [(⟨kd, ((mm : Nat) : Int), cc⟩ : Pc)]) zp)) rfl cb116 rfl rfl (fun wx hm => (by have h := lessWay_any (pcSum yp + cc) (pcSum zp) (yp ++ [(⟨kd, ((mm : Nat) : Int), cc⟩ : Pc)]) zp xA zA (yn + 1) zn xc zc wx (SlT.ofOwn pc_len (hm.ownI 0 rfl) (by simp [hyl])) ((hm.fact 0 rfl) ⟨zg, zA, zn, zc, zp⟩ (List.mem_of_getElem? hz)).2.1 (by omega) (chain_small hsx) (chain_small hfz); rw [show pcSum yp + cc = pcSum (yp ++ [(⟨kd, ((mm : Nat) : Int), cc⟩ : Pc)]) from (pcSum_snoc yp ⟨kd, ((mm : Nat) : Int), cc⟩).symm] at h ⊢; exact h)) ?_
                  refine wl_nil ?_
                  refine nx_wa0 (listed' := #[true, true, true, true, true, true, true, true, true, true, true, true, true, true, true, true, true, true, false]) rfl (fun _ hm => ⟨hm.blkI 0 rfl, hm.fact 0 rfl, hm.fact 1 rfl, hm.fact 2 rfl, hm.k, trivial⟩) ?_
                  refine wa_take 18 rfl (by kernel_rfl) (by kernel_rfl) (by kernel_rfl) (listed' := #[true, true, true, true, true, true, true, true, true, true, true, true, true, true, true, true, true, true, true]) rfl (fun _ _ _ h => h) (fun _ hm => ⟨hm.blkI 0 rfl, hm.fact 0 rfl, hm.fact 1 rfl, hm.fact 2 rfl, hm.k, trivial⟩) (ov_pick_f rfl rfl) rfl ?_
                  refine wa_done (by kernel_rfl) ?_
                  refine nx_then ?_
                  refine gw_cond rfl (fun hh => ?_) (fun hh => ?_)
                  · have hwb : (wltB (pcSum (yp ++ [(⟨kd, ((mm : Nat) : Int), cc⟩ : Pc)])) (pcSum zp) (yp ++ [(⟨kd, ((mm : Nat) : Int), cc⟩ : Pc)]) zp) = true := by simpa using hh
                    clear hh
                    refine gw_region ?_
                    have hwl : WLt (yp ++ [(⟨kd, ((mm : Nat) : Int), cc⟩ : Pc)]) zp := wltB_iff.1 hwb
                    refine wl_ov (ov_move rfl) rfl ?_
                    refine wl_ov (ov_move rfl) rfl ?_
                    refine wl_ov (ov_move rfl) rfl ?_
                    refine wl_ov (ov_add rfl rfl (by omega) (by omega)) rfl ?_
                    refine wl_set 106 (v' := .int .i64 ((i + mm : Nat) : Int)) rfl (congrArg (Value.int .i64) (by omega)) ?_
                    refine wl_ov (ov_index (j := i + mm) es171 rfl rfl (by omega)) rfl ?_
                    refine wl_storeRow (l := bs3) (j := i + mm) (r := 0) (el := (some ⟨zg, zA, zn, zc, zp⟩)) (el' := some ⟨gx, xA, yn + 1, xc, yp ++ [(⟨kd, ((mm : Nat) : Int), cc⟩ : Pc)]⟩) rfl sc172 rfl rfl rfl wy_len rfl hz hbl3 (by decide) rfl rfl ?_
                    refine wl_nil ?_
                    refine nx_blk_nrm ?_
                    refine nx_then ?_
                    refine gw_region ?_
                    refine wl_ov (ov_move rfl) rfl ?_
                    refine wl_ov (ov_add rfl rfl (by omega) (by omega)) rfl ?_
                    refine wl_ov (ov_assign rfl) rfl ?_
                    refine wl_nil ?_
                    refine nx_unnest (c := ⟨123, w, none, [174, 79]⟩) (L' := [(gt, 170, [.slice A n c0, .string c, .int .i64 fr, .int .i64 tt, .int .i64 ((D : Nat) : Int)])]) (O' := [⟨.slice (some ⟨g4, 0, none⟩) (D + 1) (D + 1), 172, 1, (D + 1), (bs3.set (i + mm) (some ⟨gx, xA, yn + 1, xc, yp ++ [(⟨kd, ((mm : Nat) : Int), cc⟩ : Pc)]⟩)).flatMap wyEnc⟩]) (X' := [Way1 w.heap.size ⟨gx, xA, yn + 1, xc, yp ++ [(⟨kd, ((mm : Nat) : Int), cc⟩ : Pc)]⟩, Ways w.heap.size bs3, SlOld rtEnc 7 61 w.heap.size none A n l]) (K' := fun _ => True) rfl (fun wx hm => back_mem hm_w2 rfl hm (F := Way1 w.heap.size ⟨gx, xA, yn + 1, xc, yp ++ [(⟨kd, ((mm : Nat) : Int), cc⟩ : Pc)]⟩) (⟨(by have h := hm.blkI 0 rfl; rw [← pcSum_snoc yp ⟨kd, ((mm : Nat) : Int), cc⟩] at h; exact h), own_base (hm.ownI 0 rfl) hm_w2.g.size⟩) Way1.lasts) ?_
                    refine nx_also (Y := Ways w.heap.size (bs3.set (i + mm) (some ⟨gx, xA, yn + 1, xc, yp ++ [(⟨kd, ((mm : Nat) : Int), cc⟩ : Pc)]⟩))) (Ways.lasts) (fun wx hm => Ways.set (hm.fact 1 rfl) hXok (hm.fact 0 rfl)) ?_
                    exact nx_round (mm + 1, bs3.set (i + mm) (some ⟨gx, xA, yn + 1, xc, yp ++ [(⟨kd, ((mm : Nat) : Int), cc⟩ : Pc)]⟩)) ⟨⟨by dsimp only; omega, by dsimp only; omega⟩, by simp [hbl3], by rw [List.getElem?_set_ne (by omega)]; exact hx3, frow_take (y := ⟨yg, yA, yn, yc, yp⟩) (z := ⟨zg, zA, zn, zc, zp⟩) hfr3 hby ⟨hk1, hk4⟩ ⟨by omega, by omega⟩ hpo rfl (.inr ⟨hz, hwl⟩)⟩ (by dsimp only; omega) ⟨rfl, rfl, rfl, rfl, rfl, rfl, (some_int (by omega)), rfl, rfl, trivial⟩ (fun _ hm => hm.pick [0] [0] [0, 3] rfl rfl)
                  · have hwb : (wltB (pcSum (yp ++ [(⟨kd, ((mm : Nat) : Int), cc⟩ : Pc)])) (pcSum zp) (yp ++ [(⟨kd, ((mm : Nat) : Int), cc⟩ : Pc)]) zp) = false := by simpa using hh
                    clear hh
                    refine gw_skip ?_
                    refine nx_blk_nrm ?_
                    refine nx_then ?_
                    refine gw_region ?_
                    have hwl : ¬ WLt (yp ++ [(⟨kd, ((mm : Nat) : Int), cc⟩ : Pc)]) zp := fun h => by rw [wltB_iff.2 h] at hwb; cases hwb
                    refine wl_ov (ov_move rfl) rfl ?_
                    refine wl_ov (ov_add rfl rfl (by omega) (by omega)) rfl ?_
                    refine wl_ov (ov_assign rfl) rfl ?_
                    refine wl_nil ?_
                    refine nx_unnest (c := ⟨123, w, none, [174, 79]⟩) (L' := [(gt, 170, [.slice A n c0, .string c, .int .i64 fr, .int .i64 tt, .int .i64 ((D : Nat) : Int)])]) (O' := [⟨.slice (some ⟨g4, 0, none⟩) (D + 1) (D + 1), 172, 1, (D + 1), (bs3).flatMap wyEnc⟩]) (X' := [(fun _ => True), Ways w.heap.size bs3, SlOld rtEnc 7 61 w.heap.size none A n l]) (K' := fun _ => True) rfl (fun wx hm => back_mem hm_w2 rfl hm (F := fun _ => True) trivial Lasts2.true_) ?_
                    exact nx_round (mm + 1, bs3) ⟨⟨by dsimp only; omega, by dsimp only; omega⟩, hbl3, hx3, frow_keep (y := ⟨yg, yA, yn, yc, yp⟩) (z := ⟨zg, zA, zn, zc, zp⟩) hfr3 hby ⟨hk1, hk4⟩ ⟨by omega, by omega⟩ hpo hz hwl⟩ (by dsimp only; omega) ⟨rfl, rfl, rfl, rfl, rfl, rfl, (some_int (by omega)), rfl, rfl, trivial⟩ (fun _ hm => hm.pick [0] [0] [1, 2] rfl rfl)
          · have hm7 : ¬ (((mm : Nat) : Int) ≤ 7) := by simpa using hh
            clear hh
            refine gw_exit ?_
            refine nx_then_exit ?_
            refine nx_then_exit ?_
            refine nx_blk_here ?_
            refine nx_blk_nrm ?_
            refine nx_then ?_
            refine gw_region ?_
            have hm8 : mm = 8 := by omega
            subst hm8
            refine wl_ov (ov_move rfl) rfl ?_
            refine wl_ov (ov_add rfl rfl (by omega) (by omega)) rfl ?_
            refine wl_ov (ov_assign rfl) rfl ?_
            refine wl_nil ?_
            exact nx_round (kd + 1, bs3) ⟨⟨by dsimp only; omega, by dsimp only; omega⟩, hbl3, hx3, frow_kind hfr3⟩ (by dsimp only; omega) ⟨rfl, rfl, rfl, rfl, rfl, rfl, rfl, rfl, trivial⟩ (fun _ hm => hm.pick [0] [0] [0, 1] rfl rfl)
        · have hk4 : ¬ (kd ≤ 4) := by simpa using hh
          clear hh
          refine gw_exit ?_
          refine nx_then_exit ?_
          refine nx_then_exit ?_
          refine nx_blk_here ?_
          refine nx_blk_nrm ?_
          refine nx_then ?_
          refine gw_region ?_
          have hk5 : kd = 5 := by omega
          subst hk5
          refine wl_ov (ov_add rfl rfl (by omega) (by omega)) rfl ?_
          refine wl_ov (ov_move rfl) rfl ?_
          refine wl_nil ?_
          exact nx_round (i + 1, bs2) ⟨by dsimp only; omega, hbl2, frow_next hfr2⟩ (by dsimp only; omega) ⟨rfl, rfl, rfl, rfl, rfl, (some_int (by omega)), trivial⟩ (fun _ hm => hm.pick [0] [0] [0, 1] rfl rfl)
    · have hiD : ¬ (((i : Nat) : Int) < ((D : Nat) : Int)) := by simpa using hh
      clear hh
      refine gw_exit ?_
      refine nx_then_exit ?_
      refine nx_then_exit ?_
      refine nx_blk_here ?_
      refine nx_then ?_
      refine gw_seq ?_
      refine gw_seq ?_
      refine gw_region ?_
      have hiD2 : i = D := by omega
      subst hiD2
      obtain ⟨x, hx⟩ : ∃ x, bs[i]? = some x := ⟨_, List.getElem?_eq_getElem (by omega)⟩
      rcases x with _ | ⟨zg, zA, zn, zc, zp⟩
      · refine wl_ov (ov_move rfl) rfl ?_
        refine wl_ov (ov_field fo170_3 rfl rfl) rfl ?_
        refine wl_ov (ov_load sc3 rfl (fun _ hm => hm.blkI 0 rfl) rfl) rfl ?_
        refine wl_ov (ov_index (j := i) es171 rfl rfl (by omega)) rfl ?_
        refine wl_ov (ov_elem1 (k := 0) (v := .pointer none) sc172 rfl (fun _ hm => (SlT.ofOwn wy_len (hm.ownI 0 rfl) hbl)) hx rfl rfl) rfl ?_
        refine wl_ov (ov_bin rfl rfl (fun _ => rfl)) rfl ?_
        refine wl_nil ?_
        refine nx_then ?_
        refine gw_cond rfl (fun _ => ?_) (fun hh => by cases hh)
        refine gw_seq ?_
        refine gw_region ?_
        refine wl_ov (ov_assign rfl) rfl ?_
        refine wl_ov (ov_assign rfl) rfl ?_
        refine wl_nil ?_
        refine nx_then ?_
        refine gw_ret ?_
        refine nx_then_ret ?_
        refine nx_ret2 rfl rfl rfl fun wx hm => ?_
        have hdead := (fcur_best (hfr i none hx)).1 rfl
        exact ⟨none, 0, 0, [], false, rfl, hm.g, ⟨rfl, .inl ⟨rfl, rfl⟩⟩, .inr ⟨rfl, rfl, by rw [← hpr, ← hD]; exact hdead⟩, rfl, fun _ => ⟨rfl, rfl⟩⟩
      · have hbz := frow_best hfr hx
        refine wl_ov (ov_move rfl) rfl ?_
        refine wl_ov (ov_field fo170_3 rfl rfl) rfl ?_
        refine wl_ov (ov_load sc3 rfl (fun _ hm => hm.blkI 0 rfl) rfl) rfl ?_
        refine wl_ov (ov_index (j := i) es171 rfl rfl (by omega)) rfl ?_
        refine wl_ov (ov_elem1 (k := 0) (v := .pointer (some ⟨zg, 0, none⟩)) sc172 rfl (fun _ hm => (SlT.ofOwn wy_len (hm.ownI 0 rfl) hbl)) hx rfl rfl) rfl ?_
        refine wl_ov (ov_bin rfl rfl (fun _ => rfl)) rfl ?_
        refine wl_nil ?_
        refine nx_then ?_
        refine gw_cond rfl (fun hh => by cases hh) (fun _ => ?_)
        refine gw_skip ?_
        refine nx_then ?_
        refine gw_seq ?_
        refine gw_region ?_
        refine wl_ov (ov_move rfl) rfl ?_
        refine wl_ov (ov_field fo170_3 rfl rfl) rfl ?_
        refine wl_ov (ov_load sc3 rfl (fun _ hm => hm.blkI 0 rfl) rfl) rfl ?_
        refine wl_ov (ov_index (j := i) es171 rfl rfl (by omega)) rfl ?_
        refine wl_ov (ov_elem1 (k := 0) (v := .pointer (some ⟨zg, 0, none⟩)) sc172 rfl (fun _ hm => (SlT.ofOwn wy_len (hm.ownI 0 rfl) hbl)) hx rfl rfl) rfl ?_
        refine wl_ov (ov_nilcheck rfl) rfl ?_
        refine wl_ov (ov_field fo174_1 rfl rfl) rfl ?_
        refine wl_ov (ov_load (v := .slice zA zn zc) sc72 rfl (fun _ hm => ((hm.fact 0 rfl) ⟨zg, zA, zn, zc, zp⟩ (List.mem_of_getElem? hx)).2.1) rfl) rfl ?_
        refine wl_ov (ov_assign rfl) rfl ?_
        refine wl_ov (ov_assign rfl) rfl ?_
        refine wl_nil ?_
        refine nx_then ?_
        refine gw_ret ?_
        refine nx_ret2 rfl rfl rfl fun wx hm => ?_
        obtain ⟨ho, hw⟩ := (hm.fact 0 rfl) ⟨zg, zA, zn, zc, zp⟩ (List.mem_of_getElem? hx)
        have hle := chain_le hbz.1
        have hzl : zp.length = zn := ho.1
        dsimp only at hle
        exact ⟨zA, zn, zc, zp, true, rfl, hm.g, hw.2, .inl ⟨rfl, by rw [← hpr, ← hD]; exact hbz⟩, hzl, ho.2⟩

end Go.Proofs.YtmpomocahgcebaaDoor
