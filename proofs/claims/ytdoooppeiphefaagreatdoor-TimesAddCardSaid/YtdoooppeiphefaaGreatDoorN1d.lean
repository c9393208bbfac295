/- Several texts as one: Ba Cv Gm Gw Gx Gy Clr Cq Gz Wo Ci Rw Rx Gs Eh Gp Ej Rt2 Ek Zf Lo El -/
import Derived.Test.YtdoooppeiphefaaGreatDoorN1c
import Derived.RangeFuncNested
import Derived.RangeFuncBound
import Derived.RangeFuncCalls
import Derived.RangeFuncLeaves
import Derived.Shelf.Abstract
import Derived.Shelf.RegionOpen
import Derived.WalkKit
import Derived.OwnWalkIn
import Derived.TacticsInMore
import Derived.LoopNIn
import Derived.LoopIn
import Derived.Test.YtdoooppeiphefaaGreatDoorN1a
import Derived.OneCell
import Derived.Test.YtdoooppeiphefaaGreatDoorN1b
import Derived.Shelf.Sort.Plain
set_option maxRecDepth 100000
set_option maxHeartbeats 4000000
namespace Go.Proofs.YtdoooppeiphefaaGreatDoor
open Go.RowKit Go.Shelf
attribute [local go_sem] Oper.semAt_some
/-- What has come when k rounds are over: from the end. -/
def backs (zs : List Sa) (k : Nat) : List (Nat × Sa) := (List.range k).map fun j => (zs.length - 1 - j, zs[zs.length - 1 - j]?.getD sa0)
theorem backs_succ (zs : List Sa) (k : Nat) : backs zs (k + 1) = backs zs k ++ [(zs.length - 1 - k, zs[zs.length - 1 - k]?.getD sa0)] := by simp [backs, List.range_succ]
theorem backs_len (zs : List Sa) (k : Nat) : (backs zs k).length = k := by simp [backs]
set_option maxRecDepth 100000 in
set_option maxHeartbeats 4000000 in
/-- The closure: for every loop body that keeps what lay below n₀. -/
theorem back1_in (F : Fence) (n : Nat) (hfn : F.fn 272) (hro : F.round = none) (hn : 1 ≤ n) (l Bs n₀ b off cap : Nat) (zs : List Sa) (hz : zs.length ≤ 1000000) (hb : b < n₀) (hB : Bs < n₀) (J Jx : List (Nat × Sa) → World → Prop)
    (hY : ∀ pre x W, J pre W → pre.length < zs.length → YieldAt F (n - 1) Tryz.prog l #[.int .i64 (x.1 : Int), .agg #[.int .i64 x.2.st, .string x.2.sta, .int .i64 x.2.since]] W fun e W' =>
      (e = .returned (.bool true) ∧ J (pre ++ [x]) W' ∧ Below n₀ W W') ∨ (e = .returned (.bool false) ∧ Jx (pre ++ [x]) W'))
    (W : World) (hBs : W.cell? ⟨Bs, 0, none⟩ = some (.slice (some ⟨b, off, none⟩) zs.length cap)) (hc : ∀ j x, zs[j]? = some x → W.rangeAt b (off + j * 3) (saEnc x)) (h0 : J [] W) :
    CallsIn F n Tryz.prog 272 #[.func (.yield l) #[] #[], .pointer (some ⟨Bs, 0, none⟩)] W fun e W' => (∃ v, e = .returned v) ∧
      ((∃ ys, ys = backs zs zs.length ∧ J ys W') ∨ (∃ pre, (∃ k, k ≤ zs.length ∧ pre = backs zs k) ∧ Jx pre W')) := by
  refine callsIn_of_wp Tryz.func272 rfl hfn ?_ hro
  simp only [Tryz.ntmps272, List.size_toArray, List.length_cons, List.length_nil, Nat.reduceAdd, Nat.reduceSub, Array.replicate_succ, Array.replicate_zero, List.push_toArray, List.append_toArray, List.nil_append, List.cons_append]
  have hw0 : IntKind.i64.wrap ((zs.length : Int) - 1) = (zs.length : Int) - 1 := IntWalk.i64_in _ (by omega)
  gi_wp2
  gi_loopw [3] (fun i wr => ∃ m : Nat, m ≤ zs.length ∧ i = .int .i64 ((m : Int) - 1) ∧ J (backs zs (zs.length - m)) wr ∧ Below n₀ W wr)
    (fun i _ => (intOf i + 1).toNat)
  case atStart => exact ⟨zs.length, Nat.le_refl _, rfl, by rw [Nat.sub_self]; exact h0, Below.refl _ _⟩
  case round =>
    obtain ⟨m, hm, rfl, hJs, hnx⟩ := hrel
    have hBr : wr.cell? ⟨Bs, 0, none⟩ = some (.slice (some ⟨b, off, none⟩) zs.length cap) := (hnx.cell (p := ⟨Bs, 0, none⟩) hB).trans hBs
    rcases m with _ | j
    · gi_wp2
      go_end0
      exact ⟨⟨_, rfl⟩, .inl ⟨_, rfl, by simpa using hJs⟩⟩
    · have ej : ((j + 1 : Nat) : Int) - 1 = (j : Int) := by omega
      rw [ej]
      have hlt : j < zs.length := by omega
      obtain ⟨x, hx⟩ : ∃ x, zs[j]? = some x := ⟨_, List.getElem?_eq_getElem hlt⟩
      have hr := hc j x hx
      have k0 : wr.cell? ⟨b, off + j * 3, none⟩ = some (.int .i64 x.st) := (hnx.cell (p := ⟨b, off + j * 3, none⟩) hb).trans (hr 0 _ rfl)
      have k1 : wr.cell? ⟨b, off + j * 3 + 1, none⟩ = some (.string x.sta) := (hnx.cell (p := ⟨b, off + j * 3 + 1, none⟩) hb).trans (hr 1 _ rfl)
      have k2 : wr.cell? ⟨b, off + j * 3 + 2, none⟩ = some (.int .i64 x.since) := (hnx.cell (p := ⟨b, off + j * 3 + 2, none⟩) hb).trans (hr 2 _ rfl)
      have hjx : zs.length - 1 - (zs.length - (j + 1)) = j := by omega
      have hbk := backs_succ zs (zs.length - (j + 1))
      rw [hjx, hx, show zs.length - (j + 1) + 1 = zs.length - j by omega] at hbk
      obtain ⟨fn, tmps, assign, body, hy, hR⟩ := hY _ (j, x) wr hJs (by rw [backs_len]; omega)
      dsimp only at hy
      have hw1 : IntKind.i64.wrap ((j : Int) - 1) = (j : Int) - 1 := IntWalk.i64_in _ (by omega)
      gi_wp2
      refine hR.mono ?_
      rintro e W3 (⟨rfl, hJ3, hk3⟩ | ⟨rfl, hJx3⟩)
      · gi_wp2
        go_roundw
        case rel => exact ⟨j, by omega, by first | rfl | rw [hw1], by rw [hbk]; exact hJ3, hnx.trans hk3⟩
        case measure => simp [intOf]
      · gi_wp2
        refine bodyPost_ret (results_none rfl _ _ _) rfl ?_
        exact ⟨⟨_, rfl⟩, .inr ⟨_, ⟨zs.length - j, by omega, hbk.symm⟩, hJx3⟩⟩
set_option maxHeartbeats 1000000 in
theorem backward_in (F : Fence) (n : Nat) (hfn : F.fn 185) (hro : F.round = none) (a : Option Addr) (len cap : Nat) (w : World) :
    CallsIn F n Tryz.prog 185 #[.slice a len cap] w fun e w' => e = .returned (.func (.func 272) #[] #[.pointer (some ⟨w.heap.size, 0, none⟩)]) ∧ w' = w.alloc (.cells #[.slice a len cap] 151) := by
  refine callsIn_of_wp Tryz.func185 rfl hfn ?_ hro
  simp only [Tryz.ntmps185, List.size_toArray, List.length_cons, List.length_nil, Nat.reduceAdd, Nat.reduceSub, Array.replicate_succ, Array.replicate_zero, List.push_toArray, List.append_toArray, List.nil_append, List.cons_append]
  gi_wp2
  go_ret
  exact ⟨rfl, rfl⟩
theorem back_stops (F : Fence) (n : Nat) (hfn : F.fn 272) (hro : F.round = none) (hn : 1 ≤ n) (Bs n₀ b off cap : Nat) (zs : List Sa) (hz : zs.length ≤ 1000000) (hb : b < n₀) (hB : Bs < n₀) (w : World) (hn₀ : n₀ ≤ w.heap.size)
    (hBs : w.cell? ⟨Bs, 0, none⟩ = some (.slice (some ⟨b, off, none⟩) zs.length cap)) (hc : ∀ j x, zs[j]? = some x → w.rangeAt b (off + j * 3) (saEnc x)) :
    SeqStopsK F n Tryz.prog 272 #[.pointer (some ⟨Bs, 0, none⟩)] (fun x : Nat × Sa => #[Value.int .i64 (x.1 : Int), .agg #[.int .i64 x.2.st, .string x.2.sta, .int .i64 x.2.since]]) (Below n₀) (fun ys => ys = backs zs zs.length)
      (fun pre => ∃ k, k ≤ zs.length ∧ pre = backs zs k) zs.length w := fun l J Jx W hW _ _ hY h0 =>
  back1_in F n hfn hro hn l Bs n₀ b off cap zs hz hb hB J Jx hY W ((hW.cell (p := ⟨Bs, 0, none⟩) (Nat.lt_of_lt_of_le hB hn₀)).trans hBs)
    (fun j x hx k v hv => (hW.cell (p := ⟨b, off + j * 3 + k, none⟩) (Nat.lt_of_lt_of_le hb hn₀)).trans (hc j x hx k v hv)) h0
theorem backs_snd (zs : List Sa) : ∀ k, k ≤ zs.length → (backs zs k).map (·.2) = zs.reverse.take k
  | 0, _ => by simp [backs]
  | k + 1, h => by
    have hk : k < zs.reverse.length := by rw [List.length_reverse]; exact h
    rw [backs_succ, List.map_append, backs_snd zs k (by omega), List.take_succ_eq_append_getElem hk]
    simp only [List.map_cons, List.map_nil, List.getElem_reverse]
    rw [List.getElem?_eq_getElem (by omega)]; rfl
theorem stateR_stop {l : List Ev} {v : ByteArray} {mt : Int} {k : Nat} {ini : List (Nat × Sa)} {z : Nat × Sa} (hk : k ≤ (stages l v).length) (he : ini ++ [z] = backs (stages l v) k) (hi : ∀ p ∈ ini, mt < p.2.since) (hz : z.2.since ≤ mt) : stateR l v mt = z.2 := by
  have h1 := backs_snd _ k hk
  rw [← he, List.map_append] at h1
  unfold stateR
  rw [← List.take_append_drop k (stages l v).reverse, ← h1, List.append_assoc, List.find?_append, List.find?_eq_none.2 (fun x hx => by
    obtain ⟨p, hp, rfl⟩ := List.mem_map.1 hx
    have := hi p hp
    simp; omega)]
  simp [hz]
theorem stateR_done {l : List Ev} {v : ByteArray} {mt : Int} (hi : ∀ p ∈ backs (stages l v) (stages l v).length, mt < p.2.since) : stateR l v mt = sa0 := by
  have h1 := backs_snd (stages l v) _ (Nat.le_refl _)
  rw [List.take_of_length_le (by simp)] at h1
  unfold stateR
  rw [← h1, List.find?_eq_none.2 (fun x hx => by
    obtain ⟨p, hp, rfl⟩ := List.mem_map.1 hx
    have := hi p hp
    simp; omega)]; rfl
theorem blk_own {β : Type} (B : Nat) (t : TypeId) (f : β → List Value) : Go.Own (fun s W => Blk W B t (f s)) := fun s X Y row hs hg hr => Blk.grown hs hg (fun e => by
  obtain ⟨o, ho, hc⟩ := hr B e.symm
  have h2 : X.heap[B]? = some (.cells (f s).toArray t (0, 0)) := hs
  rw [h2] at ho
  cases ho; cases hc)
theorem grown_of_below {w w' : World} (h : Below w.heap.size w w') : w.grownBy w' none := ⟨h.os, h.tape, h.output, h.size, fun k hk _ => h.block k hk⟩
set_option maxRecDepth 100000 in
set_option maxHeartbeats 8000000 in
theorem rStateAt_any (l : List Ev) (A : Option Addr) (n c0 : Nat) (v : ByteArray) (mt : Int) (w : World) (hl : SlT evEnc 5 105 w A n l) (hn : n ≤ 100000) :
    Calls Tryz.prog 86 #[.slice A n c0, .string v, .int .i64 mt] w (fun e w' => e = .returned (.agg #[.int .i64 (stateR l v mt).st, .string (stateR l v mt).sta, .int .i64 (stateR l v mt).since]) ∧ w.grownBy w' none) := by
  refine (callsIn_wide (n := 9)).1 ?_
  refine callsIn_of_wp_marks Tryz.func86 rfl trivial ?_ rfl
  simp only [Tryz.ntmps86, List.size_toArray, List.length_cons, List.length_nil, Nat.reduceAdd, Nat.reduceSub, Array.replicate_succ, Array.replicate_zero, List.push_toArray, List.append_toArray, List.nil_append, List.cons_append]
  gi_wp2_with (refine ⟨trivial, ?_⟩; gi_at_call 77; refine (callsIn_wide.2 (stages_any l A n c0 v _ ((hl.alloc _).alloc _) hn)).mono ?_; rintro e w3 ⟨A1, n1, c1, A2, n2, c2, rfl, ho1, hz1, ho2, hz2, hn1, hn2, hg⟩)
  obtain ⟨b, off, rfl, hbl, hrows⟩ := (SlT.ofOwn sa_len ho1 hz1).get (by rw [← hz1]; simp [stages])
  subst hz1
  have hls : (stages l v).length ≤ 1000000 := by omega
  clear ho2 hz2 hn1 hn2 ho1
  have hsz3 : w.heap.size + 2 ≤ w3.heap.size := by
    have := hg.size
    simp at this
    omega
  have bM : Blk w3 w.heap.size 3 [.int .i64 mt] := Blk.grown (Blk.grown (Blk.at_ w rfl 3 [.int .i64 mt]) (grow_alloc (World.grownBy.refl _ none) _) (by simp)) hg (by simp)
  have bR : Blk w3 (w.heap.size + 1) 142 [.int .i64 0, .string ⟨#[]⟩, .int .i64 0] := Blk.grown (Blk.at_ (w.alloc (.cells #[.int .i64 mt] 3)) (by simp) 142 [.int .i64 0, .string ⟨#[]⟩, .int .i64 0]) hg (by simp)
  have hB3 : Below w.heap.size w w3 := by
    have h2 : Below w.heap.size w ((w.alloc (.cells #[.int .i64 mt] 3)).alloc (.cells #[.int .i64 0, .string ⟨#[]⟩, .int .i64 0] 142)) := ((Below.refl _ w).alloc (Nat.le_refl _) _).alloc (by simp) _
    exact h2.trans ⟨hg.os, hg.tape, hg.output, hg.size, fun k hk => hg.block k (by simp; omega) (by simp)⟩
  gi_wp2_with (refine ⟨trivial, ?_⟩; gi_at_call 185; refine (backward_in Fence.wide _ trivial rfl _ _ _ _).mono ?_; rintro e w4 ⟨rfl, rfl⟩)
  have bN : Blk (w3.alloc (.cells #[.slice (some ⟨b, off, none⟩) (stages l v).length c1] 151)) w3.heap.size 151 [.slice (some ⟨b, off, none⟩) (stages l v).length c1] := Blk.at_ w3 rfl 151 _
  replace bM := Blk.grown bM (grow_alloc (World.grownBy.refl _ none) (.cells #[.slice (some ⟨b, off, none⟩) (stages l v).length c1] 151)) (by simp)
  replace bR := Blk.grown bR (grow_alloc (World.grownBy.refl _ none) (.cells #[.slice (some ⟨b, off, none⟩) (stages l v).length c1] 151)) (by simp)
  replace hB3 := hB3.alloc (by omega) (.cells #[.slice (some ⟨b, off, none⟩) (stages l v).length c1] 151)
  have hrows2 : ∀ j x, (stages l v)[j]? = some x → (w3.alloc (.cells #[.slice (some ⟨b, off, none⟩) (stages l v).length c1] 151)).rangeAt b (off + j * 3) (saEnc x) := fun j x hx k u hu => (World.cell?_of_block (Below.heap_alloc w3 _ _ hbl)).trans (hrows j x hx k u hu)
  have hsz : (w3.alloc (.cells #[.slice (some ⟨b, off, none⟩) (stages l v).length c1] 151)).heap.size = w3.heap.size + 1 := by simp
  obtain ⟨W0, hW0⟩ : ∃ W0, w3.alloc (.cells #[.slice (some ⟨b, off, none⟩) (stages l v).length c1] 151) = W0 := ⟨_, rfl⟩
  rw [hW0] at bN bM bR hB3 hrows2 hsz ⊢
  clear hW0
  refine wpIn_rangeFunc_ownH rfl (by decide) (gf := 272) (lb := #[.pointer (some ⟨w3.heap.size, 0, none⟩)]) rfl trivial (enters_of Tryz.func272 (by kernel_rfl) rfl)
    (back_stops Fence.wide 8 trivial rfl (by decide) w3.heap.size W0.heap.size b off c1 (stages l v) hls (by omega) (by omega) W0 (Nat.le_refl _) (bN.cell_of rfl) hrows2) belowK_t (belowK_b (Nat.le_refl _)) (Below.refl _ _) (fun _ => rfl)
    (fun pre W => ((∀ p ∈ pre, mt < p.2.since) ∧ Blk W w.heap.size 3 [.int .i64 mt] ∧ Blk W (w.heap.size + 1) 142 [.int .i64 0, .string ⟨#[]⟩, .int .i64 0] ∧ W0.heap.size ≤ W.heap.size) ∧ Below w.heap.size w W)
    (fun c pre W => (c = .ret ∧ ∃ ini z, pre = ini ++ [z] ∧ (∀ p ∈ ini, mt < p.2.since) ∧ z.2.since ≤ mt ∧ Blk W (w.heap.size + 1) 142 [.int .i64 z.2.st, .string z.2.sta, .int .i64 z.2.since]) ∧ Below w.heap.size w W)
    (OwnFrom.and (OwnFrom.and (ownFrom_pure _ _) (OwnFrom.and (Go.Own.from (blk_own _ _ (fun _ => [.int .i64 mt])) _) (OwnFrom.and (Go.Own.from (blk_own _ _ (fun _ => [.int .i64 0, .string ⟨#[]⟩, .int .i64 0])) _) (Go.Own.from (fun s X Y row hs hg hr => Nat.le_trans hs hg.size) _)))) (ownFrom_below (Nat.le_refl _) (by omega)))
    (fun c => OwnFrom.and (Go.Own.from (fun s X Y row hs hg hr => by
      obtain ⟨hc, ini, z, e1, e2, e3, e4⟩ := hs
      exact ⟨hc, ini, z, e1, e2, e3, blk_own (w.heap.size + 1) 142 (fun (_ : Unit) => [.int .i64 z.2.st, .string z.2.sta, .int .i64 z.2.since]) () X Y row e4 hg hr⟩) _) (ownFrom_below (Nat.le_refl _) (by omega)))
    ⟨⟨by simp, bM, bR, Nat.le_refl _⟩, hB3⟩
    (fun x a' W => ∃ Bx, w.heap.size + 1 < Bx ∧ Blk W Bx 142 [.int .i64 x.2.st, .string x.2.sta, .int .i64 x.2.since] ∧ a' = { tmps := #[.slice A n c0, .string v, .int .i64 mt, undef, undef, .pointer (some ⟨w.heap.size, 0, none⟩), .pointer (some ⟨w.heap.size + 1, 0, none⟩), .slice (some ⟨b, off, none⟩) (stages l v).length c1, .slice A2 n2 c2, undef, .pointer (some ⟨Bx, 0, none⟩), .tuple #[.slice (some ⟨b, off, none⟩) (stages l v).length c1, .slice A2 n2 c2], .slice A n c0, .string v, .tuple #[.slice (some ⟨b, off, none⟩) (stages l v).length c1, .slice A2 n2 c2], .slice (some ⟨b, off, none⟩) (stages l v).length c1, .slice A2 n2 c2, .slice (some ⟨b, off, none⟩) (stages l v).length c1, .func (.func 272) #[] #[.pointer (some ⟨w3.heap.size, 0, none⟩)], .int .i64 (x.1 : Int), .agg #[.int .i64 x.2.st, .string x.2.sta, .int .i64 x.2.since], undef, undef, undef, undef, undef, undef], defers := [] })
    (fun x a' _ X Y row hs hg hr => by
      obtain ⟨Bx, h1, h2, h3⟩ := hs
      exact ⟨Bx, h1, blk_own Bx 142 (fun (_ : Unit) => [.int .i64 x.2.st, .string x.2.sta, .int .i64 x.2.since]) () X Y row h2 hg (fun r e => (hr r e).2), h3⟩)
    ?assign ?body ?done ?stop
  case assign =>
    rintro l2 pre x W K ⟨⟨hi, bm, br, hW⟩, hB⟩ hK
    gi_wp2
    exact hK _ _ ((KeepsOthers.alloc _ _).from _) ((Below.refl _ W).alloc (by omega) _) ⟨⟨hi, Blk.grown bm (grow_alloc (World.grownBy.refl _ none) _) (by simp), Blk.grown br (grow_alloc (World.grownBy.refl _ none) _) (by simp), by simp; omega⟩, hB.alloc (by omega) _⟩ ⟨W.heap.size, by omega, Blk.at_ W rfl _ _, rfl⟩
  case body =>
    rintro l2 pre x a' W hl2 ⟨r, hr⟩ ⟨⟨hi, bm, br, hW⟩, hB⟩ ⟨Bx, hBx, bx, rfl⟩ hlt
    have m0 := bm.cell_of (i := 0) rfl
    have x0 := bx.cell_of (i := 0) rfl
    have x1 := bx.cell_of (i := 1) rfl
    have x2 := bx.cell_of (i := 2) rfl
    have r0 := br.cell_of (i := 0) rfl
    have r1 := br.cell_of (i := 1) rfl
    have r2 := br.cell_of (i := 2) rfl
    have f0 := br.frozen 0
    have f1 := br.frozen 1
    have f2 := br.frozen 2
    by_cases hle : x.2.since ≤ mt
    · gi_wp2
      exact ⟨((KeepsOthers.setCell _ _ _).trans ((KeepsOthers.setCell _ _ _).trans (KeepsOthers.setCell _ _ _))).from _, ⟨rfl, pre, x, rfl, hi, hle, ((br.set_ 0 _).set_ 1 _).set_ 2 _⟩, ((hB.setCell (p := ⟨w.heap.size + 1, 0, none⟩) (Nat.le_succ _) _).setCell (p := ⟨w.heap.size + 1, 1, none⟩) (Nat.le_succ _) _).setCell (p := ⟨w.heap.size + 1, 2, none⟩) (Nat.le_succ _) _⟩
    · gi_wp2
      refine ⟨KeepsFrom.refl _ _, Below.refl _ _, ⟨?_, bm, br, by omega⟩, hB⟩
      intro a b' hab
      rcases List.mem_append.1 hab with h | h
      · exact hi _ h
      · have h2 := List.mem_singleton.1 h
        subst h2
        exact hle
  case done =>
    rintro D ys W hD rfl ⟨⟨hi, bm, br, hW⟩, hB⟩ hK
    have hs0 := stateR_done hi
    have r0 := br.cell_of (i := 0) rfl
    have r1 := br.cell_of (i := 1) rfl
    have r2 := br.cell_of (i := 2) rfl
    have f0 := br.frozen 0
    have f1 := br.frozen 1
    have f2 := br.frozen 2
    gi_wp2
    have hK2 := ((KeepsOthers.setCell (W) ⟨w.heap.size + 1, 0, none⟩ (.int .i64 0)).trans ((KeepsOthers.setCell _ ⟨w.heap.size + 1, 1, none⟩ (.string ⟨#[]⟩)).trans (KeepsOthers.setCell _ ⟨w.heap.size + 1, 2, none⟩ (.int .i64 0)))).same D _ hK rfl
    have hB2 := ((hB.setCell (p := ⟨w.heap.size + 1, 0, none⟩) (Nat.le_succ _) (.int .i64 0)).setCell (p := ⟨w.heap.size + 1, 1, none⟩) (Nat.le_succ _) (.string ⟨#[]⟩)).setCell (p := ⟨w.heap.size + 1, 2, none⟩) (Nat.le_succ _) (.int .i64 0)
    have br2 := ((br.set_ 0 (.int .i64 0)).set_ 1 (.string ⟨#[]⟩)).set_ 2 (.int .i64 0)
    refine ⟨by simp, .inl ⟨_, _, rfl, run_takeDeferred hK2, ?_⟩⟩
    obtain ⟨dd, hu, hd, hi2⟩ := run_row (P := Tryz.prog) rz142
    have hb4 := Blk.grown br2 (grownBy_putObj' _ D (.deferred none)) (fun e => by have := Option.some.inj e; omega)
    refine ⟨_, results_cell_row rfl _ _ (w.heap.size + 1) 142 _ (0, 0) dd rfl hb4 hu (by cases dd <;> simp_all [TypeDesc.isRow]) hi2, by rw [hs0]; rfl, grown_of_below (hB2.trans (belowK_b (w := w) (Nat.le_refl _) _ D _ _ (by have := hB3.size; omega) hK2 rfl rfl))⟩
  case stop =>
    rintro D c pre W hD ⟨k, hk, he⟩ ⟨⟨rfl, ini, z, e1, e2, e3, e4⟩, hB⟩ hK
    have r0 := e4.cell_of (i := 0) rfl
    have r1 := e4.cell_of (i := 1) rfl
    have r2 := e4.cell_of (i := 2) rfl
    have hs0 := stateR_stop hk (e1.symm.trans he) e2 e3
    gi_wp2
    refine ⟨by simp, .inl ⟨_, _, rfl, run_takeDeferred hK, ?_⟩⟩
    obtain ⟨dd, hu, hd, hi2⟩ := run_row (P := Tryz.prog) rz142
    have hb4 := Blk.grown e4 (grownBy_putObj' _ D (.deferred none)) (fun e => by have := Option.some.inj e; omega)
    refine ⟨_, results_cell_row rfl _ _ (w.heap.size + 1) 142 _ (0, 0) dd rfl hb4 hu (by cases dd <;> simp_all [TypeDesc.isRow]) hi2, by rw [hs0], grown_of_below (hB.trans (belowK_b (w := w) (Nat.le_refl _) _ D _ _ (by have := hB3.size; omega) hK rfl rfl))⟩
end Go.Proofs.YtdoooppeiphefaaGreatDoor
namespace Go.Proofs.YtdoooppeiphefaaGreatDoor
open Go.RowKit
theorem ev_one (x : Ev) : ∀ v ∈ evEnc x, v.oneCell' = true := by
  intro v hv
  simp only [evEnc, List.mem_cons, List.not_mem_nil, or_false] at hv
  rcases hv with rfl | rfl | rfl | rfl | rfl <;> rfl
theorem event_info : ∃ i z, Tryz.prog.info? 105 = some i ∧ i.zero = some z ∧ i.size = 5 ∧ i.bytes = 64 ∧ z.cells.size = 5 := info_parts (by kernel_rfl)
set_option maxRecDepth 100000 in
set_option maxHeartbeats 1000000 in
theorem cloneEvents_pos (l : List Ev) (A : Option Addr) (n c : Nat) (w : World) (hl : SlT evEnc 5 105 w A n l) (hn0 : 0 < n) (hn : n ≤ 1000000) :
    Calls Tryz.prog 87 #[.slice A n c] w (fun e w' => ∃ A' c', e = .returned (.slice A' n c') ∧ w'.ownsRow w.heap.size 105 5 (.slice A' n c') n (l.flatMap evEnc) ∧ w.grownBy w' none) := by
  obtain ⟨b, off, rfl, hbl, hfl⟩ := hl.flat ev_len hn0
  have hlen := hl.len
  obtain ⟨i0, z0, hi, hz, hsz, hby, hzs⟩ := event_info
  have hnews : ∀ (o : Obj) j u, (l.flatMap evEnc)[j]? = some u → (w.alloc o).cell? ((⟨b, off, none⟩ : Addr).add j) = some u := fun o j u hj =>
    (World.cell?_of_block (Below.heap_alloc w o _ (by unfold Addr.add; split <;> exact hbl))).trans (hfl j u hj)
  have hone := flat_one evEnc ev_one l
  have hll := flat_len evEnc 5 ev_len l
  rw [hlen] at hll
  clear hfl hl
  have Hnews := Lib.hid hnews
  clear hnews
  have he : ∀ w : World, (binOp .eql 32 (.slice (some ⟨b, off, none⟩) n c) (.slice none 0 0)).run Tryz.prog w = .ok (.bool false) w := fun _ => rfl
  go_enter Tryz.func87, Tryz.ntmps87
  go_wp2_with (at_builtin; refine wpList_append_own_at _ rfl _ _ 32 rfl w.heap.size 105 i0 z0 5 64 Tryz.underlying32 hi hz hsz hby hzs (by decide) (.slice (some ⟨w.heap.size, 0, none⟩) 0 0) 0 [] rfl ⟨rfl, .inr ⟨w.heap.size, 0, #[], rfl, Nat.le_refl _, heap_alloc_new w _, Nat.le_refl _, by decide, rfl, rfl⟩⟩ ⟨b, off, none⟩ n c (l.flatMap evEnc) rfl hll (Hnews.out _) hone (by unfold maxLen; omega) (by omega) (by simp) ?_; intro v' w' hown hgrow hnil hat)
  rw [Nat.zero_add, List.nil_append] at hown
  have hown2 := hown
  obtain ⟨_, ho⟩ := hown2
  rcases ho with ⟨_, h0⟩ | ⟨g, cap, cur, rfl, hg, _⟩
  · omega
  · go_ret
    exact ⟨some ⟨g, 0, none⟩, cap, rfl, hown, grow_own (grow_alloc (World.grownBy.refl _ _) _) hgrow (fun k h => by cases h; exact Nat.le_refl _)⟩
set_option maxRecDepth 100000 in
set_option maxHeartbeats 1000000 in
theorem cloneEvents_empty (b off c : Nat) (w : World) :
    Calls Tryz.prog 87 #[.slice (some ⟨b, off, none⟩) 0 c] w (fun e w' => ∃ A' c', e = .returned (.slice A' 0 c') ∧ w'.ownsRow w.heap.size 105 5 (.slice A' 0 c') 0 [] ∧ w.grownBy w' none) := by
  obtain ⟨i0, z0, hi, hz, hsz, hby, hzs⟩ := event_info
  have he : ∀ w : World, (binOp .eql 32 (.slice (some ⟨b, off, none⟩) 0 c) (.slice none 0 0)).run Tryz.prog w = .ok (.bool false) w := fun _ => rfl
  go_enter Tryz.func87, Tryz.ntmps87
  go_wp2_with (at_builtin; refine wpList_append_own_at _ rfl _ _ 32 rfl w.heap.size 105 i0 z0 5 64 Tryz.underlying32 hi hz hsz hby hzs (by decide) (.slice (some ⟨w.heap.size, 0, none⟩) 0 0) 0 [] rfl ⟨rfl, .inr ⟨w.heap.size, 0, #[], rfl, Nat.le_refl _, heap_alloc_new w _, Nat.le_refl _, by decide, rfl, rfl⟩⟩ ⟨b, off, none⟩ 0 c [] rfl rfl (fun j u hj => by simp at hj) (fun v hv => by cases hv) (by unfold maxLen; omega) (by omega) (by simp) ?_; intro v' w' hown hgrow hnil hat)
  rw [Nat.zero_add, List.nil_append] at hown
  have hown2 := hown
  obtain ⟨_, ho⟩ := hown2
  rcases ho with ⟨rfl, _⟩ | ⟨g, cap, cur, rfl, hg, _⟩
  · go_ret
    exact ⟨none, 0, rfl, hown, grow_own (grow_alloc (World.grownBy.refl _ _) _) hgrow (fun k h => by cases h; exact Nat.le_refl _)⟩
  · go_ret
    exact ⟨some ⟨g, 0, none⟩, cap, rfl, hown, grow_own (grow_alloc (World.grownBy.refl _ _) _) hgrow (fun k h => by cases h; exact Nat.le_refl _)⟩
set_option maxRecDepth 100000 in
set_option maxHeartbeats 400000 in
theorem cloneEvents_nil (w : World) : Calls Tryz.prog 87 #[.slice none 0 0] w (fun e w' => e = .returned (.slice none 0 0) ∧ w = w') := by
  have he : ∀ w : World, (binOp .eql 32 (.slice none 0 0) (.slice none 0 0)).run Tryz.prog w = .ok (.bool true) w := fun _ => rfl
  go_enter Tryz.func87, Tryz.ntmps87
  go_wp2_with fail
  go_ret
  exact ⟨rfl, rfl⟩
theorem cloneEvents_any (l : List Ev) (A : Option Addr) (n c : Nat) (w : World) (hl : SlT evEnc 5 105 w A n l) (hnil : n = 0 → A = none ∧ c = 0) (hn : n ≤ 1000000) :
    Calls Tryz.prog 87 #[.slice A n c] w (fun e w' => ∃ A' c', e = .returned (.slice A' n c') ∧ w'.ownsRow w.heap.size 105 5 (.slice A' n c') n (l.flatMap evEnc) ∧ w.grownBy w' none) := by
  by_cases h0 : n = 0
  · obtain ⟨rfl, rfl⟩ := hnil h0
    subst h0
    have hl0 : l = [] := List.length_eq_zero_iff.1 hl.len
    subst hl0
    exact (cloneEvents_nil w).mono fun e w' ⟨he, hw⟩ => ⟨none, 0, he, ⟨rfl, .inl ⟨rfl, rfl⟩⟩, hw ▸ World.grownBy.refl _ _⟩
  · exact cloneEvents_pos l A n c w hl (by omega) hn
end Go.Proofs.YtdoooppeiphefaaGreatDoor
namespace Go.Proofs.YtdoooppeiphefaaGreatDoor
open Go.RowKit
def taken (e : List Pl) (p : Pl) : Bool := e.any fun o => decide (p.fr < o.fr) && (o.veh.toList == p.veh.toList || o.plate.toList == p.plate.toList)
end Go.Proofs.YtdoooppeiphefaaGreatDoor
namespace Go.Proofs.YtdoooppeiphefaaGreatDoor
open Go.RowKit
theorem pl_one (x : Pl) : ∀ v ∈ plEnc x, v.oneCell' = true := by
  intro v hv
  simp only [plEnc, List.mem_cons, List.not_mem_nil, or_false] at hv
  rcases hv with rfl | rfl | rfl <;> rfl
theorem plate_info : ∃ i z, Tryz.prog.info? 164 = some i ∧ i.zero = some z ∧ i.size = 3 ∧ i.bytes = 40 ∧ z.cells.size = 3 := info_parts (by kernel_rfl)
set_option maxRecDepth 100000 in
set_option maxHeartbeats 1000000 in
theorem clonePlates_pos (l : List Pl) (A : Option Addr) (n c : Nat) (w : World) (hl : SlT plEnc 3 164 w A n l) (hn0 : 0 < n) (hn : n ≤ 1000000) :
    Calls Tryz.prog 81 #[.slice A n c] w (fun e w' => ∃ A' c', e = .returned (.slice A' n c') ∧ w'.ownsRow w.heap.size 164 3 (.slice A' n c') n (l.flatMap plEnc) ∧ w.grownBy w' none) := by
  obtain ⟨b, off, rfl, hbl, hfl⟩ := hl.flat pl_len hn0
  have hlen := hl.len
  obtain ⟨i0, z0, hi, hz, hsz, hby, hzs⟩ := plate_info
  have hnews : ∀ (o : Obj) j u, (l.flatMap plEnc)[j]? = some u → (w.alloc o).cell? ((⟨b, off, none⟩ : Addr).add j) = some u := fun o j u hj =>
    (World.cell?_of_block (Below.heap_alloc w o _ (by unfold Addr.add; split <;> exact hbl))).trans (hfl j u hj)
  have hone := flat_one plEnc pl_one l
  have hll := flat_len plEnc 3 pl_len l
  rw [hlen] at hll
  clear hfl hl
  have Hnews := Lib.hid hnews
  clear hnews
  have he : ∀ w : World, (binOp .eql 29 (.slice (some ⟨b, off, none⟩) n c) (.slice none 0 0)).run Tryz.prog w = .ok (.bool false) w := fun _ => rfl
  go_enter Tryz.func81, Tryz.ntmps81
  go_wp2_with (at_builtin; refine wpList_append_own_at _ rfl _ _ 29 rfl w.heap.size 164 i0 z0 3 40 Tryz.underlying29 hi hz hsz hby hzs (by decide) (.slice (some ⟨w.heap.size, 0, none⟩) 0 0) 0 [] rfl ⟨rfl, .inr ⟨w.heap.size, 0, #[], rfl, Nat.le_refl _, heap_alloc_new w _, Nat.le_refl _, by decide, rfl, rfl⟩⟩ ⟨b, off, none⟩ n c (l.flatMap plEnc) rfl hll (Hnews.out _) hone (by unfold maxLen; omega) (by omega) (by simp) ?_; intro v' w' hown hgrow hnil hat)
  rw [Nat.zero_add, List.nil_append] at hown
  have hown2 := hown
  obtain ⟨_, ho⟩ := hown2
  rcases ho with ⟨_, h0⟩ | ⟨g, cap, cur, rfl, hg, _⟩
  · omega
  · go_ret
    exact ⟨some ⟨g, 0, none⟩, cap, rfl, hown, grow_own (grow_alloc (World.grownBy.refl _ _) _) hgrow (fun k h => by cases h; exact Nat.le_refl _)⟩
set_option maxRecDepth 100000 in
set_option maxHeartbeats 1000000 in
theorem clonePlates_empty (b off c : Nat) (w : World) :
    Calls Tryz.prog 81 #[.slice (some ⟨b, off, none⟩) 0 c] w (fun e w' => ∃ A' c', e = .returned (.slice A' 0 c') ∧ w'.ownsRow w.heap.size 164 3 (.slice A' 0 c') 0 [] ∧ w.grownBy w' none) := by
  obtain ⟨i0, z0, hi, hz, hsz, hby, hzs⟩ := plate_info
  have he : ∀ w : World, (binOp .eql 29 (.slice (some ⟨b, off, none⟩) 0 c) (.slice none 0 0)).run Tryz.prog w = .ok (.bool false) w := fun _ => rfl
  go_enter Tryz.func81, Tryz.ntmps81
  go_wp2_with (at_builtin; refine wpList_append_own_at _ rfl _ _ 29 rfl w.heap.size 164 i0 z0 3 40 Tryz.underlying29 hi hz hsz hby hzs (by decide) (.slice (some ⟨w.heap.size, 0, none⟩) 0 0) 0 [] rfl ⟨rfl, .inr ⟨w.heap.size, 0, #[], rfl, Nat.le_refl _, heap_alloc_new w _, Nat.le_refl _, by decide, rfl, rfl⟩⟩ ⟨b, off, none⟩ 0 c [] rfl rfl (fun j u hj => by simp at hj) (fun v hv => by cases hv) (by unfold maxLen; omega) (by omega) (by simp) ?_; intro v' w' hown hgrow hnil hat)
  rw [Nat.zero_add, List.nil_append] at hown
  have hown2 := hown
  obtain ⟨_, ho⟩ := hown2
  rcases ho with ⟨rfl, _⟩ | ⟨g, cap, cur, rfl, hg, _⟩
  · go_ret
    exact ⟨none, 0, rfl, hown, grow_own (grow_alloc (World.grownBy.refl _ _) _) hgrow (fun k h => by cases h; exact Nat.le_refl _)⟩
  · go_ret
    exact ⟨some ⟨g, 0, none⟩, cap, rfl, hown, grow_own (grow_alloc (World.grownBy.refl _ _) _) hgrow (fun k h => by cases h; exact Nat.le_refl _)⟩
set_option maxRecDepth 100000 in
set_option maxHeartbeats 400000 in
theorem clonePlates_nil (w : World) : Calls Tryz.prog 81 #[.slice none 0 0] w (fun e w' => e = .returned (.slice none 0 0) ∧ w = w') := by
  have he : ∀ w : World, (binOp .eql 29 (.slice none 0 0) (.slice none 0 0)).run Tryz.prog w = .ok (.bool true) w := fun _ => rfl
  go_enter Tryz.func81, Tryz.ntmps81
  go_wp2_with fail
  go_ret
  exact ⟨rfl, rfl⟩
theorem clonePlates_any (l : List Pl) (A : Option Addr) (n c : Nat) (w : World) (hl : SlT plEnc 3 164 w A n l) (hnil : n = 0 → A = none ∧ c = 0) (hn : n ≤ 1000000) :
    Calls Tryz.prog 81 #[.slice A n c] w (fun e w' => ∃ A' c', e = .returned (.slice A' n c') ∧ w'.ownsRow w.heap.size 164 3 (.slice A' n c') n (l.flatMap plEnc) ∧ w.grownBy w' none) := by
  by_cases h0 : n = 0
  · obtain ⟨rfl, rfl⟩ := hnil h0
    subst h0
    have hl0 : l = [] := List.length_eq_zero_iff.1 hl.len
    subst hl0
    exact (clonePlates_nil w).mono fun e w' ⟨he, hw⟩ => ⟨none, 0, he, ⟨rfl, .inl ⟨rfl, rfl⟩⟩, hw ▸ World.grownBy.refl _ _⟩
  · exact clonePlates_pos l A n c w hl (by omega) hn
end Go.Proofs.YtdoooppeiphefaaGreatDoor
namespace Go.Proofs.YtdoooppeiphefaaGreatDoor
open Go.RowKit
/-- The shape of a slice's address. -/
def ShapeA (A : Option Addr) (n c : Nat) : Prop := (A = none ∧ n = 0 ∧ c = 0) ∨ ∃ b off, A = some ⟨b, off, none⟩
theorem own_shape {w : World} {base sz n : Nat} {e : TypeId} {A : Option Addr} {c : Nat} {xs : List Value} (h : w.ownsRow base e sz (.slice A n c) n xs) : ShapeA A n c := by
  rcases h.2 with ⟨h1, h2⟩ | ⟨g, cap, cur, h1, _⟩
  · injection h1 with h3 h4 h5
    exact .inl ⟨h3, h2, h5⟩
  · injection h1 with h3 _ _
    exact .inr ⟨g, 0, h3⟩
theorem clonePlates_all (l : List Pl) (A : Option Addr) (n c : Nat) (w : World) (hl : SlT plEnc 3 164 w A n l) (hs : ShapeA A n c) (hn : n ≤ 1000000) :
    Calls Tryz.prog 81 #[.slice A n c] w (fun e w' => ∃ A' c', e = .returned (.slice A' n c') ∧ w'.ownsRow w.heap.size 164 3 (.slice A' n c') n (l.flatMap plEnc) ∧ w.grownBy w' none) := by
  rcases hs with ⟨rfl, rfl, rfl⟩ | ⟨b, off, rfl⟩
  · exact clonePlates_any l none 0 0 w hl (fun _ => ⟨rfl, rfl⟩) hn
  · rcases Nat.eq_zero_or_pos n with rfl | h0
    · have hl0 : l = [] := List.length_eq_zero_iff.1 hl.len
      subst hl0
      exact clonePlates_empty b off c w
    · exact clonePlates_pos l _ n c w hl h0 hn
end Go.Proofs.YtdoooppeiphefaaGreatDoor
namespace Go.Proofs.YtdoooppeiphefaaGreatDoor
open Go.RowKit
theorem cs_mem {l : List Cs} {x : Cs} {j : Nat} (h : ∀ y ∈ l, CsOk y) (hx : CsOk x) : ∀ y ∈ l.set j x, CsOk y := fun y hy => by
  rcases List.mem_or_eq_of_mem_set hy with hy | rfl
  · exact h y hy
  · exact hx
theorem gclasses_anyF (w : World) (B sb m : Nat) (hS : Strm 25 w B sb m) (hm : m ≤ 100000000000) :
  Calls Tryz.prog 80 #[.pointer (some ⟨sb, 0, none⟩)] w (fun e w' => ∃ (A : Option Addr) (c : Nat) (l : List Cs), e = .returned (.slice A 4 c) ∧ w'.ownsRow w.heap.size 158 2 (.slice A 4 c) 4 (l.flatMap csEnc) ∧ (l.length = 4 ∧ classesE l = 0) ∧ (∀ x ∈ l, CsOk x) ∧ Strm 25 w' B sb (m + 20) ∧ w.grownBy w' (some sb)) := by
 refine gw_enter ⟨35, w, (some sb), []⟩ Tryz.func80 rfl Tryz.ntmps80 rfl (memS (X := []) hS allF_nil allL_nil) ?_
 refine sr_ (sg_ rfl (nn_ (sr_ ?_)))
 refine wl_ov (ov_build (cs := [.string ⟨#[98, 105, 103]⟩, .string ⟨#[]⟩]) rfl (by kernel_rfl)) rfl ?_
 refine wl_ov (ov_build (cs := [.string ⟨#[109, 97, 120, 105]⟩, .string ⟨#[]⟩]) rfl (by kernel_rfl)) rfl ?_
 refine wl_ov (ov_build (cs := [.string ⟨#[109, 105, 100, 105]⟩, .string ⟨#[]⟩]) rfl (by kernel_rfl)) rfl ?_
 refine wl_ov (ov_build (cs := [.string ⟨#[109, 105, 110, 105]⟩, .string ⟨#[]⟩]) rfl (by kernel_rfl)) rfl ?_
 refine wl_buildSlice (e := 158) (cs := [.string ⟨#[98, 105, 103]⟩, .string ⟨#[]⟩, .string ⟨#[109, 97, 120, 105]⟩, .string ⟨#[]⟩, .string ⟨#[109, 105, 100, 105]⟩, .string ⟨#[]⟩, .string ⟨#[109, 105, 110, 105]⟩, .string ⟨#[]⟩]) rfl (by kernel_rfl) rfl fun g1 => ?_
 refine sg_ rfl (nn_ (gw_seq (sr_ (mv_ rfl (wl_ov (ov_len es27 rfl) rfl ?_)))))
 refine wl_set 11 (v' := .int .i64 4) rfl rfl ?_
 refine mv_ rfl (nn_ (gw_block ?_))
 refine gw_toOwn (sz := 2) (n := 4) 0 [] rfl rfl rfl (by unfold maxLen; omega) ?_
 refine gw_loop (γ := Nat × List Cs) (fun g => g.1 ≤ 4 ∧ (g.2.length = 4 ∧ ClG g.2) ∧ (∀ x ∈ g.2, CsOk x)) (fun g => [(0, .pointer (some ⟨sb, 0, none⟩)), (2, .slice none 0 0), (3, .slice (some ⟨g1, 0, none⟩) 4 4), (11, .int .i64 4), (12, .int .i64 ((g.1 : Nat) : Int))]) (fun g => fun w => Strm 25 w B sb (m + 2 * g.1)) (fun g => []) (fun g => [⟨.slice (some ⟨g1, 0, none⟩) 4 4, 158, 2, 4, g.2.flatMap csEnc⟩]) (fun g => []) (fun g => 4 - g.1) (0, [⟨⟨#[98, 105, 103]⟩, ⟨#[]⟩⟩, ⟨⟨#[109, 97, 120, 105]⟩, ⟨#[]⟩⟩, ⟨⟨#[109, 105, 100, 105]⟩, ⟨#[]⟩⟩, ⟨⟨#[109, 105, 110, 105]⟩, ⟨#[]⟩⟩]) ⟨Nat.zero_le _, ⟨rfl, clG_start⟩, by simp [CsOk] <;> decide⟩ ⟨rfl, rfl, rfl, rfl, rfl, trivial⟩ (fun _ hm => (hm.more rfl (by first | omega | (dsimp only; omega))).pick [] [0] [] rfl rfl) ?_
 rintro ⟨i, l⟩ hinv
 replace hinv : i ≤ 4 ∧ (l.length = 4 ∧ ClG l) ∧ (∀ x ∈ l, CsOk x) := hinv
 dsimp only
 refine sr_ ?_
 obtain ⟨hi0, ⟨hl4, hcg⟩, hok⟩ := hinv
 refine wl_ov (ov_lss rfl rfl) rfl (nn_ (gw_seq ?_))
 refine gw_cond rfl (fun hh => ?_) (fun hh => ?_)
 ·have hi : ((i : Nat) : Int) < 4 := by simpa using hh
  clear hh
  refine gw_skip (nx_then (gw_seq (gw_block (sr_ (mv_ rfl (sg_ rfl (nn_ (sr_ (mv_ rfl ?_)))))))))
  refine wl_ov (ov_gtr rfl rfl) rfl ?_
  refine mv_ rfl ?_
  rcases Bool.eq_false_or_eq_true (decide (0 < ((i : Nat) : Int))) with h0 | h0
  ·refine wl_set 17 rfl (congrArg Value.bool h0) ?_
   have h0 := of_decide_eq_true h0
   refine wl_guard_on rfl rfl rfl (mv_ rfl (wl_guard_on rfl rfl rfl ?_))
   refine wl_got (γ := Bool) (val := fun v => .bool v) (φ := fun v => True) rfl cb64 rfl rfl rfl rfl (fun wx hm => ((flip_any _ wx B sb _ hm.k (by omega) (by omega) (by omega)).mono fun _ _ ⟨v, he, hS, hg⟩ => ⟨v, trivial, he, hS, hg⟩)) fun f2 _ => ?_
   refine wl_guard_on rfl rfl rfl (wl_ov (ov_un_not rfl) rfl (pt_ rfl rfl (nn_ ?_)))
   refine gw_cond rfl (fun hh => ?_) (fun hh => ?_)
   ·have hf : f2 = false := by simpa using hh
    clear hh
    refine gw_region (mv_ rfl (mv_ rfl (mv_ rfl (mv_ rfl (mv_ rfl ?_)))))
    refine wl_got (γ := Int) (val := fun v => .int .i64 v) (φ := fun v => IsBelow ((i : Nat) : Int) v) rfl cb29 rfl rfl rfl rfl (fun wx hm => (next_any _ wx B sb _ hm.k (by omega) (by omega) (by omega))) fun vj hvj => ?_
    have hj := isBelow_lt hvj (by omega)
    obtain ⟨j, rfl⟩ := Int.eq_ofNat_of_zero_le hj.1
    have hji : j < 4 := by omega
    obtain ⟨y, hy⟩ : ∃ y, l[j]? = some y := ⟨_, List.getElem?_eq_getElem (by omega)⟩
    obtain ⟨z, hz⟩ : ∃ z, l[i]? = some z := ⟨_, List.getElem?_eq_getElem (by omega)⟩
    obtain ⟨y0, y1⟩ := y
    obtain ⟨z0, z1⟩ := z
    obtain ⟨hy0, hy1⟩ := hok _ (List.mem_of_getElem? hy)
    obtain ⟨hz0, hz1⟩ := hok _ (List.mem_of_getElem? hz)
    refine wl_ov (ov_index (j := j) es27 rfl rfl (by omega)) rfl ?_
    refine fd_ fo158_0 rfl rfl ?_
    refine wl_ov (ov_elem1 (k := 0) (v := .string y0) sc9 rfl (fun _ hm => (SlT.ofOwn cs_len (hm.ownI 0 rfl) hl4)) hy rfl rfl) rfl ?_
    refine wl_ov (ov_index (j := i) es27 rfl rfl (by omega)) rfl ?_
    refine fd_ fo158_1 rfl rfl ?_
    refine wl_storeE (l := l) (j := i) (r := 1) (el := ⟨z0, z1⟩) (el' := ⟨z0, y0⟩) 0 sc9 rfl rfl rfl rfl cs_len rfl hz hl4 (by decide) rfl rfl ?_
    refine wl_nil (nx_blk_nrm (nx_then (gw_region (ad_ rfl rfl (mv_ rfl (wl_nil ?_))))))
    exact nx_round (i + 1, l.set i ⟨z0, y0⟩) ⟨by dsimp only; omega, ⟨by simp [hl4], clG_set hcg (show j < i by omega) (by omega) hy hz⟩, cs_mem hok ⟨hz0, hy0⟩⟩ (by dsimp only; omega) ⟨rfl, rfl, rfl, rfl, (some_int (by omega)), trivial⟩ (fun _ hm => (hm.more rfl (by first | omega | (dsimp only; omega))).pick [] [0] [] rfl rfl)
   have hf : f2 = true := by simpa using hh
   clear hh
   refine gw_skip (nx_blk_nrm (nx_then (gw_region (ad_ rfl rfl (mv_ rfl (wl_nil ?_))))))
   exact nx_round (i + 1, l) ⟨by dsimp only; omega, ⟨hl4, hcg⟩, hok⟩ (by dsimp only; omega) ⟨rfl, rfl, rfl, rfl, (some_int (by omega)), trivial⟩ (fun _ hm => (hm.more rfl (by first | omega | (dsimp only; omega))).pick [] [0] [] rfl rfl)
  refine wl_set 17 rfl (congrArg Value.bool h0) ?_
  refine goff rfl rfl rfl (goff rfl rfl rfl (goff rfl rfl rfl (pf_ rfl rfl (nn_ (cf_ rfl (gw_skip (nx_blk_nrm (nx_then (gw_region (ad_ rfl rfl (mv_ rfl (wl_nil ?_))))))))))))
  exact nx_round (i + 1, l) ⟨by dsimp only; omega, ⟨hl4, hcg⟩, hok⟩ (by dsimp only; omega) ⟨rfl, rfl, rfl, rfl, (some_int (by omega)), trivial⟩ (fun _ hm => (hm.more rfl (by first | omega | (dsimp only; omega))).pick [] [0] [] rfl rfl)
 have hi : ¬ (((i : Nat) : Int) < 4) := by simpa using hh
 clear hh
 refine gw_exit ?_
 refine nx_then_exit (nx_then_exit ?_)
 refine nx_blk_here ?_
 refine nx_then (sr_ (mv_ rfl (sg_ rfl (nn_ ?_))))
 refine gw_ret ?_
 refine nx_ret1 rfl rfl fun wx hm => ?_
 exact ⟨_, 4, l, rfl, hm.ownI 0 rfl, ⟨hl4, clG_right hcg⟩, hok, hm.k.more (by omega), hm.g⟩
end Go.Proofs.YtdoooppeiphefaaGreatDoor
namespace Go.Proofs.YtdoooppeiphefaaGreatDoor
open Go.RowKit
theorem stEnc_lenL {s : St} (h : StOk s) : (stEnc s).length = 15 := stEnc_len h
theorem flat_getL {enc : St → List Value} {k : Nat} : ∀ (l : List St), (∀ x ∈ l, (enc x).length = k) → ∀ (i : Nat) (x : St), l[i]? = some x → ∀ (j : Nat) (v : Value), (enc x)[j]? = some v → (l.flatMap enc)[i * k + j]? = some v
  | [], _, i, x, h, _, _, _ => by simp at h
  | y :: r, hk, 0, x, h, j, v, hv => by
    simp only [List.getElem?_cons_zero, Option.some.injEq] at h
    subst h
    rw [List.flatMap_cons, List.getElem?_append_left (by have := (List.getElem?_eq_some_iff.1 hv).1; omega), Nat.zero_mul, Nat.zero_add]; exact hv
  | y :: r, hk, i + 1, x, h, j, v, hv => by
    have h1 := hk y (List.mem_cons_self ..)
    rw [List.flatMap_cons, List.getElem?_append_right (by rw [h1, Nat.add_mul]; omega), h1, show (i + 1) * k + j - k = i * k + j by rw [Nat.add_mul]; omega]
    exact flat_getL r (fun z hz => hk z (List.mem_cons_of_mem _ hz)) i x (by simpa using h) j v hv
theorem SlT.ofOwnL {enc : St → List Value} {base k n c : Nat} {T : TypeId} {w : World} {A : Option Addr} {l : List St} (hk : ∀ {x : St}, StOk x → (enc x).length = k) (hl : ∀ x ∈ l, StOk x) (h : w.ownsRow base T k (.slice A n c) n (l.flatMap enc)) (hn : l.length = n) : SlT enc k T w A n l := by
  refine ⟨hn, fun hn0 => ?_⟩
  obtain ⟨h1, h2⟩ := h
  rcases h2 with ⟨h2, h3⟩ | ⟨g, cap, cur, hv, _, hh, hle, _, hcs, htk⟩
  · omega
  · injection hv with hA _ _
    refine ⟨g, 0, cur, _, hA, hh, fun i x hx j v hv => ?_⟩
    have := flat_getL l (fun x hx => hk (hl x hx)) i x hx j v hv
    rw [← htk] at this
    rw [List.getElem?_take] at this
    split at this
    · simpa using this
    · cases this
def cat3 (a b : ByteArray) : ByteArray := a ++ (⟨#[32]⟩ : ByteArray) ++ b
def rfOrd (x y : Pl) : Int := if x.fr = y.fr then cmpS (cat3 x.veh x.plate) (cat3 y.veh y.plate) else x.fr - y.fr
def rfLt (x y : Pl) : Bool := decide (rfOrd x y < 0)
/-- A plate that the generators draw. -/
def PlB (x : Pl) : Prop := (-2000000000000000 ≤ x.fr ∧ x.fr ≤ 2000000000000000) ∧ x.veh.size ≤ 1000 ∧ x.plate.size ≤ 1000
theorem plB_ok {x : Pl} (h : PlB x) : PlOk x := ⟨by have := h.1; omega, by have := h.2.1; omega, by have := h.2.2; omega⟩
theorem all_snoc {α : Type} {P : α → Prop} {l : List α} {x : α} (h : ∀ y ∈ l, P y) (hx : P x) : ∀ y ∈ l ++ [x], P y := fun y hy => by
  rcases List.mem_append.1 hy with hy | hy
  · exact h y hy
  · rw [List.mem_singleton.1 hy]; exact hx
theorem s1_ok : StB ⟨⟨#[115, 49]⟩, [0, 0, 0, 0, 0, 0, 0, 0, 0, 0, 0, 0, 0, 0]⟩ := ⟨rfl, by decide, by decide⟩
theorem sz32 : (⟨#[32]⟩ : ByteArray).size = 1 := rfl
theorem rfOrd_any (x0 y0 : Int) (x1 x2 y1 y2 : ByteArray) (w : World) (hx : PlB ⟨x0, x1, x2⟩) (hy : PlB ⟨y0, y1, y2⟩) :
  Calls Tryz.prog 83 #[.agg #[.int .i64 x0, .string x1, .string x2], .agg #[.int .i64 y0, .string y1, .string y2]] w (GotE w (rfOrd ⟨x0, x1, x2⟩ ⟨y0, y1, y2⟩)) := by
 refine gw_enter ⟨28, w, none, []⟩ Tryz.func83 rfl Tryz.ntmps83 rfl (mem0 (X := []) allF_nil allL_nil) ?_
 refine sr_ ?_
 obtain ⟨⟨hx1, hx2⟩, hx3, hx4⟩ := hx
 obtain ⟨⟨hy1, hy2⟩, hy3, hy4⟩ := hy
 dsimp only at hx1 hx2 hx3 hx4 hy1 hy2 hy3 hy4
 have h32 := sz32
 refine wl_box rfl rfl rfl fun g1 => ?_
 refine wl_box rfl rfl rfl fun g2 => ?_
 refine sg_ rfl (nn_ (gw_seq (sr_ (fd_ fo164_0 rfl rfl (lk_ sc3 1 rfl rfl rfl (fd_ fo164_0 rfl rfl (lk_ sc3 0 rfl rfl rfl (wl_ov (ov_neq rfl rfl) rfl (nn_ ?_)))))))))
 refine gw_cond rfl (fun hh => ?_) (fun hh => ?_)
 ·have hne : ¬ (x0 = y0) := by simpa using hh
  clear hh
  refine sr_ (fd_ fo164_0 rfl rfl (lk_ sc3 1 rfl rfl rfl (fd_ fo164_0 rfl rfl (lk_ sc3 0 rfl rfl rfl ?_))))
  refine wl_ov (ov_sub rfl rfl (by omega) (by omega)) rfl ?_
  refine sg_ rfl (nn_ ?_)
  refine gw_ret ?_
  refine nx_then_ret ?_
  refine nx_ret1 rfl rfl fun wx hm => ?_
  exact ⟨ret_int (by unfold rfOrd; exact (if_neg hne).symm), hm.g⟩
 have hne : x0 = y0 := by simpa using hh
 clear hh
 refine gw_skip (nx_then (sr_ (fd_ fo164_1 rfl rfl (lk_ sc9 1 rfl rfl rfl ?_))))
 refine wl_ov (ov_sadd rfl rfl (by (try simp only [ByteArray.size_append]); omega)) rfl ?_
 refine fd_ fo164_2 rfl rfl (lk_ sc9 1 rfl rfl rfl ?_)
 refine wl_ov (ov_sadd rfl rfl (by (try simp only [ByteArray.size_append]); omega)) rfl ?_
 refine fd_ fo164_1 rfl rfl (lk_ sc9 0 rfl rfl rfl ?_)
 refine wl_ov (ov_sadd rfl rfl (by (try simp only [ByteArray.size_append]); omega)) rfl ?_
 refine fd_ fo164_2 rfl rfl (lk_ sc9 0 rfl rfl rfl ?_)
 refine wl_ov (ov_sadd rfl rfl (by (try simp only [ByteArray.size_append]); omega)) rfl ?_
 refine wl_callv rfl cb84 rfl rfl (fun wx hm => (strCompare_any _ _ wx)) ?_
 refine sg_ rfl (nn_ ?_)
 refine gw_ret ?_
 refine nx_ret1 rfl rfl fun wx hm => ?_
 exact ⟨ret_int (by unfold rfOrd; exact (if_pos hne).symm), hm.g⟩
theorem ins_rf  (l0 : List Pl) (br n cap base : Nat) (w : World) (h : w.ownsRow base 164 3 (.slice (some ⟨br, 0, none⟩) n cap) n (l0.flatMap plEnc)) (hl0 : l0.length = n) (hn : n ≤ 1000000) (hall : ∀ x ∈ l0, PlB x) :
  Calls Tryz.prog 257 #[.slice (some ⟨br, 0, none⟩) n cap, .int .i64 0, .int .i64 ((n : Nat) : Int), .func (.func 83) #[] #[]] w (fun e w' => e = .returned (.tuple #[]) ∧ w'.ownsRow base 164 3 (.slice (some ⟨br, 0, none⟩) n cap) n ((isort (rfLt) l0).flatMap plEnc) ∧ w.grownBy w' (some br)) := by
 obtain ⟨R, hR⟩ : ∃ z, z = isort (rfLt) l0 := ⟨_, rfl⟩
 rw [← hR]
 refine gw_enter ⟨53, w, (some br), []⟩ Tryz.func257 rfl Tryz.ntmps257 rfl (memR (X := []) h allF_nil allL_nil) ?_
 refine sr_ (mv_ rfl (ad_ rfl rfl ?_))
 refine wl_set 11 (v' := .int .i64 1) rfl rfl ?_
 refine sg_ rfl (nn_ (gw_block ?_))
 refine gw_loop (γ := Nat × List Pl) (fun gg => (1 ≤ gg.1 ∧ gg.1 ≤ n + 1) ∧ gg.2.length = n ∧ isortF (rfLt) (n - gg.1) gg.1 gg.2 = R) (fun gg => [(0, .slice (some ⟨br, 0, none⟩) n cap), (1, .int .i64 0), (2, .int .i64 ((n : Nat) : Int)), (3, .func (.func 83) #[] #[]), (8, .int .i64 ((gg.1 : Nat) : Int))]) (fun gg => RowK base 164 3 n cap br ((gg.2).flatMap plEnc)) (fun gg => []) (fun gg => []) (fun gg => []) (fun gg => n + 1 - gg.1) (1, l0) ⟨⟨Nat.le_refl _, by omega⟩, hl0, by rw [hR]; unfold isort; rw [hl0]⟩ ⟨rfl, rfl, rfl, rfl, (some_int (by omega)), trivial⟩ (fun _ hm => hm.pick [] [] [] rfl rfl) ?_
 rintro ⟨i, l⟩ hinv
 replace hinv : (1 ≤ i ∧ i ≤ n + 1) ∧ l.length = n ∧ isortF (rfLt) (n - i) i l = R := hinv
 dsimp only
 refine gw_seq (sr_ ?_)
 obtain ⟨⟨hi1, hi2⟩, hl1, hR1⟩ := hinv
 refine mv_ rfl (mv_ rfl (wl_ov (ov_lss rfl rfl) rfl (nn_ ?_)))
 refine gw_cond rfl (fun hh => ?_) (fun hh => ?_)
 ·have hi : ((i : Nat) : Int) < ((n : Nat) : Int) := by simpa using hh
  clear hh
  refine gw_skip (nx_then (gw_seq (gw_block (sr_ ?_))))
  have hRi : isortF (rfLt) (n - (i + 1)) (i + 1) (sink (rfLt) i l) = R := by rw [← hR1, show n - i = (n - (i + 1)) + 1 by omega]; rfl
  obtain ⟨S, hS⟩ : ∃ z, z = sink (rfLt) i l := ⟨_, rfl⟩
  rw [← hS] at hRi
  have hSl : S.length = n := by rw [hS, sink_len]; exact hl1
  refine mv_ rfl (sg_ rfl (nn_ (gw_block ?_)))
  refine gw_loop (γ := Nat × List Pl) (fun gg => (gg.1 ≤ i) ∧ gg.2.length = n ∧ sink (rfLt) gg.1 gg.2 = S) (fun gg => [(0, .slice (some ⟨br, 0, none⟩) n cap), (1, .int .i64 0), (2, .int .i64 ((n : Nat) : Int)), (3, .func (.func 83) #[] #[]), (8, .int .i64 ((i : Nat) : Int)), (9, .int .i64 ((gg.1 : Nat) : Int))]) (fun gg => RowK base 164 3 n cap br ((gg.2).flatMap plEnc)) (fun gg => []) (fun gg => []) (fun gg => []) (fun gg => gg.1) (i, l) ⟨Nat.le_refl _, hl1, hS.symm⟩ ⟨rfl, rfl, rfl, rfl, rfl, rfl, trivial⟩ (fun _ hm => hm.pick [] [] [] rfl rfl) ?_
  rintro ⟨jj, m⟩ hinv
  replace hinv : (jj ≤ i) ∧ m.length = n ∧ sink (rfLt) jj m = S := hinv
  dsimp only
  refine gw_seq (gw_seq ?_)
  obtain ⟨hj1, hm1, hS1⟩ := hinv
  rcases jj with _ | j
  ·refine gd (fun wz => True) mixed (fun _ _ => trivial) fun z => ?_
   refine wt 0 17 1 rfl z (ov_move rfl) ?_
   refine wa_set 18 (v' := .int .i64 0) rfl rfl ?_
   refine wt 1 17 3 rfl z (ov_move rfl) ?_
   refine wt 2 17 7 rfl z (ov_gtr rfl rfl) ?_
   refine wa_set 20 (v' := .bool false) rfl (congrArg Value.bool (by decide)) ?_
   refine wt 3 17 15 rfl z (ov_move rfl) ?_
   refine wtf 4 17 31 rfl rfl rfl z ?_
   refine wtf 5 17 63 rfl rfl rfl z ?_
   refine wtf 6 17 127 rfl rfl rfl z ?_
   refine wtf 7 17 255 rfl rfl rfl z ?_
   refine wtf 8 17 511 rfl rfl rfl z ?_
   refine wtf 9 17 1023 rfl rfl rfl z ?_
   refine wtf 10 17 2047 rfl rfl rfl z ?_
   refine wtf 11 17 4095 rfl rfl rfl z ?_
   refine wtf 12 17 8191 rfl rfl rfl z ?_
   refine wtf 13 17 16383 rfl rfl rfl z ?_
   refine wtf 14 17 32767 rfl rfl rfl z ?_
   refine wtf 15 17 65535 rfl rfl rfl z ?_
   refine wt 16 17 131071 rfl z (ov_pick_f rfl rfl) ?_
   refine wa_done (by kernel_rfl) ?_
   refine nx_then (cf_ rfl ?_)
   refine gw_exit ?_
   refine nx_then_exit (nx_then_exit ?_)
   refine nx_blk_here ?_
   refine nx_blk_nrm (nx_then (gw_region (mv_ rfl (ad_ rfl rfl (sg_ rfl (wl_nil ?_))))))
   have hm2 : m = S := hS1
   exact nx_round (i + 1, m) ⟨⟨by dsimp only; omega, by dsimp only; omega⟩, by rw [hm2]; exact hSl, by rw [hm2]; exact hRi⟩ (by dsimp only; omega) ⟨rfl, rfl, rfl, rfl, (some_int (by omega)), trivial⟩ (fun _ hm => hm.pick [] [] [] rfl rfl)
  have hj2 : j + 1 < n := by omega
  have hin : ∀ z ∈ m, z ∈ l0 := fun z hz => mem_in hR hRi hS1 hz
  obtain ⟨xx, hx⟩ : ∃ x, m[j + 1]? = some x := ⟨_, List.getElem?_eq_getElem (by omega)⟩
  obtain ⟨x0, x1, x2⟩ := xx
  obtain ⟨yy, hy⟩ : ∃ x, m[j]? = some x := ⟨_, List.getElem?_eq_getElem (by omega)⟩
  obtain ⟨y0, y1, y2⟩ := yy
  refine gd (fun wz => (RowK base 164 3 n cap br ((m).flatMap plEnc)) wz ∧ True) mixed (fun _ hm => ⟨hm.k, trivial⟩) fun z => ?_
  refine wt 0 17 1 rfl z (ov_move rfl) ?_
  refine wt 1 17 3 rfl z (ov_move rfl) ?_
  refine wt 2 17 7 rfl z (ov_gtr rfl rfl) ?_
  refine wa_set 20 (v' := .bool true) rfl (congrArg Value.bool (decide_eq_true (by omega))) ?_
  refine wt 3 17 15 rfl z (ov_move rfl) ?_
  refine wto 4 17 31 rfl rfl rfl z (ov_move rfl) ?_
  refine wto 5 17 63 rfl rfl rfl z (ov_move rfl) ?_
  refine wto 6 17 127 rfl rfl rfl z (ov_move rfl) ?_
  refine wto 7 17 255 rfl rfl rfl z (ov_index (j := (j + 1)) es29 rfl rfl (by omega)) ?_
  refine wto 8 17 511 rfl rfl rfl z (ov_elem (vs := [.int .i64 x0, .string x1, .string x2]) rz164 rfl (fun _ hm => (RowK.get (hm.1) pl_len hm1)) hx rfl rfl) ?_
  refine wto 9 17 1023 rfl rfl rfl z (ov_move rfl) ?_
  refine wto 10 17 2047 rfl rfl rfl z (ov_move rfl) ?_
  refine wto 11 17 4095 rfl rfl rfl z (ov_sub rfl rfl (by omega) (by omega)) ?_
  refine wa_set 29 (v' := .int .i64 ((j : Nat) : Int)) rfl (congrArg (Value.int .i64) (by omega)) ?_
  refine wto 12 17 8191 rfl rfl rfl z (ov_index (j := j) es29 rfl rfl (by omega)) ?_
  refine wto 13 17 16383 rfl rfl rfl z (ov_elem (vs := [.int .i64 y0, .string y1, .string y2]) rz164 rfl (fun _ hm => (RowK.get (hm.1) pl_len hm1)) hy rfl rfl) ?_
  refine wa1 14 rfl ?_
  refine wl_guard_on rfl rfl rfl ?_
  refine wl_callv rfl cb83 rfl rfl (fun wx hm => (rfOrd_any x0 y0 x1 x2 y1 y2 wx (hall _ (hin _ (List.mem_of_getElem? hx))) (hall _ (hin _ (List.mem_of_getElem? hy))))) ?_
  refine wl_nil ?_
  refine nw 17 32767 (fun _ hm => ⟨hm.k, trivial⟩) fun z => ?_
  refine wto 15 17 65535 rfl rfl rfl z (ov_lss rfl rfl) ?_
  refine wt 16 17 131071 rfl z (ov_pick_t rfl rfl) ?_
  refine wa_done (by kernel_rfl) ?_
  refine nx_then ?_
  refine gw_cond rfl (fun hh => ?_) (fun hh => ?_)
  ·have hlt : rfOrd ⟨x0, x1, x2⟩ ⟨y0, y1, y2⟩ < 0 := by simpa using hh
   clear hh
   refine gw_skip (nx_then (gw_seq (gw_block ?_)))
   have hlt2 : (rfLt) ⟨x0, x1, x2⟩ ⟨y0, y1, y2⟩ = true := decide_eq_true (show rfOrd ⟨x0, x1, x2⟩ ⟨y0, y1, y2⟩ < 0 from hlt)
   have hS2 := (sink_yes hx hy hlt2).symm.trans hS1
   refine gd (fun wz => True) mixed (fun _ _ => trivial) fun z => ?_
   refine wt 0 18 1 rfl z (ov_move rfl) ?_
   refine wt 1 18 3 rfl z (ov_move rfl) ?_
   refine wt 2 18 7 rfl z (ov_move rfl) ?_
   refine wt 3 18 15 rfl z (ov_move rfl) ?_
   refine wt 4 18 31 rfl z (ov_sub rfl rfl (by omega) (by omega)) ?_
   refine wa_set 41 (v' := .int .i64 ((j : Nat) : Int)) rfl (congrArg (Value.int .i64) (by omega)) ?_
   refine wt 5 18 63 rfl z (ov_move rfl) ?_
   refine wt 6 18 127 rfl z (ov_move rfl) ?_
   refine wt 7 18 255 rfl z (ov_sub rfl rfl (by omega) (by omega)) ?_
   refine wa_set 44 (v' := .int .i64 ((j : Nat) : Int)) rfl (congrArg (Value.int .i64) (by omega)) ?_
   refine wt 8 18 511 rfl z (ov_index (j := j) es29 rfl rfl (by omega)) ?_
   refine wt 10 18 1535 rfl z (ov_move rfl) ?_
   refine wt 11 18 3583 rfl z (ov_move rfl) ?_
   refine wt 12 18 7679 rfl z (ov_index (j := (j + 1)) es29 rfl rfl (by omega)) ?_
   refine wa_all [9, 13] (by kernel_rfl) rfl ⟨⟨_, rfl, ?_⟩, ⟨_, rfl, ?_⟩, trivial⟩
   ·refine wl_ov (ov_elem (vs := [.int .i64 y0, .string y1, .string y2]) rz164 rfl (fun _ hm => (RowK.get hm.k pl_len hm1)) hy rfl rfl) rfl ?_
    refine wl_nil ?_
    refine nw 18 8191 (fun _ _ => trivial) fun z => ?_
    refine wa1 13 rfl ?_
    refine wl_ov (ov_elem (vs := [.int .i64 x0, .string x1, .string x2]) rz164 rfl (fun _ hm => (RowK.get hm.k pl_len hm1)) hx rfl rfl) rfl ?_
    refine wl_nil ?_
    refine nw 18 16383 (fun _ _ => trivial) fun z => ?_
    refine wt 14 18 32767 rfl z (ov_index (j := (j + 1)) es29 rfl rfl (by omega)) ?_
    refine wa1 15 rfl ?_
    refine wl_storesRow (l := m) (j := j + 1) (r := 0) (el := ⟨x0, x1, x2⟩) (el' := ⟨y0, y1, y2⟩) rfl rz164 rfl rfl rfl rfl pl_len rfl hx hm1 (by decide) rfl rfl ?_
    refine wl_nil ?_
    refine nw 18 65535 (fun _ _ => trivial) fun z => ?_
    refine wt 16 18 131071 rfl z (ov_index (j := j) es29 rfl rfl (by omega)) ?_
    refine wa1 17 rfl ?_
    refine wl_storesRow (l := m.set (j + 1) ⟨y0, y1, y2⟩) (j := j) (r := 0) (el := ⟨y0, y1, y2⟩) (el' := ⟨x0, x1, x2⟩) rfl rz164 rfl rfl rfl rfl pl_len rfl (by rw [List.getElem?_set_ne (by omega)]; exact hy) (by rw [List.length_set]; exact hm1) (by decide) rfl rfl ?_
    refine wl_nil ?_
    refine nw 18 262143 (fun _ _ => trivial) fun z => ?_
    refine wa_done (by kernel_rfl) ?_
    refine nx_blk_nrm (nx_then (gw_region (mv_ rfl ?_)))
    refine wl_ov (ov_sub rfl rfl (by omega) (by omega)) rfl ?_
    refine wl_set 36 (v' := .int .i64 ((j : Nat) : Int)) rfl (congrArg (Value.int .i64) (by omega)) ?_
    refine sg_ rfl (wl_nil ?_)
    exact nx_round (j, (m.set (j + 1) ⟨y0, y1, y2⟩).set j ⟨x0, x1, x2⟩) ⟨by dsimp only; omega, by simp [hm1], hS2⟩ (by dsimp only; omega) ⟨rfl, rfl, rfl, rfl, rfl, (some_int (by omega)), trivial⟩ (fun _ hm => hm.pick [] [] [] rfl rfl)
   refine wl_ov (ov_elem (vs := [.int .i64 x0, .string x1, .string x2]) rz164 rfl (fun _ hm => (RowK.get hm.k pl_len hm1)) hx rfl rfl) rfl ?_
   refine wl_nil ?_
   refine nw 18 15871 (fun _ _ => trivial) fun z => ?_
   refine wa1 9 rfl ?_
   refine wl_ov (ov_elem (vs := [.int .i64 y0, .string y1, .string y2]) rz164 rfl (fun _ hm => (RowK.get hm.k pl_len hm1)) hy rfl rfl) rfl ?_
   refine wl_nil ?_
   refine nw 18 16383 (fun _ _ => trivial) fun z => ?_
   refine wt 14 18 32767 rfl z (ov_index (j := (j + 1)) es29 rfl rfl (by omega)) ?_
   refine wa1 15 rfl ?_
   refine wl_storesRow (l := m) (j := j + 1) (r := 0) (el := ⟨x0, x1, x2⟩) (el' := ⟨y0, y1, y2⟩) rfl rz164 rfl rfl rfl rfl pl_len rfl hx hm1 (by decide) rfl rfl ?_
   refine wl_nil ?_
   refine nw 18 65535 (fun _ _ => trivial) fun z => ?_
   refine wt 16 18 131071 rfl z (ov_index (j := j) es29 rfl rfl (by omega)) ?_
   refine wa1 17 rfl ?_
   refine wl_storesRow (l := m.set (j + 1) ⟨y0, y1, y2⟩) (j := j) (r := 0) (el := ⟨y0, y1, y2⟩) (el' := ⟨x0, x1, x2⟩) rfl rz164 rfl rfl rfl rfl pl_len rfl (by rw [List.getElem?_set_ne (by omega)]; exact hy) (by rw [List.length_set]; exact hm1) (by decide) rfl rfl ?_
   refine wl_nil ?_
   refine nw 18 262143 (fun _ _ => trivial) fun z => ?_
   refine wa_done (by kernel_rfl) ?_
   refine nx_blk_nrm (nx_then (gw_region (mv_ rfl ?_)))
   refine wl_ov (ov_sub rfl rfl (by omega) (by omega)) rfl ?_
   refine wl_set 36 (v' := .int .i64 ((j : Nat) : Int)) rfl (congrArg (Value.int .i64) (by omega)) ?_
   refine sg_ rfl (wl_nil ?_)
   exact nx_round (j, (m.set (j + 1) ⟨y0, y1, y2⟩).set j ⟨x0, x1, x2⟩) ⟨by dsimp only; omega, by simp [hm1], hS2⟩ (by dsimp only; omega) ⟨rfl, rfl, rfl, rfl, rfl, (some_int (by omega)), trivial⟩ (fun _ hm => hm.pick [] [] [] rfl rfl)
  have hlt : ¬ (rfOrd ⟨x0, x1, x2⟩ ⟨y0, y1, y2⟩ < 0) := by simpa using hh
  clear hh
  refine gw_exit ?_
  refine nx_then_exit (nx_then_exit ?_)
  refine nx_blk_here ?_
  refine nx_blk_nrm (nx_then (gw_region ?_))
  have hlt2 : (rfLt) ⟨x0, x1, x2⟩ ⟨y0, y1, y2⟩ = false := decide_eq_false (show ¬ rfOrd ⟨x0, x1, x2⟩ ⟨y0, y1, y2⟩ < 0 from hlt)
  have hS2 := (sink_no hx hy hlt2).symm.trans hS1
  refine mv_ rfl (ad_ rfl rfl (sg_ rfl (wl_nil ?_)))
  have hm2 : m = S := hS2
  exact nx_round (i + 1, m) ⟨⟨by dsimp only; omega, by dsimp only; omega⟩, by rw [hm2]; exact hSl, by rw [hm2]; exact hRi⟩ (by dsimp only; omega) ⟨rfl, rfl, rfl, rfl, (some_int (by omega)), trivial⟩ (fun _ hm => hm.pick [] [] [] rfl rfl)
 have hi : ¬ (((i : Nat) : Int) < ((n : Nat) : Int)) := by simpa using hh
 clear hh
 refine gw_exit ?_
 refine nx_then_exit (nx_then_exit ?_)
 refine nx_blk_here ?_
 obtain rfl : l = R := by rw [← hR1, show n - i = 0 by omega]; rfl
 refine nx_ret0 rfl fun wx hm => ?_
 exact ⟨rfl, fin_row hm.k hm.g⟩
theorem pdq_rf  (l0 : List Pl) (br n cap base : Nat) (lim : Int) (w : World) (h : w.ownsRow base 164 3 (.slice (some ⟨br, 0, none⟩) n cap) n (l0.flatMap plEnc)) (hl0 : l0.length = n) (hn : n ≤ 12) (hall : ∀ x ∈ l0, PlB x) :
  Calls Tryz.prog 175 #[.slice (some ⟨br, 0, none⟩) n cap, .int .i64 0, .int .i64 ((n : Nat) : Int), .int .i64 lim, .func (.func 83) #[] #[]] w (fun e w' => e = .returned (.tuple #[]) ∧ w'.ownsRow base 164 3 (.slice (some ⟨br, 0, none⟩) n cap) n ((isort (rfLt) l0).flatMap plEnc) ∧ w.grownBy w' (some br)) := by
 refine gw_enter ⟨148, w, (some br), []⟩ Tryz.func175 rfl Tryz.ntmps175 rfl (memR (X := []) h allF_nil allL_nil) ?_
 refine sr_ (sg_ rfl (nn_ (sr_ (sg_ rfl (nn_ (gw_block ?_))))))
 refine gw_rounds 1 ?_
 refine gr_next ?_
 refine gw_block (sr_ (mv_ rfl (mv_ rfl ?_)))
 refine wl_ov (ov_sub rfl rfl (by omega) (by omega)) rfl ?_
 refine sg_ rfl (nn_ (gw_seq (sr_ (mv_ rfl (wl_ov (ov_leq rfl rfl) rfl ?_)))))
 refine wl_set 25 (v' := .bool true) rfl (congrArg Value.bool (decide_eq_true (by omega))) ?_
 refine nn_ (ct_ rfl (sr_ (mv_ rfl (mv_ rfl (mv_ rfl (mv_ rfl ?_))))))
 refine wl_callK rfl rfl rfl cb257 rfl rfl (fun wx hm => (ins_rf  l0 br n cap base wx hm.k hl0 (by omega) hall)) ?_
 refine nn_ ?_
 refine gw_ret ?_
 refine nx_then_ret (nx_blk_ret (nx_then_ret (nx_blk_ret ?_)))
 refine nx_ret0' rfl fun wx hm => ?_
 exact ⟨rfl, fin_row hm.k hm.g⟩
theorem sort_rf  (l0 : List Pl) (br n cap base : Nat) (w : World) (h : w.ownsRow base 164 3 (.slice (some ⟨br, 0, none⟩) n cap) n (l0.flatMap plEnc)) (hl0 : l0.length = n) (hn : n ≤ 12) (hall : ∀ x ∈ l0, PlB x) :
  Calls Tryz.prog 82 #[.slice (some ⟨br, 0, none⟩) n cap, .func (.func 83) #[] #[]] w (fun e w' => e = .returned (.tuple #[]) ∧ w'.ownsRow base 164 3 (.slice (some ⟨br, 0, none⟩) n cap) n ((isort (rfLt) l0).flatMap plEnc) ∧ w.grownBy w' (some br)) := by
 refine gw_enter ⟨14, w, (some br), []⟩ Tryz.func82 rfl Tryz.ntmps82 rfl (memR (X := []) h allF_nil allL_nil) ?_
 refine sr_ (mv_ rfl (wl_ov (ov_len es29 rfl) rfl (sg_ rfl (nn_ (gw_region (mv_ rfl (mv_ rfl (mv_ rfl ?_))))))))
 refine wl_ov (ov_u64 (a := n) (by kernel_rfl) (by kernel_rfl) rfl (by omega)) rfl ?_
 refine wl_callx (γ := Int) (val := (fun g => .int .i64 g)) (φ := (fun g => True)) (Y := (fun g => fun _ => True)) rfl cb176 rfl rfl (fun wx hm => (bitsLen_any n wx (by omega)).mono fun _ _ ⟨v, he, hg⟩ => ⟨v, he, trivial, hg, trivial⟩) (fun _ => Lasts2.true_) ?_
 rintro lim hphi
 clear hphi
 refine mv_ rfl ?_
 refine wl_callK rfl rfl rfl cb175 rfl rfl (fun wx hm => (pdq_rf  l0 br n cap base _ wx hm.k hl0 hn hall)) ?_
 refine wl_nil ?_
 refine nx_ret0 rfl fun wx hm => ?_
 exact ⟨rfl, fin_row hm.k hm.g⟩
/-- A vehicle that the generators draw. -/
def VhB (x : Vh) : Prop := x.key.size ≤ 1000 ∧ x.cls.size ≤ 1000000
theorem vhB_ok {x : Vh} (h : VhB x) : VhOk x := ⟨by have := h.1; omega, h.2⟩
def RfOk (sl : List St) (cl : List Cs) (vl : List Vh) (pl : List Pl) (sn vn pn : Nat) : Prop := (sl.length = sn ∧ (∀ x ∈ sl, StB x) ∧ (1 ≤ sn ∧ sn ≤ 3)) ∧ (cl.length = 4 ∧ ∀ x ∈ cl, CsOk x) ∧ (vl.length = vn ∧ (∀ x ∈ vl, VhB x) ∧ vn ≤ 4) ∧ pl.length = pn ∧ (∀ x ∈ pl, PlB x) ∧ pn ≤ 5
theorem rightFleet_anyF (w : World) (B sb m : Nat) (hS : Strm 25 w B sb m) (hm : m ≤ 100000000) :
  Calls Tryz.prog 25 #[.pointer (some ⟨sb, 0, none⟩)] w (fun e w' => ∃ (sA cA vA pA : Option Addr) (sn sc cc vn vc pn pc : Nat) (sl : List St) (cl : List Cs) (vl : List Vh) (pl : List Pl), e = .returned (.agg #[.slice sA sn sc, .slice cA 4 cc, .slice vA vn vc, .slice pA pn pc]) ∧ (RfOk sl cl vl pl sn vn pn ∧ fleetE sl cl vl pl = 0) ∧ Strm 25 w' B sb (m + 300) ∧ w.grownBy w' (some sb) ∧ w'.ownsRow w.heap.size 156 15 (.slice sA sn sc) sn (sl.flatMap stEnc) ∧ w'.ownsRow w.heap.size 69 2 (.slice vA vn vc) vn (vl.flatMap vhEnc) ∧ w'.ownsRow w.heap.size 164 3 (.slice pA pn pc) pn (pl.flatMap plEnc) ∧ SlT csEnc 2 158 w' cA 4 cl) := by
 refine gw_enter ⟨90, w, (some sb), [158]⟩ Tryz.func25 rfl Tryz.ntmps25 rfl (memS (X := []) hS allF_nil allL_nil) ?_
 refine sr_ ?_
 refine wl_alloc zc31 rfl fun g1 => ?_
 refine nn_ (sr_ (mv_ rfl ?_))
 refine wl_callgs (γ := Option Addr × Nat × Nat × List St) (val := (fun g => .slice g.1 g.2.1 g.2.2.1)) (φ := (fun g => g.2.2.2.length = g.2.1 ∧ (∀ x ∈ g.2.2.2, StB x) ∧ g.2.1 ≤ 3 ∧ stationsE g.2.2.2 = 0)) (m' := m + 100) (fun g => ⟨.slice g.1 g.2.1 g.2.2.1, 156, 15, g.2.1, g.2.2.2.flatMap stEnc⟩) rfl cb79 rfl rfl rfl rfl (fun wx hm => (gstations_anyF wx B sb _ hm.k (by omega)).mono fun _ _ ⟨A, n, c, l, he, ho, ⟨hl, hz⟩, hok, hn, hS, hg⟩ => ⟨(A, n, c, l), he, ⟨hl, hok, hn, hz⟩, hS, hg, ho⟩) ?_
 rintro ⟨sA0, sn0, sc0, sl0⟩ hphi
 dsimp only at hphi ⊢
 obtain ⟨hsl0, hsB0, hs30, hsz0⟩ := hphi
 refine mv_ rfl ?_
 refine wl_calls (γ := Option Addr × Nat × List Cs) (val := (fun g => .slice g.1 4 g.2.1)) (φ := (fun g => g.2.2.length = 4 ∧ (∀ x ∈ g.2.2, CsOk x) ∧ classesE g.2.2 = 0)) (Y := (fun g => fun wy => SlT csEnc 2 158 wy g.1 4 g.2.2)) (m' := m + 100 + 20) rfl cb80 rfl rfl rfl rfl (fun wx hm => (gclasses_anyF wx B sb _ hm.k (by omega)).mono fun _ _ ⟨A, c, l, he, ho, ⟨hl, hz⟩, hok, hS, hg⟩ => ⟨(A, c, l), he, ⟨hl, hok, hz⟩, hS, hg, SlT.ofOwn cs_len ho hl⟩) (fun _ => SlT.lasts2 rfl) ?_
 rintro ⟨cA, cc, cl⟩ hphi
 dsimp only at hphi ⊢
 obtain ⟨hcl4, hcok, hcz⟩ := hphi
 refine wl_ov (ov_build (cs := [.slice sA0 sn0 sc0, .slice cA 4 cc, .slice none 0 0, .slice none 0 0]) rfl (by kernel_rfl)) rfl ?_
 refine wl_alloc zc31 rfl fun g2 => ?_
 refine wl_stores (cs' := [.slice sA0 sn0 sc0, .slice cA 4 cc, .slice none 0 0, .slice none 0 0]) 0 rz31 rfl rfl rfl rfl rfl rfl rfl rfl ?_
 refine nn_ ?_
 refine gw_cut (γ := Option Addr × Nat × Nat × List St) (I := (fun g => g.2.2.2.length = g.2.1 ∧ (∀ x ∈ g.2.2.2, StB x) ∧ (1 ≤ g.2.1 ∧ g.2.1 ≤ 3) ∧ stationsE g.2.2.2 = 0)) (S' := (fun g => [(0, .pointer (some ⟨sb, 0, none⟩)), (2, .pointer (some ⟨g1, 0, none⟩)), (3, .pointer (some ⟨g2, 0, none⟩))])) (K' := (fun g => fun w => Strm 25 w B sb (m + 120))) (L' := (fun g => [(g2, 31, [.slice g.1 g.2.1 g.2.2.1, .slice cA 4 cc, .slice none 0 0, .slice none 0 0]), (g1, 31, [.slice none 0 0, .slice none 0 0, .slice none 0 0, .slice none 0 0])])) (O' := (fun g => [⟨.slice g.1 g.2.1 g.2.2.1, 156, 15, g.2.1, g.2.2.2.flatMap stEnc⟩])) (X' := (fun g => [fun wy => SlT csEnc 2 158 wy cA 4 cl])) ?_ ?_
 ·refine sr_ (fd_ fo31_0 rfl rfl (lk_ sc26 0 rfl rfl rfl (wl_ov (ov_len es26 rfl) rfl (wl_ov (ov_eql rfl rfl) rfl (nn_ ?_)))))
  refine gw_cond rfl (fun hh => ?_) (fun hh => ?_)
  ·have h0 : ((sn0 : Nat) : Int) = 0 := by simpa using hh
   clear hh
   refine gw_region ?_
   refine wl_ov (ov_build (cs := [.string ⟨#[115, 49]⟩, .int .i64 0, .int .i64 0, .int .i64 0, .int .i64 0, .int .i64 0, .int .i64 0, .int .i64 0, .int .i64 0, .int .i64 0, .int .i64 0, .int .i64 0, .int .i64 0, .int .i64 0, .int .i64 0]) rfl (by kernel_rfl)) rfl ?_
   refine wl_buildSlice (e := 156) (cs := [.string ⟨#[115, 49]⟩, .int .i64 0, .int .i64 0, .int .i64 0, .int .i64 0, .int .i64 0, .int .i64 0, .int .i64 0, .int .i64 0, .int .i64 0, .int .i64 0, .int .i64 0, .int .i64 0, .int .i64 0, .int .i64 0]) rfl (by kernel_rfl) rfl fun g3 => ?_
   refine fd_ fo31_0 rfl rfl ?_
   refine wl_store 1 sc26 rfl rfl rfl rfl rfl rfl ?_
   refine wl_nil ?_
   refine nx_toOwn (sz := 15) (n := 1) 0 [1, 2] rfl rfl rfl (by unfold maxLen; omega) ?_
   exact nx_meet ((some ⟨g3, 0, none⟩), 1, 1, [⟨⟨#[115, 49]⟩, [0, 0, 0, 0, 0, 0, 0, 0, 0, 0, 0, 0, 0, 0]⟩]) ⟨rfl, (fun x hx => List.mem_singleton.1 hx ▸ s1_ok), ⟨by dsimp only; decide, by dsimp only; decide⟩, s1_right⟩ ⟨rfl, rfl, rfl, trivial⟩ (fun _ hm => (hm.more rfl (by first | omega | (dsimp only; omega))).pick [0, 1] [0] [0] rfl rfl)
  have h0 : ¬ (((sn0 : Nat) : Int) = 0) := by simpa using hh
  clear hh
  refine gw_skip ?_
  exact nx_meet (sA0, sn0, sc0, sl0) ⟨hsl0, hsB0, ⟨by dsimp only; omega, by dsimp only; omega⟩, hsz0⟩ ⟨rfl, rfl, rfl, trivial⟩ (fun _ hm => (hm.more rfl (by first | omega | (dsimp only; omega))).pick [0, 1] [0] [0] rfl rfl)
 rintro ⟨sA, sn, sc, sl⟩ hinv
 replace hinv : sl.length = sn ∧ (∀ x ∈ sl, StB x) ∧ (1 ≤ sn ∧ sn ≤ 3) ∧ stationsE sl = 0 := hinv
 dsimp only
 refine gw_seq (sr_ ?_)
 obtain ⟨hsl, hsB, ⟨hs1, hs3⟩, hsz⟩ := hinv
 refine wl_nilOwn 69 2 ?_
 refine wl_buildSlice (e := 9) (cs := [.string ⟨#[118, 49]⟩, .string ⟨#[118, 50]⟩, .string ⟨#[118, 51]⟩, .string ⟨#[118, 52]⟩]) rfl (by kernel_rfl) rfl fun g4 => ?_
 refine wl_ov (ov_len es79 rfl) rfl ?_
 refine wl_set 22 (v' := .int .i64 4) rfl rfl ?_
 refine mv_ rfl (nn_ (gw_block ?_))
 refine gw_loop (γ := Nat × Nat × Option Addr × Nat × List Vh) (fun g => g.1 ≤ 4 ∧ g.2.1 ≤ g.1 ∧ g.2.2.2.2.length = g.2.1 ∧ (∀ x ∈ g.2.2.2.2, VhB x) ∧ VhG cl g.1 g.2.2.2.2) (fun g => [(0, .pointer (some ⟨sb, 0, none⟩)), (2, .pointer (some ⟨g1, 0, none⟩)), (3, .pointer (some ⟨g2, 0, none⟩)), (21, .slice (some ⟨g4, 0, none⟩) 4 4), (22, .int .i64 4), (23, .int .i64 ((g.1 : Nat) : Int))]) (fun g => fun w => Strm 25 w B sb (m + 120 + 2 * g.1)) (fun g => [(g2, 31, [.slice sA sn sc, .slice cA 4 cc, .slice g.2.2.1 g.2.1 g.2.2.2.1, .slice none 0 0]), (g4, 9, [.string ⟨#[118, 49]⟩, .string ⟨#[118, 50]⟩, .string ⟨#[118, 51]⟩, .string ⟨#[118, 52]⟩]), (g1, 31, [.slice none 0 0, .slice none 0 0, .slice none 0 0, .slice none 0 0])]) (fun g => [⟨.slice g.2.2.1 g.2.1 g.2.2.2.1, 69, 2, g.2.1, g.2.2.2.2.flatMap vhEnc⟩, ⟨.slice sA sn sc, 156, 15, sn, sl.flatMap stEnc⟩]) (fun g => [fun wy => SlT csEnc 2 158 wy cA 4 cl]) (fun g => 4 - g.1) (0, 0, none, 0, []) ⟨Nat.zero_le _, Nat.le_refl _, rfl, (fun _ h => by cases h), vhG_nil⟩ ⟨rfl, rfl, rfl, rfl, rfl, rfl, trivial⟩ (fun _ hm => (hm.more rfl (by first | omega | (dsimp only; omega))).pick [1, 0, 2] [0, 1] [0] rfl rfl) ?_
 rintro ⟨i, k, vA, vc, vl⟩ hinv
 replace hinv : i ≤ 4 ∧ k ≤ i ∧ vl.length = k ∧ (∀ x ∈ vl, VhB x) ∧ VhG cl i vl := hinv
 dsimp only
 refine sr_ ?_
 obtain ⟨hi0, hki, hvl, hvB, hvg⟩ := hinv
 refine wl_ov (ov_lss rfl rfl) rfl (nn_ (gw_seq ?_))
 refine gw_cond rfl (fun hh => ?_) (fun hh => ?_)
 ·have hi : ((i : Nat) : Int) < 4 := by simpa using hh
  clear hh
  refine gw_skip (nx_then (gw_seq (gw_block (sr_ ?_))))
  obtain ⟨nm, hx⟩ : ∃ x, ([⟨#[118, 49]⟩, ⟨#[118, 50]⟩, ⟨#[118, 51]⟩, ⟨#[118, 52]⟩] : List ByteArray)[i]? = some x := ⟨_, List.getElem?_eq_getElem (by simp; omega)⟩
  have hnm : nm.size ≤ 100 := mem_sz (List.mem_of_getElem? hx) (by decide)
  refine wl_ov (ov_index (j := i) es79 rfl rfl (by omega)) rfl ?_
  refine wl_ov (ov_elem1 (k := 0) (v := .string nm) sc9 rfl (fun _ hm => (SlT.ofBlk (l := [⟨#[118, 49]⟩, ⟨#[118, 50]⟩, ⟨#[118, 51]⟩, ⟨#[118, 52]⟩]) sg_len (hm.blkI 1 rfl))) hx rfl rfl) rfl ?_
  refine sg_ rfl (nn_ (sr_ (mv_ rfl ?_)))
  refine wl_got (γ := Bool) (val := fun v => .bool v) (φ := fun v => True) rfl cb64 rfl rfl rfl rfl (fun wx hm => ((flip_any _ wx B sb _ hm.k (by omega) (by omega) (by omega)).mono fun _ _ ⟨v, he, hS, hg⟩ => ⟨v, trivial, he, hS, hg⟩)) fun f5 _ => ?_
  refine wl_ov (ov_un_not rfl) rfl (nn_ ?_)
  refine gw_cond rfl (fun hh => ?_) (fun hh => ?_)
  ·have hf : f5 = false := by simpa using hh
   clear hh
   have hcl0 : 0 < cl.length := by omega
   refine gw_look (R := ∃ bc oc, cA = some ⟨bc, oc, none⟩) (fun wx hm => by obtain ⟨b, off, hA, _, _⟩ := SlT.get (hm.fact 0 rfl) (by omega); exact ⟨b, off, hA⟩) ?_
   rintro ⟨bc, oc, rfl⟩
   refine gd (fun wz => Blk wz g4 9 [.string ⟨#[118, 49]⟩, .string ⟨#[118, 50]⟩, .string ⟨#[118, 51]⟩, .string ⟨#[118, 52]⟩] ∧ Blk wz g1 31 [.slice none 0 0, .slice none 0 0, .slice none 0 0, .slice none 0 0] ∧ (fun wy => SlT csEnc 2 158 wy (some ⟨bc, oc, none⟩) 4 cl) wz ∧ True) mixed (fun _ hm => ⟨hm.bl 1, hm.bl 2, hm.fa 0, trivial⟩) fun z => ?_
   refine wt 0 18 1 rfl z (ov_field fo31_2 rfl rfl) ?_
   refine wt 2 18 5 rfl z (ov_move rfl) ?_
   refine wt 3 18 13 rfl z (ov_field fo31_1 rfl rfl) ?_
   refine wt 5 18 45 rfl z (ov_move rfl) ?_
   refine wt 6 18 109 rfl z (ov_field fo31_1 rfl rfl) ?_
   refine wa_open fun W hW => ?_
   have T127 : W 11 (lb 18 127) [(0, .pointer (some ⟨sb, 0, none⟩)), (2, .pointer (some ⟨g1, 0, none⟩)), (3, .pointer (some ⟨g2, 0, none⟩)), (21, .slice (some ⟨g4, 0, none⟩) 4 4), (22, .int .i64 4), (23, .int .i64 ((i : Nat) : Int)), (31, .slice vA k vc), (32, .string nm), (34, .slice (some ⟨bc, oc, none⟩) 4 cc), (35, .pointer (some ⟨sb, 0, none⟩)), (36, .pointer (some ⟨g2, 1, none⟩))] (fun w => Strm 25 w B sb (m + 120 + 2 * i + 1)) [(g1, 31, [.slice none 0 0, .slice none 0 0, .slice none 0 0, .slice none 0 0]), (g2, 31, [.slice sA sn sc, .slice (some ⟨bc, oc, none⟩) 4 cc, .slice vA k vc, .slice none 0 0]), (g4, 9, [.string ⟨#[118, 49]⟩, .string ⟨#[118, 50]⟩, .string ⟨#[118, 51]⟩, .string ⟨#[118, 52]⟩])] [⟨.slice vA k vc, 69, 2, k, vl.flatMap vhEnc⟩, ⟨.slice sA sn sc, 156, 15, sn, sl.flatMap stEnc⟩] [fun wy => SlT csEnc 2 158 wy (some ⟨bc, oc, none⟩) 4 cl] := by
    skip
    rw [hW]
    refine wa1 7 rfl ?_
    refine lk_ sc27 1 rfl rfl rfl (wl_nil ?_)
    refine nw 18 255 (fun _ hm => ⟨hm.bl 2, hm.bl 0, hm.fa 0, trivial⟩) fun z => ?_
    refine wt 8 18 511 rfl z (ov_len es27 rfl) ?_
    refine wa_set 38 (v' := .int .i64 4) rfl rfl ?_
    refine wa1 9 rfl ?_
    refine wl_got (γ := Int) (val := fun v => .int .i64 v) (φ := fun v => IsBelow 4 v) rfl cb29 rfl rfl rfl rfl (fun wx hm => (next_any _ wx B sb _ hm.k (by omega) (by omega) (by omega))) fun vj hvj => ?_
    have hj := isBelow_lt hvj (by omega)
    obtain ⟨j, rfl⟩ := Int.eq_ofNat_of_zero_le hj.1
    have hji : j < 4 := by omega
    obtain ⟨q, hq⟩ : ∃ q, cl[j]? = some q := ⟨_, List.getElem?_eq_getElem (by omega)⟩
    obtain ⟨u0, u1⟩ := q
    obtain ⟨hq0, hq1⟩ := hcok _ (List.mem_of_getElem? hq)
    have hq0 : u0.size ≤ 1000000 := hq0
    refine wl_nil ?_
    refine nw 18 1023 (fun _ hm => ⟨hm.bl 2, hm.bl 0, hm.fa 0, trivial⟩) fun z => ?_
    refine wt 10 18 2047 rfl z (ov_index (j := j) es27 rfl rfl (by omega)) ?_
    refine wt 11 18 4095 rfl z (ov_field fo158_0 rfl rfl) ?_
    refine wt 12 18 8191 rfl z (ov_elem1 (k := 0) (v := .string u0) sc9 rfl (fun _ hm => (hm.2.2.1)) hq rfl rfl) ?_
    refine wt 13 18 16383 rfl z (ov_build (cs := [.string nm, .string u0]) rfl (by kernel_rfl)) ?_
    refine wa1 14 rfl ?_
    refine wl_buildSlice (e := 69) (cs := [.string nm, .string u0]) rfl (by kernel_rfl) rfl fun g6 => ?_
    refine wl_nil ?_
    refine nw 18 32767 (fun _ hm => ⟨hm.bl 3, hm.bl 1, hm.fa 0, trivial⟩) fun z => ?_
    refine wa1 15 rfl ?_
    refine wl_append (news := [.string nm, .string u0]) 0 0 ap28 rfl rfl rfl rfl rfl rfl rfl (by omega) (by unfold maxLen; omega) rfl rfl fun v2 hv2 => ?_
    refine wl_look (R := ∃ A cc, v2 = .slice A (k + 1) cc) (fun wx hm => own_slice (hm.ownI 0 rfl)) ?_
    rintro ⟨vA2, vc2, rfl⟩
    refine wl_nil ?_
    refine nw 18 65535 (fun _ hm => ⟨hm.bl 3, hm.bl 1, hm.fa 0, trivial⟩) fun z => ?_
    refine wt 16 18 131071 rfl z (ov_field fo31_2 rfl rfl) ?_
    refine wa1 17 rfl ?_
    refine wl_store 2 sc28 rfl rfl rfl rfl rfl rfl ?_
    refine wl_nil ?_
    refine nw 18 262143 (fun _ hm => ⟨hm.bl 3, hm.bl 1, hm.fa 0, trivial⟩) fun z => ?_
    refine wa_done (by kernel_rfl) ?_
    refine nx_blk_nrm (nx_then (gw_region (ad_ rfl rfl (mv_ rfl (wl_nil ?_)))))
    have hxs : vl.flatMap vhEnc ++ ([.string nm, .string u0] : List Value) = (vl ++ [(⟨nm, u0⟩ : Vh)]).flatMap vhEnc := by simp [vhEnc]
    rw [hxs]
    exact nx_round (i + 1, k + 1, vA2, vc2, vl ++ [(⟨nm, u0⟩ : Vh)]) ⟨by dsimp only; omega, by dsimp only; omega, by simp [hvl], all_snoc hvB ⟨(show nm.size ≤ 1000 by omega), hq0⟩, vhG_snoc hvg hx hq⟩ (by dsimp only; omega) ⟨rfl, rfl, rfl, rfl, rfl, (some_int (by omega)), trivial⟩ (fun _ hm => (hm.more rfl (by first | omega | (dsimp only; omega))).pick [2, 3, 1] [0, 1] [0] rfl rfl)
   have T511 : W 9 (lb 18 511) [(0, .pointer (some ⟨sb, 0, none⟩)), (2, .pointer (some ⟨g1, 0, none⟩)), (3, .pointer (some ⟨g2, 0, none⟩)), (21, .slice (some ⟨g4, 0, none⟩) 4 4), (22, .int .i64 4), (23, .int .i64 ((i : Nat) : Int)), (31, .slice vA k vc), (32, .string nm), (34, .slice (some ⟨bc, oc, none⟩) 4 cc), (35, .pointer (some ⟨sb, 0, none⟩)), (38, .int .i64 4)] (fun w => Strm 25 w B sb (m + 120 + 2 * i + 1)) [(g1, 31, [.slice none 0 0, .slice none 0 0, .slice none 0 0, .slice none 0 0]), (g2, 31, [.slice sA sn sc, .slice (some ⟨bc, oc, none⟩) 4 cc, .slice vA k vc, .slice none 0 0]), (g4, 9, [.string ⟨#[118, 49]⟩, .string ⟨#[118, 50]⟩, .string ⟨#[118, 51]⟩, .string ⟨#[118, 52]⟩])] [⟨.slice vA k vc, 69, 2, k, vl.flatMap vhEnc⟩, ⟨.slice sA sn sc, 156, 15, sn, sl.flatMap stEnc⟩] [fun wy => SlT csEnc 2 158 wy (some ⟨bc, oc, none⟩) 4 cl] := by
    skip
    rw [hW]
    refine wa1 9 rfl ?_
    refine wl_got (γ := Int) (val := fun v => .int .i64 v) (φ := fun v => IsBelow 4 v) rfl cb29 rfl rfl rfl rfl (fun wx hm => (next_any _ wx B sb _ hm.k (by omega) (by omega) (by omega))) fun vj hvj => ?_
    have hj := isBelow_lt hvj (by omega)
    obtain ⟨j, rfl⟩ := Int.eq_ofNat_of_zero_le hj.1
    have hji : j < 4 := by omega
    obtain ⟨q, hq⟩ : ∃ q, cl[j]? = some q := ⟨_, List.getElem?_eq_getElem (by omega)⟩
    obtain ⟨u0, u1⟩ := q
    obtain ⟨hq0, hq1⟩ := hcok _ (List.mem_of_getElem? hq)
    have hq0 : u0.size ≤ 1000000 := hq0
    refine wl_nil ?_
    refine nw 18 1023 (fun _ hm => ⟨hm.bl 2, hm.bl 0, hm.fa 0, trivial⟩) fun z => ?_
    refine wt 10 18 2047 rfl z (ov_index (j := j) es27 rfl rfl (by omega)) ?_
    refine wt 11 18 4095 rfl z (ov_field fo158_0 rfl rfl) ?_
    refine wt 12 18 8191 rfl z (ov_elem1 (k := 0) (v := .string u0) sc9 rfl (fun _ hm => (hm.2.2.1)) hq rfl rfl) ?_
    refine wt 13 18 16383 rfl z (ov_build (cs := [.string nm, .string u0]) rfl (by kernel_rfl)) ?_
    refine wa1 14 rfl ?_
    refine wl_buildSlice (e := 69) (cs := [.string nm, .string u0]) rfl (by kernel_rfl) rfl fun g7 => ?_
    refine wl_nil ?_
    refine nw 18 32767 (fun _ hm => ⟨hm.bl 3, hm.bl 1, hm.fa 0, trivial⟩) fun z => ?_
    refine wa1 15 rfl ?_
    refine wl_append (news := [.string nm, .string u0]) 0 0 ap28 rfl rfl rfl rfl rfl rfl rfl (by omega) (by unfold maxLen; omega) rfl rfl fun v2 hv2 => ?_
    refine wl_look (R := ∃ A cc, v2 = .slice A (k + 1) cc) (fun wx hm => own_slice (hm.ownI 0 rfl)) ?_
    rintro ⟨vA2, vc2, rfl⟩
    refine wl_nil ?_
    refine nw 18 65535 (fun _ hm => ⟨hm.bl 3, hm.bl 1, hm.fa 0, trivial⟩) fun z => ?_
    refine wt 16 18 131071 rfl z (ov_field fo31_2 rfl rfl) ?_
    refine wa1 17 rfl ?_
    refine wl_store 2 sc28 rfl rfl rfl rfl rfl rfl ?_
    refine wl_nil ?_
    refine nw 18 262143 (fun _ hm => ⟨hm.bl 3, hm.bl 1, hm.fa 0, trivial⟩) fun z => ?_
    refine wa_done (by kernel_rfl) ?_
    refine nx_blk_nrm (nx_then (gw_region (ad_ rfl rfl (mv_ rfl (wl_nil ?_)))))
    have hxs : vl.flatMap vhEnc ++ ([.string nm, .string u0] : List Value) = (vl ++ [(⟨nm, u0⟩ : Vh)]).flatMap vhEnc := by simp [vhEnc]
    rw [hxs]
    exact nx_round (i + 1, k + 1, vA2, vc2, vl ++ [(⟨nm, u0⟩ : Vh)]) ⟨by dsimp only; omega, by dsimp only; omega, by simp [hvl], all_snoc hvB ⟨(show nm.size ≤ 1000 by omega), hq0⟩, vhG_snoc hvg hx hq⟩ (by dsimp only; omega) ⟨rfl, rfl, rfl, rfl, rfl, (some_int (by omega)), trivial⟩ (fun _ hm => (hm.more rfl (by first | omega | (dsimp only; omega))).pick [2, 3, 1] [0, 1] [0] rfl rfl)
   have T1007 : ∀ (j : Nat) (hji : j < 4) (u0 : ByteArray) (u1 : ByteArray) (hq : cl[j]? = some ⟨u0, u1⟩) (hq0 : u0.size ≤ 1000000), W 9 (lb 18 1007) [(0, .pointer (some ⟨sb, 0, none⟩)), (2, .pointer (some ⟨g1, 0, none⟩)), (3, .pointer (some ⟨g2, 0, none⟩)), (21, .slice (some ⟨g4, 0, none⟩) 4 4), (22, .int .i64 4), (23, .int .i64 ((i : Nat) : Int)), (31, .slice vA k vc), (32, .string nm), (33, .pointer (some ⟨g2, 1, none⟩)), (39, .int .i64 ((j : Nat) : Int))] (fun w => Strm 25 w B sb (m + 120 + 2 * i + 1 + 1)) [(g1, 31, [.slice none 0 0, .slice none 0 0, .slice none 0 0, .slice none 0 0]), (g2, 31, [.slice sA sn sc, .slice (some ⟨bc, oc, none⟩) 4 cc, .slice vA k vc, .slice none 0 0]), (g4, 9, [.string ⟨#[118, 49]⟩, .string ⟨#[118, 50]⟩, .string ⟨#[118, 51]⟩, .string ⟨#[118, 52]⟩])] [⟨.slice vA k vc, 69, 2, k, vl.flatMap vhEnc⟩, ⟨.slice sA sn sc, 156, 15, sn, sl.flatMap stEnc⟩] [fun wy => SlT csEnc 2 158 wy (some ⟨bc, oc, none⟩) 4 cl] := by
    intro j hji u0 u1 hq hq0
    rw [hW]
    refine wa1 4 rfl ?_
    refine lk_ sc27 1 rfl rfl rfl (wl_nil ?_)
    refine nw 18 1023 (fun _ hm => ⟨hm.bl 2, hm.bl 0, hm.fa 0, trivial⟩) fun z => ?_
    refine wt 10 18 2047 rfl z (ov_index (j := j) es27 rfl rfl (by omega)) ?_
    refine wt 11 18 4095 rfl z (ov_field fo158_0 rfl rfl) ?_
    refine wt 12 18 8191 rfl z (ov_elem1 (k := 0) (v := .string u0) sc9 rfl (fun _ hm => (hm.2.2.1)) hq rfl rfl) ?_
    refine wt 13 18 16383 rfl z (ov_build (cs := [.string nm, .string u0]) rfl (by kernel_rfl)) ?_
    refine wa1 14 rfl ?_
    refine wl_buildSlice (e := 69) (cs := [.string nm, .string u0]) rfl (by kernel_rfl) rfl fun g8 => ?_
    refine wl_nil ?_
    refine nw 18 32767 (fun _ hm => ⟨hm.bl 3, hm.bl 1, hm.fa 0, trivial⟩) fun z => ?_
    refine wa1 15 rfl ?_
    refine wl_append (news := [.string nm, .string u0]) 0 0 ap28 rfl rfl rfl rfl rfl rfl rfl (by omega) (by unfold maxLen; omega) rfl rfl fun v2 hv2 => ?_
    refine wl_look (R := ∃ A cc, v2 = .slice A (k + 1) cc) (fun wx hm => own_slice (hm.ownI 0 rfl)) ?_
    rintro ⟨vA2, vc2, rfl⟩
    refine wl_nil ?_
    refine nw 18 65535 (fun _ hm => ⟨hm.bl 3, hm.bl 1, hm.fa 0, trivial⟩) fun z => ?_
    refine wt 16 18 131071 rfl z (ov_field fo31_2 rfl rfl) ?_
    refine wa1 17 rfl ?_
    refine wl_store 2 sc28 rfl rfl rfl rfl rfl rfl ?_
    refine wl_nil ?_
    refine nw 18 262143 (fun _ hm => ⟨hm.bl 3, hm.bl 1, hm.fa 0, trivial⟩) fun z => ?_
    refine wa_done (by kernel_rfl) ?_
    refine nx_blk_nrm (nx_then (gw_region (ad_ rfl rfl (mv_ rfl (wl_nil ?_)))))
    have hxs : vl.flatMap vhEnc ++ ([.string nm, .string u0] : List Value) = (vl ++ [(⟨nm, u0⟩ : Vh)]).flatMap vhEnc := by simp [vhEnc]
    rw [hxs]
    exact nx_round (i + 1, k + 1, vA2, vc2, vl ++ [(⟨nm, u0⟩ : Vh)]) ⟨by dsimp only; omega, by dsimp only; omega, by simp [hvl], all_snoc hvB ⟨(show nm.size ≤ 1000 by omega), hq0⟩, vhG_snoc hvg hx hq⟩ (by dsimp only; omega) ⟨rfl, rfl, rfl, rfl, rfl, (some_int (by omega)), trivial⟩ (fun _ hm => (hm.more rfl (by first | omega | (dsimp only; omega))).pick [2, 3, 1] [0, 1] [0] rfl rfl)
   have J495 : W 10 (lb 18 495) [(0, .pointer (some ⟨sb, 0, none⟩)), (2, .pointer (some ⟨g1, 0, none⟩)), (3, .pointer (some ⟨g2, 0, none⟩)), (21, .slice (some ⟨g4, 0, none⟩) 4 4), (22, .int .i64 4), (23, .int .i64 ((i : Nat) : Int)), (31, .slice vA k vc), (32, .string nm), (33, .pointer (some ⟨g2, 1, none⟩)), (35, .pointer (some ⟨sb, 0, none⟩)), (38, .int .i64 4)] (fun w => Strm 25 w B sb (m + 120 + 2 * i + 1)) [(g1, 31, [.slice none 0 0, .slice none 0 0, .slice none 0 0, .slice none 0 0]), (g2, 31, [.slice sA sn sc, .slice (some ⟨bc, oc, none⟩) 4 cc, .slice vA k vc, .slice none 0 0]), (g4, 9, [.string ⟨#[118, 49]⟩, .string ⟨#[118, 50]⟩, .string ⟨#[118, 51]⟩, .string ⟨#[118, 52]⟩])] [⟨.slice vA k vc, 69, 2, k, vl.flatMap vhEnc⟩, ⟨.slice sA sn sc, 156, 15, sn, sl.flatMap stEnc⟩] [fun wy => SlT csEnc 2 158 wy (some ⟨bc, oc, none⟩) 4 cl] := by
    skip
    rw [hW]
    refine wa_all [4, 9] (by kernel_rfl) rfl ⟨⟨_, rfl, ?_⟩, ⟨_, rfl, ?_⟩, trivial⟩
    ·refine lk_ sc27 1 rfl rfl rfl (wl_nil ?_)
     refine nw 18 511 (fun _ hm => ⟨hm.bl 2, hm.bl 0, hm.fa 0, trivial⟩) fun z => ?_
     have h := T511 
     rw [hW] at h
     refine wa_weak ?_ ?_ h
     ·exact ⟨rfl, rfl, rfl, rfl, rfl, rfl, rfl, rfl, rfl, rfl, rfl, trivial⟩
     exact fun _ hm => hm.pick [0, 1, 2] [0, 1] [0] rfl rfl
    refine wl_got (γ := Int) (val := fun v => .int .i64 v) (φ := fun v => IsBelow 4 v) rfl cb29 rfl rfl rfl rfl (fun wx hm => (next_any _ wx B sb _ hm.k (by omega) (by omega) (by omega))) fun vj hvj => ?_
    have hj := isBelow_lt hvj (by omega)
    obtain ⟨j, rfl⟩ := Int.eq_ofNat_of_zero_le hj.1
    have hji : j < 4 := by omega
    obtain ⟨q, hq⟩ : ∃ q, cl[j]? = some q := ⟨_, List.getElem?_eq_getElem (by omega)⟩
    obtain ⟨u0, u1⟩ := q
    obtain ⟨hq0, hq1⟩ := hcok _ (List.mem_of_getElem? hq)
    have hq0 : u0.size ≤ 1000000 := hq0
    refine wl_nil ?_
    refine nw 18 1007 (fun _ hm => ⟨hm.bl 2, hm.bl 0, hm.fa 0, trivial⟩) fun z => ?_
    have h := T1007 j hji u0 u1 hq hq0
    rw [hW] at h
    refine wa_weak ?_ ?_ h
    ·exact ⟨rfl, rfl, rfl, rfl, rfl, rfl, rfl, rfl, rfl, rfl, trivial⟩
    exact fun _ hm => hm.pick [0, 1, 2] [0, 1] [0] rfl rfl
   have J111 : W 12 (lb 18 111) [(0, .pointer (some ⟨sb, 0, none⟩)), (2, .pointer (some ⟨g1, 0, none⟩)), (3, .pointer (some ⟨g2, 0, none⟩)), (21, .slice (some ⟨g4, 0, none⟩) 4 4), (22, .int .i64 4), (23, .int .i64 ((i : Nat) : Int)), (31, .slice vA k vc), (32, .string nm), (33, .pointer (some ⟨g2, 1, none⟩)), (35, .pointer (some ⟨sb, 0, none⟩)), (36, .pointer (some ⟨g2, 1, none⟩))] (fun w => Strm 25 w B sb (m + 120 + 2 * i + 1)) [(g1, 31, [.slice none 0 0, .slice none 0 0, .slice none 0 0, .slice none 0 0]), (g2, 31, [.slice sA sn sc, .slice (some ⟨bc, oc, none⟩) 4 cc, .slice vA k vc, .slice none 0 0]), (g4, 9, [.string ⟨#[118, 49]⟩, .string ⟨#[118, 50]⟩, .string ⟨#[118, 51]⟩, .string ⟨#[118, 52]⟩])] [⟨.slice vA k vc, 69, 2, k, vl.flatMap vhEnc⟩, ⟨.slice sA sn sc, 156, 15, sn, sl.flatMap stEnc⟩] [fun wy => SlT csEnc 2 158 wy (some ⟨bc, oc, none⟩) 4 cl] := by
    skip
    rw [hW]
    refine wa_all [4, 7] (by kernel_rfl) rfl ⟨⟨_, rfl, ?_⟩, ⟨_, rfl, ?_⟩, trivial⟩
    ·refine lk_ sc27 1 rfl rfl rfl (wl_nil ?_)
     refine nw 18 127 (fun _ hm => ⟨hm.bl 2, hm.bl 0, hm.fa 0, trivial⟩) fun z => ?_
     have h := T127 
     rw [hW] at h
     refine wa_weak ?_ ?_ h
     ·exact ⟨rfl, rfl, rfl, rfl, rfl, rfl, rfl, rfl, rfl, rfl, rfl, trivial⟩
     exact fun _ hm => hm.pick [0, 1, 2] [0, 1] [0] rfl rfl
    refine lk_ sc27 1 rfl rfl rfl (wl_nil ?_)
    refine nw 18 239 (fun _ hm => ⟨hm.bl 2, hm.bl 0, hm.fa 0, trivial⟩) fun z => ?_
    refine wt 8 18 495 rfl z (ov_len es27 rfl) ?_
    refine wa_set 38 (v' := .int .i64 4) rfl rfl ?_
    have h := J495 
    rw [hW] at h
    refine wa_weak ?_ ?_ h
    ·exact ⟨rfl, rfl, rfl, rfl, rfl, rfl, rfl, rfl, rfl, rfl, rfl, trivial⟩
    exact fun _ hm => hm.pick [0, 1, 2] [0, 1] [0] rfl rfl
   have T16383 : ∀ (j : Nat) (hji : j < 4) (u0 : ByteArray) (u1 : ByteArray) (hq : cl[j]? = some ⟨u0, u1⟩) (hq0 : u0.size ≤ 1000000), W 4 (lb 18 16383) [(0, .pointer (some ⟨sb, 0, none⟩)), (2, .pointer (some ⟨g1, 0, none⟩)), (3, .pointer (some ⟨g2, 0, none⟩)), (21, .slice (some ⟨g4, 0, none⟩) 4 4), (22, .int .i64 4), (23, .int .i64 ((i : Nat) : Int)), (31, .slice vA k vc), (43, .agg #[.string nm, .string u0])] (fun w => Strm 25 w B sb (m + 120 + 2 * i + 1 + 1)) [(g1, 31, [.slice none 0 0, .slice none 0 0, .slice none 0 0, .slice none 0 0]), (g2, 31, [.slice sA sn sc, .slice (some ⟨bc, oc, none⟩) 4 cc, .slice vA k vc, .slice none 0 0]), (g4, 9, [.string ⟨#[118, 49]⟩, .string ⟨#[118, 50]⟩, .string ⟨#[118, 51]⟩, .string ⟨#[118, 52]⟩])] [⟨.slice vA k vc, 69, 2, k, vl.flatMap vhEnc⟩, ⟨.slice sA sn sc, 156, 15, sn, sl.flatMap stEnc⟩] [fun wy => SlT csEnc 2 158 wy (some ⟨bc, oc, none⟩) 4 cl] := by
    intro j hji u0 u1 hq hq0
    rw [hW]
    refine wa1 14 rfl ?_
    refine wl_buildSlice (e := 69) (cs := [.string nm, .string u0]) rfl (by kernel_rfl) rfl fun g9 => ?_
    refine wl_nil ?_
    refine nw 18 32767 (fun _ hm => ⟨hm.bl 3, hm.bl 1, hm.fa 0, trivial⟩) fun z => ?_
    refine wa1 15 rfl ?_
    refine wl_append (news := [.string nm, .string u0]) 0 0 ap28 rfl rfl rfl rfl rfl rfl rfl (by omega) (by unfold maxLen; omega) rfl rfl fun v2 hv2 => ?_
    refine wl_look (R := ∃ A cc, v2 = .slice A (k + 1) cc) (fun wx hm => own_slice (hm.ownI 0 rfl)) ?_
    rintro ⟨vA2, vc2, rfl⟩
    refine wl_nil ?_
    refine nw 18 65535 (fun _ hm => ⟨hm.bl 3, hm.bl 1, hm.fa 0, trivial⟩) fun z => ?_
    refine wt 16 18 131071 rfl z (ov_field fo31_2 rfl rfl) ?_
    refine wa1 17 rfl ?_
    refine wl_store 2 sc28 rfl rfl rfl rfl rfl rfl ?_
    refine wl_nil ?_
    refine nw 18 262143 (fun _ hm => ⟨hm.bl 3, hm.bl 1, hm.fa 0, trivial⟩) fun z => ?_
    refine wa_done (by kernel_rfl) ?_
    refine nx_blk_nrm (nx_then (gw_region (ad_ rfl rfl (mv_ rfl (wl_nil ?_)))))
    have hxs : vl.flatMap vhEnc ++ ([.string nm, .string u0] : List Value) = (vl ++ [(⟨nm, u0⟩ : Vh)]).flatMap vhEnc := by simp [vhEnc]
    rw [hxs]
    exact nx_round (i + 1, k + 1, vA2, vc2, vl ++ [(⟨nm, u0⟩ : Vh)]) ⟨by dsimp only; omega, by dsimp only; omega, by simp [hvl], all_snoc hvB ⟨(show nm.size ≤ 1000 by omega), hq0⟩, vhG_snoc hvg hx hq⟩ (by dsimp only; omega) ⟨rfl, rfl, rfl, rfl, rfl, (some_int (by omega)), trivial⟩ (fun _ hm => (hm.more rfl (by first | omega | (dsimp only; omega))).pick [2, 3, 1] [0, 1] [0] rfl rfl)
   have T32765 : ∀ (j : Nat) (hji : j < 4) (u0 : ByteArray) (u1 : ByteArray) (hq : cl[j]? = some ⟨u0, u1⟩) (hq0 : u0.size ≤ 1000000) (q14 : Nat), W 4 (lb 18 32765) [(0, .pointer (some ⟨sb, 0, none⟩)), (2, .pointer (some ⟨g1, 0, none⟩)), (3, .pointer (some ⟨g2, 0, none⟩)), (21, .slice (some ⟨g4, 0, none⟩) 4 4), (22, .int .i64 4), (23, .int .i64 ((i : Nat) : Int)), (30, .pointer (some ⟨g2, 2, none⟩)), (44, .slice (some ⟨q14, 0, none⟩) 1 1)] (fun w => Strm 25 w B sb (m + 120 + 2 * i + 1 + 1)) [(g1, 31, [.slice none 0 0, .slice none 0 0, .slice none 0 0, .slice none 0 0]), (g2, 31, [.slice sA sn sc, .slice (some ⟨bc, oc, none⟩) 4 cc, .slice vA k vc, .slice none 0 0]), (g4, 9, [.string ⟨#[118, 49]⟩, .string ⟨#[118, 50]⟩, .string ⟨#[118, 51]⟩, .string ⟨#[118, 52]⟩]), (q14, 69, [.string nm, .string u0])] [⟨.slice vA k vc, 69, 2, k, vl.flatMap vhEnc⟩, ⟨.slice sA sn sc, 156, 15, sn, sl.flatMap stEnc⟩] [fun wy => SlT csEnc 2 158 wy (some ⟨bc, oc, none⟩) 4 cl] := by
    intro j hji u0 u1 hq hq0 q14
    rw [hW]
    refine wa1 1 rfl ?_
    refine lk_ sc28 1 rfl rfl rfl (wl_nil ?_)
    refine nw 18 32767 (fun _ hm => ⟨hm.bl 2, hm.bl 0, hm.fa 0, trivial⟩) fun z => ?_
    refine wa1 15 rfl ?_
    refine wl_append (news := [.string nm, .string u0]) 0 3 ap28 rfl rfl rfl rfl rfl rfl rfl (by omega) (by unfold maxLen; omega) rfl rfl fun v2 hv2 => ?_
    refine wl_look (R := ∃ A cc, v2 = .slice A (k + 1) cc) (fun wx hm => own_slice (hm.ownI 0 rfl)) ?_
    rintro ⟨vA2, vc2, rfl⟩
    refine wl_nil ?_
    refine nw 18 65535 (fun _ hm => ⟨hm.bl 2, hm.bl 0, hm.fa 0, trivial⟩) fun z => ?_
    refine wt 16 18 131071 rfl z (ov_field fo31_2 rfl rfl) ?_
    refine wa1 17 rfl ?_
    refine wl_store 1 sc28 rfl rfl rfl rfl rfl rfl ?_
    refine wl_nil ?_
    refine nw 18 262143 (fun _ hm => ⟨hm.bl 2, hm.bl 0, hm.fa 0, trivial⟩) fun z => ?_
    refine wa_done (by kernel_rfl) ?_
    refine nx_blk_nrm (nx_then (gw_region (ad_ rfl rfl (mv_ rfl (wl_nil ?_)))))
    have hxs : vl.flatMap vhEnc ++ ([.string nm, .string u0] : List Value) = (vl ++ [(⟨nm, u0⟩ : Vh)]).flatMap vhEnc := by simp [vhEnc]
    rw [hxs]
    exact nx_round (i + 1, k + 1, vA2, vc2, vl ++ [(⟨nm, u0⟩ : Vh)]) ⟨by dsimp only; omega, by dsimp only; omega, by simp [hvl], all_snoc hvB ⟨(show nm.size ≤ 1000 by omega), hq0⟩, vhG_snoc hvg hx hq⟩ (by dsimp only; omega) ⟨rfl, rfl, rfl, rfl, rfl, (some_int (by omega)), trivial⟩ (fun _ hm => (hm.more rfl (by first | omega | (dsimp only; omega))).pick [1, 2, 0] [0, 1] [0] rfl rfl)
   have J16381 : ∀ (j : Nat) (hji : j < 4) (u0 : ByteArray) (u1 : ByteArray) (hq : cl[j]? = some ⟨u0, u1⟩) (hq0 : u0.size ≤ 1000000), W 5 (lb 18 16381) [(0, .pointer (some ⟨sb, 0, none⟩)), (2, .pointer (some ⟨g1, 0, none⟩)), (3, .pointer (some ⟨g2, 0, none⟩)), (21, .slice (some ⟨g4, 0, none⟩) 4 4), (22, .int .i64 4), (23, .int .i64 ((i : Nat) : Int)), (30, .pointer (some ⟨g2, 2, none⟩)), (43, .agg #[.string nm, .string u0])] (fun w => Strm 25 w B sb (m + 120 + 2 * i + 1 + 1)) [(g1, 31, [.slice none 0 0, .slice none 0 0, .slice none 0 0, .slice none 0 0]), (g2, 31, [.slice sA sn sc, .slice (some ⟨bc, oc, none⟩) 4 cc, .slice vA k vc, .slice none 0 0]), (g4, 9, [.string ⟨#[118, 49]⟩, .string ⟨#[118, 50]⟩, .string ⟨#[118, 51]⟩, .string ⟨#[118, 52]⟩])] [⟨.slice vA k vc, 69, 2, k, vl.flatMap vhEnc⟩, ⟨.slice sA sn sc, 156, 15, sn, sl.flatMap stEnc⟩] [fun wy => SlT csEnc 2 158 wy (some ⟨bc, oc, none⟩) 4 cl] := by
    intro j hji u0 u1 hq hq0
    rw [hW]
    refine wa_all [1, 14] (by kernel_rfl) rfl ⟨⟨_, rfl, ?_⟩, ⟨_, rfl, ?_⟩, trivial⟩
    ·refine lk_ sc28 1 rfl rfl rfl (wl_nil ?_)
     refine nw 18 16383 (fun _ hm => ⟨hm.bl 2, hm.bl 0, hm.fa 0, trivial⟩) fun z => ?_
     have h := T16383 j hji u0 u1 hq hq0
     rw [hW] at h
     refine wa_weak ?_ ?_ h
     ·exact ⟨rfl, rfl, rfl, rfl, rfl, rfl, rfl, rfl, trivial⟩
     exact fun _ hm => hm.pick [0, 1, 2] [0, 1] [0] rfl rfl
    refine wl_buildSlice (e := 69) (cs := [.string nm, .string u0]) rfl (by kernel_rfl) rfl fun q14 => ?_
    refine wl_nil ?_
    refine nw 18 32765 (fun _ hm => ⟨hm.bl 3, hm.bl 1, hm.fa 0, trivial⟩) fun z => ?_
    have h := T32765 j hji u0 u1 hq hq0 q14
    rw [hW] at h
    refine wa_weak ?_ ?_ h
    ·exact ⟨rfl, rfl, rfl, rfl, rfl, rfl, rfl, rfl, trivial⟩
    exact fun _ hm => hm.pick [1, 2, 3, 0] [0, 1] [0] rfl rfl
   have J509 : W 10 (lb 18 509) [(0, .pointer (some ⟨sb, 0, none⟩)), (2, .pointer (some ⟨g1, 0, none⟩)), (3, .pointer (some ⟨g2, 0, none⟩)), (21, .slice (some ⟨g4, 0, none⟩) 4 4), (22, .int .i64 4), (23, .int .i64 ((i : Nat) : Int)), (30, .pointer (some ⟨g2, 2, none⟩)), (32, .string nm), (34, .slice (some ⟨bc, oc, none⟩) 4 cc), (35, .pointer (some ⟨sb, 0, none⟩)), (38, .int .i64 4)] (fun w => Strm 25 w B sb (m + 120 + 2 * i + 1)) [(g1, 31, [.slice none 0 0, .slice none 0 0, .slice none 0 0, .slice none 0 0]), (g2, 31, [.slice sA sn sc, .slice (some ⟨bc, oc, none⟩) 4 cc, .slice vA k vc, .slice none 0 0]), (g4, 9, [.string ⟨#[118, 49]⟩, .string ⟨#[118, 50]⟩, .string ⟨#[118, 51]⟩, .string ⟨#[118, 52]⟩])] [⟨.slice vA k vc, 69, 2, k, vl.flatMap vhEnc⟩, ⟨.slice sA sn sc, 156, 15, sn, sl.flatMap stEnc⟩] [fun wy => SlT csEnc 2 158 wy (some ⟨bc, oc, none⟩) 4 cl] := by
    skip
    rw [hW]
    refine wa_all [1, 9] (by kernel_rfl) rfl ⟨⟨_, rfl, ?_⟩, ⟨_, rfl, ?_⟩, trivial⟩
    ·refine lk_ sc28 1 rfl rfl rfl (wl_nil ?_)
     refine nw 18 511 (fun _ hm => ⟨hm.bl 2, hm.bl 0, hm.fa 0, trivial⟩) fun z => ?_
     have h := T511 
     rw [hW] at h
     refine wa_weak ?_ ?_ h
     ·exact ⟨rfl, rfl, rfl, rfl, rfl, rfl, rfl, rfl, rfl, rfl, rfl, trivial⟩
     exact fun _ hm => hm.pick [0, 1, 2] [0, 1] [0] rfl rfl
    refine wl_got (γ := Int) (val := fun v => .int .i64 v) (φ := fun v => IsBelow 4 v) rfl cb29 rfl rfl rfl rfl (fun wx hm => (next_any _ wx B sb _ hm.k (by omega) (by omega) (by omega))) fun vj hvj => ?_
    have hj := isBelow_lt hvj (by omega)
    obtain ⟨j, rfl⟩ := Int.eq_ofNat_of_zero_le hj.1
    have hji : j < 4 := by omega
    obtain ⟨q, hq⟩ : ∃ q, cl[j]? = some q := ⟨_, List.getElem?_eq_getElem (by omega)⟩
    obtain ⟨u0, u1⟩ := q
    obtain ⟨hq0, hq1⟩ := hcok _ (List.mem_of_getElem? hq)
    have hq0 : u0.size ≤ 1000000 := hq0
    refine wl_nil ?_
    refine nw 18 1021 (fun _ hm => ⟨hm.bl 2, hm.bl 0, hm.fa 0, trivial⟩) fun z => ?_
    refine wt 10 18 2045 rfl z (ov_index (j := j) es27 rfl rfl (by omega)) ?_
    refine wt 11 18 4093 rfl z (ov_field fo158_0 rfl rfl) ?_
    refine wt 12 18 8189 rfl z (ov_elem1 (k := 0) (v := .string u0) sc9 rfl (fun _ hm => (hm.2.2.1)) hq rfl rfl) ?_
    refine wt 13 18 16381 rfl z (ov_build (cs := [.string nm, .string u0]) rfl (by kernel_rfl)) ?_
    have h := J16381 j hji u0 u1 hq hq0
    rw [hW] at h
    refine wa_weak ?_ ?_ h
    ·exact ⟨rfl, rfl, rfl, rfl, rfl, rfl, rfl, rfl, trivial⟩
    exact fun _ hm => hm.pick [0, 1, 2] [0, 1] [0] rfl rfl
   have J125 : W 12 (lb 18 125) [(0, .pointer (some ⟨sb, 0, none⟩)), (2, .pointer (some ⟨g1, 0, none⟩)), (3, .pointer (some ⟨g2, 0, none⟩)), (21, .slice (some ⟨g4, 0, none⟩) 4 4), (22, .int .i64 4), (23, .int .i64 ((i : Nat) : Int)), (30, .pointer (some ⟨g2, 2, none⟩)), (32, .string nm), (34, .slice (some ⟨bc, oc, none⟩) 4 cc), (35, .pointer (some ⟨sb, 0, none⟩)), (36, .pointer (some ⟨g2, 1, none⟩))] (fun w => Strm 25 w B sb (m + 120 + 2 * i + 1)) [(g1, 31, [.slice none 0 0, .slice none 0 0, .slice none 0 0, .slice none 0 0]), (g2, 31, [.slice sA sn sc, .slice (some ⟨bc, oc, none⟩) 4 cc, .slice vA k vc, .slice none 0 0]), (g4, 9, [.string ⟨#[118, 49]⟩, .string ⟨#[118, 50]⟩, .string ⟨#[118, 51]⟩, .string ⟨#[118, 52]⟩])] [⟨.slice vA k vc, 69, 2, k, vl.flatMap vhEnc⟩, ⟨.slice sA sn sc, 156, 15, sn, sl.flatMap stEnc⟩] [fun wy => SlT csEnc 2 158 wy (some ⟨bc, oc, none⟩) 4 cl] := by
    skip
    rw [hW]
    refine wa_all [1, 7] (by kernel_rfl) rfl ⟨⟨_, rfl, ?_⟩, ⟨_, rfl, ?_⟩, trivial⟩
    ·refine lk_ sc28 1 rfl rfl rfl (wl_nil ?_)
     refine nw 18 127 (fun _ hm => ⟨hm.bl 2, hm.bl 0, hm.fa 0, trivial⟩) fun z => ?_
     have h := T127 
     rw [hW] at h
     refine wa_weak ?_ ?_ h
     ·exact ⟨rfl, rfl, rfl, rfl, rfl, rfl, rfl, rfl, rfl, rfl, rfl, trivial⟩
     exact fun _ hm => hm.pick [0, 1, 2] [0, 1] [0] rfl rfl
    refine lk_ sc27 1 rfl rfl rfl (wl_nil ?_)
    refine nw 18 253 (fun _ hm => ⟨hm.bl 2, hm.bl 0, hm.fa 0, trivial⟩) fun z => ?_
    refine wt 8 18 509 rfl z (ov_len es27 rfl) ?_
    refine wa_set 38 (v' := .int .i64 4) rfl rfl ?_
    have h := J509 
    rw [hW] at h
    refine wa_weak ?_ ?_ h
    ·exact ⟨rfl, rfl, rfl, rfl, rfl, rfl, rfl, rfl, rfl, rfl, rfl, trivial⟩
    exact fun _ hm => hm.pick [0, 1, 2] [0, 1] [0] rfl rfl
   have J1005 : ∀ (j : Nat) (hji : j < 4) (u0 : ByteArray) (u1 : ByteArray) (hq : cl[j]? = some ⟨u0, u1⟩) (hq0 : u0.size ≤ 1000000), W 10 (lb 18 1005) [(0, .pointer (some ⟨sb, 0, none⟩)), (2, .pointer (some ⟨g1, 0, none⟩)), (3, .pointer (some ⟨g2, 0, none⟩)), (21, .slice (some ⟨g4, 0, none⟩) 4 4), (22, .int .i64 4), (23, .int .i64 ((i : Nat) : Int)), (30, .pointer (some ⟨g2, 2, none⟩)), (32, .string nm), (33, .pointer (some ⟨g2, 1, none⟩)), (39, .int .i64 ((j : Nat) : Int))] (fun w => Strm 25 w B sb (m + 120 + 2 * i + 1 + 1)) [(g1, 31, [.slice none 0 0, .slice none 0 0, .slice none 0 0, .slice none 0 0]), (g2, 31, [.slice sA sn sc, .slice (some ⟨bc, oc, none⟩) 4 cc, .slice vA k vc, .slice none 0 0]), (g4, 9, [.string ⟨#[118, 49]⟩, .string ⟨#[118, 50]⟩, .string ⟨#[118, 51]⟩, .string ⟨#[118, 52]⟩])] [⟨.slice vA k vc, 69, 2, k, vl.flatMap vhEnc⟩, ⟨.slice sA sn sc, 156, 15, sn, sl.flatMap stEnc⟩] [fun wy => SlT csEnc 2 158 wy (some ⟨bc, oc, none⟩) 4 cl] := by
    intro j hji u0 u1 hq hq0
    rw [hW]
    refine wa_all [1, 4] (by kernel_rfl) rfl ⟨⟨_, rfl, ?_⟩, ⟨_, rfl, ?_⟩, trivial⟩
    ·refine lk_ sc28 1 rfl rfl rfl (wl_nil ?_)
     refine nw 18 1007 (fun _ hm => ⟨hm.bl 2, hm.bl 0, hm.fa 0, trivial⟩) fun z => ?_
     have h := T1007 j hji u0 u1 hq hq0
     rw [hW] at h
     refine wa_weak ?_ ?_ h
     ·exact ⟨rfl, rfl, rfl, rfl, rfl, rfl, rfl, rfl, rfl, rfl, trivial⟩
     exact fun _ hm => hm.pick [0, 1, 2] [0, 1] [0] rfl rfl
    refine lk_ sc27 1 rfl rfl rfl (wl_nil ?_)
    refine nw 18 1021 (fun _ hm => ⟨hm.bl 2, hm.bl 0, hm.fa 0, trivial⟩) fun z => ?_
    refine wt 10 18 2045 rfl z (ov_index (j := j) es27 rfl rfl (by omega)) ?_
    refine wt 11 18 4093 rfl z (ov_field fo158_0 rfl rfl) ?_
    refine wt 12 18 8189 rfl z (ov_elem1 (k := 0) (v := .string u0) sc9 rfl (fun _ hm => (hm.2.2.1)) hq rfl rfl) ?_
    refine wt 13 18 16381 rfl z (ov_build (cs := [.string nm, .string u0]) rfl (by kernel_rfl)) ?_
    have h := J16381 j hji u0 u1 hq hq0
    rw [hW] at h
    refine wa_weak ?_ ?_ h
    ·exact ⟨rfl, rfl, rfl, rfl, rfl, rfl, rfl, rfl, trivial⟩
    exact fun _ hm => hm.pick [0, 1, 2] [0, 1] [0] rfl rfl
   have J493 : W 11 (lb 18 493) [(0, .pointer (some ⟨sb, 0, none⟩)), (2, .pointer (some ⟨g1, 0, none⟩)), (3, .pointer (some ⟨g2, 0, none⟩)), (21, .slice (some ⟨g4, 0, none⟩) 4 4), (22, .int .i64 4), (23, .int .i64 ((i : Nat) : Int)), (30, .pointer (some ⟨g2, 2, none⟩)), (32, .string nm), (33, .pointer (some ⟨g2, 1, none⟩)), (35, .pointer (some ⟨sb, 0, none⟩)), (38, .int .i64 4)] (fun w => Strm 25 w B sb (m + 120 + 2 * i + 1)) [(g1, 31, [.slice none 0 0, .slice none 0 0, .slice none 0 0, .slice none 0 0]), (g2, 31, [.slice sA sn sc, .slice (some ⟨bc, oc, none⟩) 4 cc, .slice vA k vc, .slice none 0 0]), (g4, 9, [.string ⟨#[118, 49]⟩, .string ⟨#[118, 50]⟩, .string ⟨#[118, 51]⟩, .string ⟨#[118, 52]⟩])] [⟨.slice vA k vc, 69, 2, k, vl.flatMap vhEnc⟩, ⟨.slice sA sn sc, 156, 15, sn, sl.flatMap stEnc⟩] [fun wy => SlT csEnc 2 158 wy (some ⟨bc, oc, none⟩) 4 cl] := by
    skip
    rw [hW]
    refine wa_all [1, 4, 9] (by kernel_rfl) rfl ⟨⟨_, rfl, ?_⟩, ⟨_, rfl, ?_⟩, ⟨_, rfl, ?_⟩, trivial⟩
    ·refine lk_ sc28 1 rfl rfl rfl (wl_nil ?_)
     refine nw 18 495 (fun _ hm => ⟨hm.bl 2, hm.bl 0, hm.fa 0, trivial⟩) fun z => ?_
     have h := J495 
     rw [hW] at h
     refine wa_weak ?_ ?_ h
     ·exact ⟨rfl, rfl, rfl, rfl, rfl, rfl, rfl, rfl, rfl, rfl, rfl, trivial⟩
     exact fun _ hm => hm.pick [0, 1, 2] [0, 1] [0] rfl rfl
    ·refine lk_ sc27 1 rfl rfl rfl (wl_nil ?_)
     refine nw 18 509 (fun _ hm => ⟨hm.bl 2, hm.bl 0, hm.fa 0, trivial⟩) fun z => ?_
     have h := J509 
     rw [hW] at h
     refine wa_weak ?_ ?_ h
     ·exact ⟨rfl, rfl, rfl, rfl, rfl, rfl, rfl, rfl, rfl, rfl, rfl, trivial⟩
     exact fun _ hm => hm.pick [0, 1, 2] [0, 1] [0] rfl rfl
    refine wl_got (γ := Int) (val := fun v => .int .i64 v) (φ := fun v => IsBelow 4 v) rfl cb29 rfl rfl rfl rfl (fun wx hm => (next_any _ wx B sb _ hm.k (by omega) (by omega) (by omega))) fun vj hvj => ?_
    have hj := isBelow_lt hvj (by omega)
    obtain ⟨j, rfl⟩ := Int.eq_ofNat_of_zero_le hj.1
    have hji : j < 4 := by omega
    obtain ⟨q, hq⟩ : ∃ q, cl[j]? = some q := ⟨_, List.getElem?_eq_getElem (by omega)⟩
    obtain ⟨u0, u1⟩ := q
    obtain ⟨hq0, hq1⟩ := hcok _ (List.mem_of_getElem? hq)
    have hq0 : u0.size ≤ 1000000 := hq0
    refine wl_nil ?_
    refine nw 18 1005 (fun _ hm => ⟨hm.bl 2, hm.bl 0, hm.fa 0, trivial⟩) fun z => ?_
    have h := J1005 j hji u0 u1 hq hq0
    rw [hW] at h
    refine wa_weak ?_ ?_ h
    ·exact ⟨rfl, rfl, rfl, rfl, rfl, rfl, rfl, rfl, rfl, rfl, trivial⟩
    exact fun _ hm => hm.pick [0, 1, 2] [0, 1] [0] rfl rfl
   have J109 : W 13 (lb 18 109) [(0, .pointer (some ⟨sb, 0, none⟩)), (2, .pointer (some ⟨g1, 0, none⟩)), (3, .pointer (some ⟨g2, 0, none⟩)), (21, .slice (some ⟨g4, 0, none⟩) 4 4), (22, .int .i64 4), (23, .int .i64 ((i : Nat) : Int)), (30, .pointer (some ⟨g2, 2, none⟩)), (32, .string nm), (33, .pointer (some ⟨g2, 1, none⟩)), (35, .pointer (some ⟨sb, 0, none⟩)), (36, .pointer (some ⟨g2, 1, none⟩))] (fun w => Strm 25 w B sb (m + 120 + 2 * i + 1)) [(g1, 31, [.slice none 0 0, .slice none 0 0, .slice none 0 0, .slice none 0 0]), (g2, 31, [.slice sA sn sc, .slice (some ⟨bc, oc, none⟩) 4 cc, .slice vA k vc, .slice none 0 0]), (g4, 9, [.string ⟨#[118, 49]⟩, .string ⟨#[118, 50]⟩, .string ⟨#[118, 51]⟩, .string ⟨#[118, 52]⟩])] [⟨.slice vA k vc, 69, 2, k, vl.flatMap vhEnc⟩, ⟨.slice sA sn sc, 156, 15, sn, sl.flatMap stEnc⟩] [fun wy => SlT csEnc 2 158 wy (some ⟨bc, oc, none⟩) 4 cl] := by
    skip
    rw [hW]
    refine wa_all [1, 4, 7] (by kernel_rfl) rfl ⟨⟨_, rfl, ?_⟩, ⟨_, rfl, ?_⟩, ⟨_, rfl, ?_⟩, trivial⟩
    ·refine lk_ sc28 1 rfl rfl rfl (wl_nil ?_)
     refine nw 18 111 (fun _ hm => ⟨hm.bl 2, hm.bl 0, hm.fa 0, trivial⟩) fun z => ?_
     have h := J111 
     rw [hW] at h
     refine wa_weak ?_ ?_ h
     ·exact ⟨rfl, rfl, rfl, rfl, rfl, rfl, rfl, rfl, rfl, rfl, rfl, trivial⟩
     exact fun _ hm => hm.pick [0, 1, 2] [0, 1] [0] rfl rfl
    ·refine lk_ sc27 1 rfl rfl rfl (wl_nil ?_)
     refine nw 18 125 (fun _ hm => ⟨hm.bl 2, hm.bl 0, hm.fa 0, trivial⟩) fun z => ?_
     have h := J125 
     rw [hW] at h
     refine wa_weak ?_ ?_ h
     ·exact ⟨rfl, rfl, rfl, rfl, rfl, rfl, rfl, rfl, rfl, rfl, rfl, trivial⟩
     exact fun _ hm => hm.pick [0, 1, 2] [0, 1] [0] rfl rfl
    refine lk_ sc27 1 rfl rfl rfl (wl_nil ?_)
    refine nw 18 237 (fun _ hm => ⟨hm.bl 2, hm.bl 0, hm.fa 0, trivial⟩) fun z => ?_
    refine wt 8 18 493 rfl z (ov_len es27 rfl) ?_
    refine wa_set 38 (v' := .int .i64 4) rfl rfl ?_
    have h := J493 
    rw [hW] at h
    refine wa_weak ?_ ?_ h
    ·exact ⟨rfl, rfl, rfl, rfl, rfl, rfl, rfl, rfl, rfl, rfl, rfl, trivial⟩
    exact fun _ hm => hm.pick [0, 1, 2] [0, 1] [0] rfl rfl
   rw [hW]
   have h := J109 
   rw [hW] at h
   refine wa_weak ?_ ?_ h
   ·exact ⟨rfl, rfl, rfl, rfl, rfl, rfl, rfl, rfl, rfl, rfl, rfl, trivial⟩
   exact fun _ hm => hm.pick [2, 0, 1] [0, 1] [0] rfl rfl
  have hf : f5 = true := by simpa using hh
  clear hh
  refine gw_skip (nx_blk_nrm (nx_then (gw_region (ad_ rfl rfl (mv_ rfl (wl_nil ?_))))))
  exact nx_round (i + 1, k, vA, vc, vl) ⟨by dsimp only; omega, by dsimp only; omega, hvl, hvB, vhG_more hvg⟩ (by dsimp only; omega) ⟨rfl, rfl, rfl, rfl, rfl, (some_int (by omega)), trivial⟩ (fun _ hm => (hm.more rfl (by first | omega | (dsimp only; omega))).pick [0, 1, 2] [0, 1] [0] rfl rfl)
 have hi : ¬ (((i : Nat) : Int) < 4) := by simpa using hh
 clear hh
 refine gw_exit ?_
 refine nx_then_exit (nx_then_exit ?_)
 refine nx_blk_here ?_
 refine nx_then (gw_seq (sr_ (mv_ rfl ?_)))
 refine wl_got (γ := Int) (val := fun v => .int .i64 v) (φ := fun v => 0 ≤ v ∧ (v ≤ 5 ∨ v = 0)) rfl cb10 rfl rfl rfl rfl (fun wx hm => (range_any _ _ wx B sb _ hm.k (by omega) (by omega) (by omega) (by omega) (by omega))) fun v10 hv10 => ?_
 refine mv_ rfl (nn_ (gw_block ?_))
 have hk4 : k ≤ 4 := by omega
 obtain ⟨R, hRR⟩ := Int.eq_ofNat_of_zero_le (show 0 ≤ v10 by omega)
 have hR5 : R ≤ 5 := by omega
 subst hRR
 refine gw_nilOwn 164 3 ?_
 refine gw_loop (γ := Nat × Option Addr × Nat × Nat × List Pl) (fun g => g.1 ≤ R ∧ g.2.2.1 ≤ g.1 ∧ g.2.2.2.2.length = g.2.2.1 ∧ (∀ x ∈ g.2.2.2.2, PlB x) ∧ fleetE sl cl vl g.2.2.2.2 = 0) (fun g => [(0, .pointer (some ⟨sb, 0, none⟩)), (2, .pointer (some ⟨g1, 0, none⟩)), (3, .pointer (some ⟨g2, 0, none⟩)), (49, .int .i64 ((R : Nat) : Int)), (50, .int .i64 ((g.1 : Nat) : Int))]) (fun g => fun w => Strm 25 w B sb (m + 140 + 10 * g.1)) (fun g => [(g2, 31, [.slice sA sn sc, .slice cA 4 cc, .slice vA k vc, .slice g.2.1 g.2.2.1 g.2.2.2.1]), (g1, 31, [.slice none 0 0, .slice none 0 0, .slice none 0 0, .slice none 0 0])]) (fun g => [⟨.slice g.2.1 g.2.2.1 g.2.2.2.1, 164, 3, g.2.2.1, g.2.2.2.2.flatMap plEnc⟩, ⟨.slice vA k vc, 69, 2, k, vl.flatMap vhEnc⟩, ⟨.slice sA sn sc, 156, 15, sn, sl.flatMap stEnc⟩]) (fun g => [fun wy => SlT csEnc 2 158 wy cA 4 cl]) (fun g => R - g.1) (0, none, 0, 0, []) ⟨Nat.zero_le _, Nat.le_refl _, rfl, (fun _ h => by cases h), fleet_start hsz hcz hvg (by omega)⟩ ⟨rfl, rfl, rfl, rfl, rfl, trivial⟩ (fun _ hm => (hm.more rfl (by first | omega | (dsimp only; omega))).pick [0, 2] [0, 1, 2] [0] rfl rfl) ?_
 rintro ⟨j, pA, pn, pc, pl⟩ hinv
 replace hinv : j ≤ R ∧ pn ≤ j ∧ pl.length = pn ∧ (∀ x ∈ pl, PlB x) ∧ fleetE sl cl vl pl = 0 := hinv
 dsimp only
 refine sr_ ?_
 obtain ⟨hj0, hpj, hpl, hpB, hfz⟩ := hinv
 refine wl_ov (ov_lss rfl rfl) rfl (nn_ (gw_seq ?_))
 refine gw_cond rfl (fun hh => ?_) (fun hh => ?_)
 ·have hj : ((j : Nat) : Int) < ((R : Nat) : Int) := by simpa using hh
  clear hh
  refine gw_skip (nx_then (gw_seq (gw_block (gw_seq (sr_ (fd_ fo31_2 rfl rfl (lk_ sc28 0 rfl rfl rfl (wl_ov (ov_len es28 rfl) rfl (wl_ov (ov_eql rfl rfl) rfl (nn_ ?_))))))))))
  refine gw_cond rfl (fun hh => ?_) (fun hh => ?_)
  ·have hk0 : ((k : Nat) : Int) = 0 := by simpa using hh
   clear hh
   refine gw_exit ?_
   refine nx_then_exit ?_
   refine nx_blk_on rfl ?_
   refine nx_then_exit (nx_then_exit ?_)
   refine nx_blk_here ?_
   refine nx_then (sr_ ?_)
   refine wl_ov (ov_loads rz31 rfl (fun _ hm => hm.blkI 0 rfl) rfl rfl) rfl ?_
   refine wl_stores (cs' := [.slice sA sn sc, .slice cA 4 cc, .slice vA k vc, .slice pA pn pc]) 1 rz31 rfl rfl rfl rfl rfl rfl rfl rfl ?_
   refine nn_ ?_
   refine gw_ret ?_
   refine nx_retc 1 rfl rz31 rfl rfl rfl fun wx hm => ?_
   exact ⟨sA, cA, vA, pA, sn, sc, cc, k, vc, pn, pc, sl, cl, vl, pl, rfl, ⟨⟨⟨hsl, hsB, hs1, hs3⟩, ⟨hcl4, hcok⟩, ⟨hvl, hvB, by omega⟩, ⟨hpl, hpB, by omega⟩⟩, hfz⟩, hm.k.more (by omega), hm.g, (hm.ownI 2 rfl), (hm.ownI 1 rfl), (hm.ownI 0 rfl), (hm.fact 0 rfl)⟩
  have hk0 : ¬ (((k : Nat) : Int) = 0) := by simpa using hh
  clear hh
  refine gw_skip (nx_then ?_)
  refine gw_look (R := ∃ g, vA = some ⟨g, 0, none⟩) (fun wx hm => own_addr (hm.ownI 1 rfl) (by omega)) ?_
  rintro ⟨bv, rfl⟩
  refine gw_cut (γ := Nat × Int × ByteArray × ByteArray) (I := (fun g => PlB ⟨g.2.1, g.2.2.1, g.2.2.2⟩)) (S' := (fun g => [(0, .pointer (some ⟨sb, 0, none⟩)), (2, .pointer (some ⟨g1, 0, none⟩)), (3, .pointer (some ⟨g2, 0, none⟩)), (6, .pointer (some ⟨g.1, 0, none⟩)), (49, .int .i64 ((R : Nat) : Int)), (50, .int .i64 ((j : Nat) : Int))])) (K' := (fun g => fun w => Strm 25 w B sb (m + 140 + 10 * j + 9))) (L' := (fun g => [(g.1, 164, [.int .i64 g.2.1, .string g.2.2.1, .string g.2.2.2]), (g2, 31, [.slice sA sn sc, .slice cA 4 cc, .slice (some ⟨bv, 0, none⟩) k vc, .slice pA pn pc]), (g1, 31, [.slice none 0 0, .slice none 0 0, .slice none 0 0, .slice none 0 0])])) (O' := (fun g => [⟨.slice pA pn pc, 164, 3, pn, pl.flatMap plEnc⟩, ⟨.slice (some ⟨bv, 0, none⟩) k vc, 69, 2, k, vl.flatMap vhEnc⟩, ⟨.slice sA sn sc, 156, 15, sn, sl.flatMap stEnc⟩])) (X' := (fun g => [fun wy => SlT csEnc 2 158 wy cA 4 cl])) ?_ ?_
  ·refine gd (fun wz => Blk wz g2 31 [.slice sA sn sc, .slice cA 4 cc, .slice (some ⟨bv, 0, none⟩) k vc, .slice pA pn pc] ∧ Blk wz g1 31 [.slice none 0 0, .slice none 0 0, .slice none 0 0, .slice none 0 0] ∧ (fun wy => SlT csEnc 2 158 wy cA 4 cl) wz ∧ wz.ownsRow w.heap.size 164 3 (.slice pA pn pc) pn (pl.flatMap plEnc) ∧ wz.ownsRow w.heap.size 69 2 (.slice (some ⟨bv, 0, none⟩) k vc) k (vl.flatMap vhEnc) ∧ wz.ownsRow w.heap.size 156 15 (.slice sA sn sc) sn (sl.flatMap stEnc) ∧ True) mixed (fun _ hm => ⟨hm.bl 0, hm.bl 1, hm.fa 0, hm.ownI 0 rfl, hm.ownI 1 rfl, hm.ownI 2 rfl, trivial⟩) fun z => ?_
   refine wt 0 19 1 rfl z (ov_move rfl) ?_
   refine wt 3 19 9 rfl z (ov_field fo31_2 rfl rfl) ?_
   refine wt 4 19 25 rfl z (ov_load sc28 rfl (fun _ hm => hm.1) rfl) ?_
   refine wt 5 19 57 rfl z (ov_move rfl) ?_
   refine wt 6 19 121 rfl z (ov_field fo31_2 rfl rfl) ?_
   refine wt 7 19 249 rfl z (ov_load sc28 rfl (fun _ hm => hm.1) rfl) ?_
   refine wt 8 19 505 rfl z (ov_len es28 rfl) ?_
   refine wt 13 19 8697 rfl z (ov_move rfl) ?_
   refine wa_open fun W hW => ?_
   have T131071 : ∀ (q1 : Nat) (k2 : Int) (bk20 : 0 ≤ k2) (bk21 : k2 ≤ 1000) (u0 : ByteArray) (hq0 : u0.size ≤ 1000) (q14 : Nat) (k15 : ByteArray) (zk15 : k15.size ≤ 100), W 2 (lb 19 131071) [(0, .pointer (some ⟨sb, 0, none⟩)), (2, .pointer (some ⟨g1, 0, none⟩)), (3, .pointer (some ⟨g2, 0, none⟩)), (49, .int .i64 ((R : Nat) : Int)), (50, .int .i64 ((j : Nat) : Int)), (72, .agg #[.int .i64 k2, .string u0, .string k15])] (fun w => Strm 25 w B sb (m + 140 + 10 * j + 1 + 1 + 1)) [(g1, 31, [.slice none 0 0, .slice none 0 0, .slice none 0 0, .slice none 0 0]), (g2, 31, [.slice sA sn sc, .slice cA 4 cc, .slice (some ⟨bv, 0, none⟩) k vc, .slice pA pn pc]), (q1, 3, [.int .i64 0, .int .i64 0, .int .i64 50, .int .i64 100, .int .i64 200, .int .i64 1000]), (q14, 9, [.string ⟨#[65, 66, 49]⟩, .string ⟨#[65, 66, 50]⟩, .string ⟨#[90, 90, 57]⟩])] [⟨.slice pA pn pc, 164, 3, pn, pl.flatMap plEnc⟩, ⟨.slice (some ⟨bv, 0, none⟩) k vc, 69, 2, k, vl.flatMap vhEnc⟩, ⟨.slice sA sn sc, 156, 15, sn, sl.flatMap stEnc⟩] [fun wy => SlT csEnc 2 158 wy cA 4 cl] := by
    intro q1 k2 bk20 bk21 u0 hq0 q14 k15 zk15
    rw [hW]
    refine wa1 17 rfl ?_
    refine wl_alloc zc164 rfl fun g11 => ?_
    refine wl_nil ?_
    refine nw 19 262143 (fun _ hm => ⟨hm.bl 2, hm.bl 1, hm.fa 0, hm.ownI 0 rfl, hm.ownI 1 rfl, hm.ownI 2 rfl, trivial⟩) fun z => ?_
    refine wa1 18 rfl ?_
    refine wl_stores (cs' := [.int .i64 k2, .string u0, .string k15]) 0 rz164 rfl rfl rfl rfl rfl rfl rfl rfl ?_
    refine wl_nil ?_
    refine nw 19 524287 (fun _ hm => ⟨hm.bl 2, hm.bl 1, hm.fa 0, hm.ownI 0 rfl, hm.ownI 1 rfl, hm.ownI 2 rfl, trivial⟩) fun z => ?_
    refine wa_done (by kernel_rfl) ?_
    exact nx_meet (g11, k2, u0, k15) ⟨⟨by dsimp only; omega, by dsimp only; omega⟩, by dsimp only; omega, by dsimp only; omega⟩ ⟨rfl, rfl, rfl, rfl, rfl, rfl, trivial⟩ (fun _ hm => (hm.more rfl (by first | omega | (dsimp only; omega))).pick [0, 2, 1] [0, 1, 2] [0] rfl rfl)
   have T163839 : ∀ (q1 : Nat) (k2 : Int) (bk20 : 0 ≤ k2) (bk21 : k2 ≤ 1000) (u0 : ByteArray) (hq0 : u0.size ≤ 1000) (q14 : Nat) (q17 : Nat), W 3 (lb 19 163839) [(0, .pointer (some ⟨sb, 0, none⟩)), (2, .pointer (some ⟨g1, 0, none⟩)), (3, .pointer (some ⟨g2, 0, none⟩)), (6, .pointer (some ⟨q17, 0, none⟩)), (49, .int .i64 ((R : Nat) : Int)), (50, .int .i64 ((j : Nat) : Int)), (58, .int .i64 k2), (68, .string u0), (69, .pointer (some ⟨sb, 0, none⟩)), (70, .slice (some ⟨q14, 0, none⟩) 3 3)] (fun w => Strm 25 w B sb (m + 140 + 10 * j + 1 + 1)) [(g1, 31, [.slice none 0 0, .slice none 0 0, .slice none 0 0, .slice none 0 0]), (g2, 31, [.slice sA sn sc, .slice cA 4 cc, .slice (some ⟨bv, 0, none⟩) k vc, .slice pA pn pc]), (q1, 3, [.int .i64 0, .int .i64 0, .int .i64 50, .int .i64 100, .int .i64 200, .int .i64 1000]), (q14, 9, [.string ⟨#[65, 66, 49]⟩, .string ⟨#[65, 66, 50]⟩, .string ⟨#[90, 90, 57]⟩]), (q17, 164, [.int .i64 0, .string ⟨#[]⟩, .string ⟨#[]⟩])] [⟨.slice pA pn pc, 164, 3, pn, pl.flatMap plEnc⟩, ⟨.slice (some ⟨bv, 0, none⟩) k vc, 69, 2, k, vl.flatMap vhEnc⟩, ⟨.slice sA sn sc, 156, 15, sn, sl.flatMap stEnc⟩] [fun wy => SlT csEnc 2 158 wy cA 4 cl] := by
    intro q1 k2 bk20 bk21 u0 hq0 q14 q17
    rw [hW]
    refine wa1 15 rfl ?_
    refine wl_got (γ := ByteArray) (val := fun v => .string v) (φ := fun v => v ∈ ([⟨#[65, 66, 49]⟩, ⟨#[65, 66, 50]⟩, ⟨#[90, 90, 57]⟩] : List ByteArray)) rfl cb62 rfl rfl rfl rfl (fun wx hm => (some_any [⟨#[65, 66, 49]⟩, ⟨#[65, 66, 50]⟩, ⟨#[90, 90, 57]⟩] _ _ _ wx B sb _ hm.k (by omega) (by simp) (by simp) (hm.blkI 3 rfl) (hm.neRow 3 rfl rfl))) fun k15 hk15 => ?_
    have zk15 : k15.size ≤ 100 := mem_sz hk15 (by decide)
    refine wl_nil ?_
    refine nw 19 196607 (fun _ hm => ⟨hm.bl 1, hm.bl 0, hm.fa 0, hm.ownI 0 rfl, hm.ownI 1 rfl, hm.ownI 2 rfl, trivial⟩) fun z => ?_
    refine wt 16 19 262143 rfl z (ov_build (cs := [.int .i64 k2, .string u0, .string k15]) rfl (by kernel_rfl)) ?_
    refine wa1 18 rfl ?_
    refine wl_stores (cs' := [.int .i64 k2, .string u0, .string k15]) 4 rz164 rfl rfl rfl rfl rfl rfl rfl rfl ?_
    refine wl_nil ?_
    refine nw 19 524287 (fun _ hm => ⟨hm.bl 1, hm.bl 0, hm.fa 0, hm.ownI 0 rfl, hm.ownI 1 rfl, hm.ownI 2 rfl, trivial⟩) fun z => ?_
    refine wa_done (by kernel_rfl) ?_
    exact nx_meet (q17, k2, u0, k15) ⟨⟨by dsimp only; omega, by dsimp only; omega⟩, by dsimp only; omega, by dsimp only; omega⟩ ⟨rfl, rfl, rfl, rfl, rfl, rfl, trivial⟩ (fun _ hm => (hm.more rfl (by first | omega | (dsimp only; omega))).pick [4, 1, 0] [0, 1, 2] [0] rfl rfl)
   have J32767 : ∀ (q1 : Nat) (k2 : Int) (bk20 : 0 ≤ k2) (bk21 : k2 ≤ 1000) (u0 : ByteArray) (hq0 : u0.size ≤ 1000) (q14 : Nat), W 4 (lb 19 32767) [(0, .pointer (some ⟨sb, 0, none⟩)), (2, .pointer (some ⟨g1, 0, none⟩)), (3, .pointer (some ⟨g2, 0, none⟩)), (49, .int .i64 ((R : Nat) : Int)), (50, .int .i64 ((j : Nat) : Int)), (58, .int .i64 k2), (68, .string u0), (69, .pointer (some ⟨sb, 0, none⟩)), (70, .slice (some ⟨q14, 0, none⟩) 3 3)] (fun w => Strm 25 w B sb (m + 140 + 10 * j + 1 + 1)) [(g1, 31, [.slice none 0 0, .slice none 0 0, .slice none 0 0, .slice none 0 0]), (g2, 31, [.slice sA sn sc, .slice cA 4 cc, .slice (some ⟨bv, 0, none⟩) k vc, .slice pA pn pc]), (q1, 3, [.int .i64 0, .int .i64 0, .int .i64 50, .int .i64 100, .int .i64 200, .int .i64 1000]), (q14, 9, [.string ⟨#[65, 66, 49]⟩, .string ⟨#[65, 66, 50]⟩, .string ⟨#[90, 90, 57]⟩])] [⟨.slice pA pn pc, 164, 3, pn, pl.flatMap plEnc⟩, ⟨.slice (some ⟨bv, 0, none⟩) k vc, 69, 2, k, vl.flatMap vhEnc⟩, ⟨.slice sA sn sc, 156, 15, sn, sl.flatMap stEnc⟩] [fun wy => SlT csEnc 2 158 wy cA 4 cl] := by
    intro q1 k2 bk20 bk21 u0 hq0 q14
    rw [hW]
    refine wa_all [15, 17] (by kernel_rfl) rfl ⟨⟨_, rfl, ?_⟩, ⟨_, rfl, ?_⟩, trivial⟩
    ·refine wl_got (γ := ByteArray) (val := fun v => .string v) (φ := fun v => v ∈ ([⟨#[65, 66, 49]⟩, ⟨#[65, 66, 50]⟩, ⟨#[90, 90, 57]⟩] : List ByteArray)) rfl cb62 rfl rfl rfl rfl (fun wx hm => (some_any [⟨#[65, 66, 49]⟩, ⟨#[65, 66, 50]⟩, ⟨#[90, 90, 57]⟩] _ _ _ wx B sb _ hm.k (by omega) (by simp) (by simp) (hm.blkI 3 rfl) (hm.neRow 3 rfl rfl))) fun k15 hk15 => ?_
     have zk15 : k15.size ≤ 100 := mem_sz hk15 (by decide)
     refine wl_nil ?_
     refine nw 19 65535 (fun _ hm => ⟨hm.bl 1, hm.bl 0, hm.fa 0, hm.ownI 0 rfl, hm.ownI 1 rfl, hm.ownI 2 rfl, trivial⟩) fun z => ?_
     refine wt 16 19 131071 rfl z (ov_build (cs := [.int .i64 k2, .string u0, .string k15]) rfl (by kernel_rfl)) ?_
     have h := T131071 q1 k2 bk20 bk21 u0 hq0 q14 k15 zk15
     rw [hW] at h
     refine wa_weak ?_ ?_ h
     ·exact ⟨rfl, rfl, rfl, rfl, rfl, rfl, trivial⟩
     exact fun _ hm => hm.pick [0, 1, 2, 3] [0, 1, 2] [0] rfl rfl
    refine wl_alloc zc164 rfl fun q17 => ?_
    refine wl_nil ?_
    refine nw 19 163839 (fun _ hm => ⟨hm.bl 2, hm.bl 1, hm.fa 0, hm.ownI 0 rfl, hm.ownI 1 rfl, hm.ownI 2 rfl, trivial⟩) fun z => ?_
    have h := T163839 q1 k2 bk20 bk21 u0 hq0 q14 q17
    rw [hW] at h
    refine wa_weak ?_ ?_ h
    ·exact ⟨rfl, rfl, rfl, rfl, rfl, rfl, rfl, rfl, rfl, rfl, trivial⟩
    exact fun _ hm => hm.pick [1, 2, 3, 4, 0] [0, 1, 2] [0] rfl rfl
   have T147455 : ∀ (q1 : Nat) (k2 : Int) (bk20 : 0 ≤ k2) (bk21 : k2 ≤ 1000) (u0 : ByteArray) (hq0 : u0.size ≤ 1000) (q17 : Nat), W 4 (lb 19 147455) [(0, .pointer (some ⟨sb, 0, none⟩)), (2, .pointer (some ⟨g1, 0, none⟩)), (3, .pointer (some ⟨g2, 0, none⟩)), (6, .pointer (some ⟨q17, 0, none⟩)), (49, .int .i64 ((R : Nat) : Int)), (50, .int .i64 ((j : Nat) : Int)), (58, .int .i64 k2), (68, .string u0), (69, .pointer (some ⟨sb, 0, none⟩))] (fun w => Strm 25 w B sb (m + 140 + 10 * j + 1 + 1)) [(g1, 31, [.slice none 0 0, .slice none 0 0, .slice none 0 0, .slice none 0 0]), (g2, 31, [.slice sA sn sc, .slice cA 4 cc, .slice (some ⟨bv, 0, none⟩) k vc, .slice pA pn pc]), (q1, 3, [.int .i64 0, .int .i64 0, .int .i64 50, .int .i64 100, .int .i64 200, .int .i64 1000]), (q17, 164, [.int .i64 0, .string ⟨#[]⟩, .string ⟨#[]⟩])] [⟨.slice pA pn pc, 164, 3, pn, pl.flatMap plEnc⟩, ⟨.slice (some ⟨bv, 0, none⟩) k vc, 69, 2, k, vl.flatMap vhEnc⟩, ⟨.slice sA sn sc, 156, 15, sn, sl.flatMap stEnc⟩] [fun wy => SlT csEnc 2 158 wy cA 4 cl] := by
    intro q1 k2 bk20 bk21 u0 hq0 q17
    rw [hW]
    refine wa1 14 rfl ?_
    refine wl_buildSlice (e := 9) (cs := [.string ⟨#[65, 66, 49]⟩, .string ⟨#[65, 66, 50]⟩, .string ⟨#[90, 90, 57]⟩]) rfl (by kernel_rfl) rfl fun g12 => ?_
    refine wl_nil ?_
    refine nw 19 163839 (fun _ hm => ⟨hm.bl 2, hm.bl 1, hm.fa 0, hm.ownI 0 rfl, hm.ownI 1 rfl, hm.ownI 2 rfl, trivial⟩) fun z => ?_
    refine wa1 15 rfl ?_
    refine wl_got (γ := ByteArray) (val := fun v => .string v) (φ := fun v => v ∈ ([⟨#[65, 66, 49]⟩, ⟨#[65, 66, 50]⟩, ⟨#[90, 90, 57]⟩] : List ByteArray)) rfl cb62 rfl rfl rfl rfl (fun wx hm => (some_any [⟨#[65, 66, 49]⟩, ⟨#[65, 66, 50]⟩, ⟨#[90, 90, 57]⟩] _ _ _ wx B sb _ hm.k (by omega) (by simp) (by simp) (hm.blkI 0 rfl) (hm.neRow 0 rfl rfl))) fun k15 hk15 => ?_
    have zk15 : k15.size ≤ 100 := mem_sz hk15 (by decide)
    refine wl_nil ?_
    refine nw 19 196607 (fun _ hm => ⟨hm.bl 2, hm.bl 1, hm.fa 0, hm.ownI 0 rfl, hm.ownI 1 rfl, hm.ownI 2 rfl, trivial⟩) fun z => ?_
    refine wt 16 19 262143 rfl z (ov_build (cs := [.int .i64 k2, .string u0, .string k15]) rfl (by kernel_rfl)) ?_
    refine wa1 18 rfl ?_
    refine wl_stores (cs' := [.int .i64 k2, .string u0, .string k15]) 4 rz164 rfl rfl rfl rfl rfl rfl rfl rfl ?_
    refine wl_nil ?_
    refine nw 19 524287 (fun _ hm => ⟨hm.bl 2, hm.bl 1, hm.fa 0, hm.ownI 0 rfl, hm.ownI 1 rfl, hm.ownI 2 rfl, trivial⟩) fun z => ?_
    refine wa_done (by kernel_rfl) ?_
    exact nx_meet (q17, k2, u0, k15) ⟨⟨by dsimp only; omega, by dsimp only; omega⟩, by dsimp only; omega, by dsimp only; omega⟩ ⟨rfl, rfl, rfl, rfl, rfl, rfl, trivial⟩ (fun _ hm => (hm.more rfl (by first | omega | (dsimp only; omega))).pick [4, 2, 1] [0, 1, 2] [0] rfl rfl)
   have J16383 : ∀ (q1 : Nat) (k2 : Int) (bk20 : 0 ≤ k2) (bk21 : k2 ≤ 1000) (u0 : ByteArray) (hq0 : u0.size ≤ 1000), W 5 (lb 19 16383) [(0, .pointer (some ⟨sb, 0, none⟩)), (2, .pointer (some ⟨g1, 0, none⟩)), (3, .pointer (some ⟨g2, 0, none⟩)), (49, .int .i64 ((R : Nat) : Int)), (50, .int .i64 ((j : Nat) : Int)), (58, .int .i64 k2), (68, .string u0), (69, .pointer (some ⟨sb, 0, none⟩))] (fun w => Strm 25 w B sb (m + 140 + 10 * j + 1 + 1)) [(g1, 31, [.slice none 0 0, .slice none 0 0, .slice none 0 0, .slice none 0 0]), (g2, 31, [.slice sA sn sc, .slice cA 4 cc, .slice (some ⟨bv, 0, none⟩) k vc, .slice pA pn pc]), (q1, 3, [.int .i64 0, .int .i64 0, .int .i64 50, .int .i64 100, .int .i64 200, .int .i64 1000])] [⟨.slice pA pn pc, 164, 3, pn, pl.flatMap plEnc⟩, ⟨.slice (some ⟨bv, 0, none⟩) k vc, 69, 2, k, vl.flatMap vhEnc⟩, ⟨.slice sA sn sc, 156, 15, sn, sl.flatMap stEnc⟩] [fun wy => SlT csEnc 2 158 wy cA 4 cl] := by
    intro q1 k2 bk20 bk21 u0 hq0
    rw [hW]
    refine wa_all [14, 17] (by kernel_rfl) rfl ⟨⟨_, rfl, ?_⟩, ⟨_, rfl, ?_⟩, trivial⟩
    ·refine wl_buildSlice (e := 9) (cs := [.string ⟨#[65, 66, 49]⟩, .string ⟨#[65, 66, 50]⟩, .string ⟨#[90, 90, 57]⟩]) rfl (by kernel_rfl) rfl fun q14 => ?_
     refine wl_nil ?_
     refine nw 19 32767 (fun _ hm => ⟨hm.bl 2, hm.bl 1, hm.fa 0, hm.ownI 0 rfl, hm.ownI 1 rfl, hm.ownI 2 rfl, trivial⟩) fun z => ?_
     have h := J32767 q1 k2 bk20 bk21 u0 hq0 q14
     rw [hW] at h
     refine wa_weak ?_ ?_ h
     ·exact ⟨rfl, rfl, rfl, rfl, rfl, rfl, rfl, rfl, rfl, trivial⟩
     exact fun _ hm => hm.pick [1, 2, 3, 0] [0, 1, 2] [0] rfl rfl
    refine wl_alloc zc164 rfl fun q17 => ?_
    refine wl_nil ?_
    refine nw 19 147455 (fun _ hm => ⟨hm.bl 2, hm.bl 1, hm.fa 0, hm.ownI 0 rfl, hm.ownI 1 rfl, hm.ownI 2 rfl, trivial⟩) fun z => ?_
    have h := T147455 q1 k2 bk20 bk21 u0 hq0 q17
    rw [hW] at h
    refine wa_weak ?_ ?_ h
    ·exact ⟨rfl, rfl, rfl, rfl, rfl, rfl, rfl, rfl, rfl, trivial⟩
    exact fun _ hm => hm.pick [1, 2, 3, 0] [0, 1, 2] [0] rfl rfl
   have T156159 : ∀ (q1 : Nat) (k2 : Int) (bk20 : 0 ≤ k2) (bk21 : k2 ≤ 1000) (q14 : Nat) (q17 : Nat), W 7 (lb 19 156159) [(0, .pointer (some ⟨sb, 0, none⟩)), (2, .pointer (some ⟨g1, 0, none⟩)), (3, .pointer (some ⟨g2, 0, none⟩)), (6, .pointer (some ⟨q17, 0, none⟩)), (49, .int .i64 ((R : Nat) : Int)), (50, .int .i64 ((j : Nat) : Int)), (58, .int .i64 k2), (60, .slice (some ⟨bv, 0, none⟩) k vc), (61, .pointer (some ⟨sb, 0, none⟩)), (64, .int .i64 ((k : Nat) : Int)), (69, .pointer (some ⟨sb, 0, none⟩)), (70, .slice (some ⟨q14, 0, none⟩) 3 3)] (fun w => Strm 25 w B sb (m + 140 + 10 * j + 1)) [(g1, 31, [.slice none 0 0, .slice none 0 0, .slice none 0 0, .slice none 0 0]), (g2, 31, [.slice sA sn sc, .slice cA 4 cc, .slice (some ⟨bv, 0, none⟩) k vc, .slice pA pn pc]), (q1, 3, [.int .i64 0, .int .i64 0, .int .i64 50, .int .i64 100, .int .i64 200, .int .i64 1000]), (q14, 9, [.string ⟨#[65, 66, 49]⟩, .string ⟨#[65, 66, 50]⟩, .string ⟨#[90, 90, 57]⟩]), (q17, 164, [.int .i64 0, .string ⟨#[]⟩, .string ⟨#[]⟩])] [⟨.slice pA pn pc, 164, 3, pn, pl.flatMap plEnc⟩, ⟨.slice (some ⟨bv, 0, none⟩) k vc, 69, 2, k, vl.flatMap vhEnc⟩, ⟨.slice sA sn sc, 156, 15, sn, sl.flatMap stEnc⟩] [fun wy => SlT csEnc 2 158 wy cA 4 cl] := by
    intro q1 k2 bk20 bk21 q14 q17
    rw [hW]
    refine wa1 9 rfl ?_
    refine wl_got (γ := Int) (val := fun v => .int .i64 v) (φ := fun v => IsBelow ((k : Nat) : Int) v) rfl cb29 rfl rfl rfl rfl (fun wx hm => (next_any _ wx B sb _ hm.k (by omega) (by omega) (by omega))) fun vj hvj => ?_
    have hj3 := isBelow_lt hvj (by omega)
    obtain ⟨j2, rfl⟩ := Int.eq_ofNat_of_zero_le hj3.1
    have hj2 : j2 < k := by omega
    obtain ⟨q, hq⟩ : ∃ q, vl[j2]? = some q := ⟨_, List.getElem?_eq_getElem (by omega)⟩
    obtain ⟨u0, u1⟩ := q
    have hqB := hvB _ (List.mem_of_getElem? hq)
    have hq0 : u0.size ≤ 1000 := hqB.1
    refine wl_nil ?_
    refine nw 19 156671 (fun _ hm => ⟨hm.bl 1, hm.bl 0, hm.fa 0, hm.ownI 0 rfl, hm.ownI 1 rfl, hm.ownI 2 rfl, trivial⟩) fun z => ?_
    refine wt 10 19 157695 rfl z (ov_index (j := j2) es28 rfl rfl (by omega)) ?_
    refine wt 11 19 159743 rfl z (ov_field fo69_0 rfl rfl) ?_
    refine wt 12 19 163839 rfl z (ov_elem1 (k := 0) (v := .string u0) sc9 rfl (fun _ hm => (SlT.ofOwn vh_len (hm.2.2.2.2.1) hvl)) hq rfl rfl) ?_
    refine wa1 15 rfl ?_
    refine wl_got (γ := ByteArray) (val := fun v => .string v) (φ := fun v => v ∈ ([⟨#[65, 66, 49]⟩, ⟨#[65, 66, 50]⟩, ⟨#[90, 90, 57]⟩] : List ByteArray)) rfl cb62 rfl rfl rfl rfl (fun wx hm => (some_any [⟨#[65, 66, 49]⟩, ⟨#[65, 66, 50]⟩, ⟨#[90, 90, 57]⟩] _ _ _ wx B sb _ hm.k (by omega) (by simp) (by simp) (hm.blkI 3 rfl) (hm.neRow 3 rfl rfl))) fun k15 hk15 => ?_
    have zk15 : k15.size ≤ 100 := mem_sz hk15 (by decide)
    refine wl_nil ?_
    refine nw 19 196607 (fun _ hm => ⟨hm.bl 1, hm.bl 0, hm.fa 0, hm.ownI 0 rfl, hm.ownI 1 rfl, hm.ownI 2 rfl, trivial⟩) fun z => ?_
    refine wt 16 19 262143 rfl z (ov_build (cs := [.int .i64 k2, .string u0, .string k15]) rfl (by kernel_rfl)) ?_
    refine wa1 18 rfl ?_
    refine wl_stores (cs' := [.int .i64 k2, .string u0, .string k15]) 4 rz164 rfl rfl rfl rfl rfl rfl rfl rfl ?_
    refine wl_nil ?_
    refine nw 19 524287 (fun _ hm => ⟨hm.bl 1, hm.bl 0, hm.fa 0, hm.ownI 0 rfl, hm.ownI 1 rfl, hm.ownI 2 rfl, trivial⟩) fun z => ?_
    refine wa_done (by kernel_rfl) ?_
    exact nx_meet (q17, k2, u0, k15) ⟨⟨by dsimp only; omega, by dsimp only; omega⟩, by dsimp only; omega, by dsimp only; omega⟩ ⟨rfl, rfl, rfl, rfl, rfl, rfl, trivial⟩ (fun _ hm => (hm.more rfl (by first | omega | (dsimp only; omega))).pick [4, 1, 0] [0, 1, 2] [0] rfl rfl)
   have J25087 : ∀ (q1 : Nat) (k2 : Int) (bk20 : 0 ≤ k2) (bk21 : k2 ≤ 1000) (q14 : Nat), W 8 (lb 19 25087) [(0, .pointer (some ⟨sb, 0, none⟩)), (2, .pointer (some ⟨g1, 0, none⟩)), (3, .pointer (some ⟨g2, 0, none⟩)), (49, .int .i64 ((R : Nat) : Int)), (50, .int .i64 ((j : Nat) : Int)), (58, .int .i64 k2), (60, .slice (some ⟨bv, 0, none⟩) k vc), (61, .pointer (some ⟨sb, 0, none⟩)), (64, .int .i64 ((k : Nat) : Int)), (69, .pointer (some ⟨sb, 0, none⟩)), (70, .slice (some ⟨q14, 0, none⟩) 3 3)] (fun w => Strm 25 w B sb (m + 140 + 10 * j + 1)) [(g1, 31, [.slice none 0 0, .slice none 0 0, .slice none 0 0, .slice none 0 0]), (g2, 31, [.slice sA sn sc, .slice cA 4 cc, .slice (some ⟨bv, 0, none⟩) k vc, .slice pA pn pc]), (q1, 3, [.int .i64 0, .int .i64 0, .int .i64 50, .int .i64 100, .int .i64 200, .int .i64 1000]), (q14, 9, [.string ⟨#[65, 66, 49]⟩, .string ⟨#[65, 66, 50]⟩, .string ⟨#[90, 90, 57]⟩])] [⟨.slice pA pn pc, 164, 3, pn, pl.flatMap plEnc⟩, ⟨.slice (some ⟨bv, 0, none⟩) k vc, 69, 2, k, vl.flatMap vhEnc⟩, ⟨.slice sA sn sc, 156, 15, sn, sl.flatMap stEnc⟩] [fun wy => SlT csEnc 2 158 wy cA 4 cl] := by
    intro q1 k2 bk20 bk21 q14
    rw [hW]
    refine wa_all [9, 17] (by kernel_rfl) rfl ⟨⟨_, rfl, ?_⟩, ⟨_, rfl, ?_⟩, trivial⟩
    ·refine wl_got (γ := Int) (val := fun v => .int .i64 v) (φ := fun v => IsBelow ((k : Nat) : Int) v) rfl cb29 rfl rfl rfl rfl (fun wx hm => (next_any _ wx B sb _ hm.k (by omega) (by omega) (by omega))) fun vj hvj => ?_
     have hj3 := isBelow_lt hvj (by omega)
     obtain ⟨j2, rfl⟩ := Int.eq_ofNat_of_zero_le hj3.1
     have hj2 : j2 < k := by omega
     obtain ⟨q, hq⟩ : ∃ q, vl[j2]? = some q := ⟨_, List.getElem?_eq_getElem (by omega)⟩
     obtain ⟨u0, u1⟩ := q
     have hqB := hvB _ (List.mem_of_getElem? hq)
     have hq0 : u0.size ≤ 1000 := hqB.1
     refine wl_nil ?_
     refine nw 19 25599 (fun _ hm => ⟨hm.bl 1, hm.bl 0, hm.fa 0, hm.ownI 0 rfl, hm.ownI 1 rfl, hm.ownI 2 rfl, trivial⟩) fun z => ?_
     refine wt 10 19 26623 rfl z (ov_index (j := j2) es28 rfl rfl (by omega)) ?_
     refine wt 11 19 28671 rfl z (ov_field fo69_0 rfl rfl) ?_
     refine wt 12 19 32767 rfl z (ov_elem1 (k := 0) (v := .string u0) sc9 rfl (fun _ hm => (SlT.ofOwn vh_len (hm.2.2.2.2.1) hvl)) hq rfl rfl) ?_
     have h := J32767 q1 k2 bk20 bk21 u0 hq0 q14
     rw [hW] at h
     refine wa_weak ?_ ?_ h
     ·exact ⟨rfl, rfl, rfl, rfl, rfl, rfl, rfl, rfl, rfl, trivial⟩
     exact fun _ hm => hm.pick [0, 1, 2, 3] [0, 1, 2] [0] rfl rfl
    refine wl_alloc zc164 rfl fun q17 => ?_
    refine wl_nil ?_
    refine nw 19 156159 (fun _ hm => ⟨hm.bl 2, hm.bl 1, hm.fa 0, hm.ownI 0 rfl, hm.ownI 1 rfl, hm.ownI 2 rfl, trivial⟩) fun z => ?_
    have h := T156159 q1 k2 bk20 bk21 q14 q17
    rw [hW] at h
    refine wa_weak ?_ ?_ h
    ·exact ⟨rfl, rfl, rfl, rfl, rfl, rfl, rfl, rfl, rfl, rfl, rfl, rfl, trivial⟩
    exact fun _ hm => hm.pick [1, 2, 3, 4, 0] [0, 1, 2] [0] rfl rfl
   have J139775 : ∀ (q1 : Nat) (k2 : Int) (bk20 : 0 ≤ k2) (bk21 : k2 ≤ 1000) (q17 : Nat), W 8 (lb 19 139775) [(0, .pointer (some ⟨sb, 0, none⟩)), (2, .pointer (some ⟨g1, 0, none⟩)), (3, .pointer (some ⟨g2, 0, none⟩)), (6, .pointer (some ⟨q17, 0, none⟩)), (49, .int .i64 ((R : Nat) : Int)), (50, .int .i64 ((j : Nat) : Int)), (58, .int .i64 k2), (60, .slice (some ⟨bv, 0, none⟩) k vc), (61, .pointer (some ⟨sb, 0, none⟩)), (64, .int .i64 ((k : Nat) : Int)), (69, .pointer (some ⟨sb, 0, none⟩))] (fun w => Strm 25 w B sb (m + 140 + 10 * j + 1)) [(g1, 31, [.slice none 0 0, .slice none 0 0, .slice none 0 0, .slice none 0 0]), (g2, 31, [.slice sA sn sc, .slice cA 4 cc, .slice (some ⟨bv, 0, none⟩) k vc, .slice pA pn pc]), (q1, 3, [.int .i64 0, .int .i64 0, .int .i64 50, .int .i64 100, .int .i64 200, .int .i64 1000]), (q17, 164, [.int .i64 0, .string ⟨#[]⟩, .string ⟨#[]⟩])] [⟨.slice pA pn pc, 164, 3, pn, pl.flatMap plEnc⟩, ⟨.slice (some ⟨bv, 0, none⟩) k vc, 69, 2, k, vl.flatMap vhEnc⟩, ⟨.slice sA sn sc, 156, 15, sn, sl.flatMap stEnc⟩] [fun wy => SlT csEnc 2 158 wy cA 4 cl] := by
    intro q1 k2 bk20 bk21 q17
    rw [hW]
    refine wa_all [9, 14] (by kernel_rfl) rfl ⟨⟨_, rfl, ?_⟩, ⟨_, rfl, ?_⟩, trivial⟩
    ·refine wl_got (γ := Int) (val := fun v => .int .i64 v) (φ := fun v => IsBelow ((k : Nat) : Int) v) rfl cb29 rfl rfl rfl rfl (fun wx hm => (next_any _ wx B sb _ hm.k (by omega) (by omega) (by omega))) fun vj hvj => ?_
     have hj3 := isBelow_lt hvj (by omega)
     obtain ⟨j2, rfl⟩ := Int.eq_ofNat_of_zero_le hj3.1
     have hj2 : j2 < k := by omega
     obtain ⟨q, hq⟩ : ∃ q, vl[j2]? = some q := ⟨_, List.getElem?_eq_getElem (by omega)⟩
     obtain ⟨u0, u1⟩ := q
     have hqB := hvB _ (List.mem_of_getElem? hq)
     have hq0 : u0.size ≤ 1000 := hqB.1
     refine wl_nil ?_
     refine nw 19 140287 (fun _ hm => ⟨hm.bl 1, hm.bl 0, hm.fa 0, hm.ownI 0 rfl, hm.ownI 1 rfl, hm.ownI 2 rfl, trivial⟩) fun z => ?_
     refine wt 10 19 141311 rfl z (ov_index (j := j2) es28 rfl rfl (by omega)) ?_
     refine wt 11 19 143359 rfl z (ov_field fo69_0 rfl rfl) ?_
     refine wt 12 19 147455 rfl z (ov_elem1 (k := 0) (v := .string u0) sc9 rfl (fun _ hm => (SlT.ofOwn vh_len (hm.2.2.2.2.1) hvl)) hq rfl rfl) ?_
     have h := T147455 q1 k2 bk20 bk21 u0 hq0 q17
     rw [hW] at h
     refine wa_weak ?_ ?_ h
     ·exact ⟨rfl, rfl, rfl, rfl, rfl, rfl, rfl, rfl, rfl, trivial⟩
     exact fun _ hm => hm.pick [0, 1, 2, 3] [0, 1, 2] [0] rfl rfl
    refine wl_buildSlice (e := 9) (cs := [.string ⟨#[65, 66, 49]⟩, .string ⟨#[65, 66, 50]⟩, .string ⟨#[90, 90, 57]⟩]) rfl (by kernel_rfl) rfl fun q14 => ?_
    refine wl_nil ?_
    refine nw 19 156159 (fun _ hm => ⟨hm.bl 2, hm.bl 1, hm.fa 0, hm.ownI 0 rfl, hm.ownI 1 rfl, hm.ownI 2 rfl, trivial⟩) fun z => ?_
    have h := T156159 q1 k2 bk20 bk21 q14 q17
    rw [hW] at h
    refine wa_weak ?_ ?_ h
    ·exact ⟨rfl, rfl, rfl, rfl, rfl, rfl, rfl, rfl, rfl, rfl, rfl, rfl, trivial⟩
    exact fun _ hm => hm.pick [1, 2, 3, 0, 4] [0, 1, 2] [0] rfl rfl
   have J8703 : ∀ (q1 : Nat) (k2 : Int) (bk20 : 0 ≤ k2) (bk21 : k2 ≤ 1000), W 9 (lb 19 8703) [(0, .pointer (some ⟨sb, 0, none⟩)), (2, .pointer (some ⟨g1, 0, none⟩)), (3, .pointer (some ⟨g2, 0, none⟩)), (49, .int .i64 ((R : Nat) : Int)), (50, .int .i64 ((j : Nat) : Int)), (58, .int .i64 k2), (60, .slice (some ⟨bv, 0, none⟩) k vc), (61, .pointer (some ⟨sb, 0, none⟩)), (64, .int .i64 ((k : Nat) : Int)), (69, .pointer (some ⟨sb, 0, none⟩))] (fun w => Strm 25 w B sb (m + 140 + 10 * j + 1)) [(g1, 31, [.slice none 0 0, .slice none 0 0, .slice none 0 0, .slice none 0 0]), (g2, 31, [.slice sA sn sc, .slice cA 4 cc, .slice (some ⟨bv, 0, none⟩) k vc, .slice pA pn pc]), (q1, 3, [.int .i64 0, .int .i64 0, .int .i64 50, .int .i64 100, .int .i64 200, .int .i64 1000])] [⟨.slice pA pn pc, 164, 3, pn, pl.flatMap plEnc⟩, ⟨.slice (some ⟨bv, 0, none⟩) k vc, 69, 2, k, vl.flatMap vhEnc⟩, ⟨.slice sA sn sc, 156, 15, sn, sl.flatMap stEnc⟩] [fun wy => SlT csEnc 2 158 wy cA 4 cl] := by
    intro q1 k2 bk20 bk21
    rw [hW]
    refine wa_all [9, 14, 17] (by kernel_rfl) rfl ⟨⟨_, rfl, ?_⟩, ⟨_, rfl, ?_⟩, ⟨_, rfl, ?_⟩, trivial⟩
    ·refine wl_got (γ := Int) (val := fun v => .int .i64 v) (φ := fun v => IsBelow ((k : Nat) : Int) v) rfl cb29 rfl rfl rfl rfl (fun wx hm => (next_any _ wx B sb _ hm.k (by omega) (by omega) (by omega))) fun vj hvj => ?_
     have hj3 := isBelow_lt hvj (by omega)
     obtain ⟨j2, rfl⟩ := Int.eq_ofNat_of_zero_le hj3.1
     have hj2 : j2 < k := by omega
     obtain ⟨q, hq⟩ : ∃ q, vl[j2]? = some q := ⟨_, List.getElem?_eq_getElem (by omega)⟩
     obtain ⟨u0, u1⟩ := q
     have hqB := hvB _ (List.mem_of_getElem? hq)
     have hq0 : u0.size ≤ 1000 := hqB.1
     refine wl_nil ?_
     refine nw 19 9215 (fun _ hm => ⟨hm.bl 1, hm.bl 0, hm.fa 0, hm.ownI 0 rfl, hm.ownI 1 rfl, hm.ownI 2 rfl, trivial⟩) fun z => ?_
     refine wt 10 19 10239 rfl z (ov_index (j := j2) es28 rfl rfl (by omega)) ?_
     refine wt 11 19 12287 rfl z (ov_field fo69_0 rfl rfl) ?_
     refine wt 12 19 16383 rfl z (ov_elem1 (k := 0) (v := .string u0) sc9 rfl (fun _ hm => (SlT.ofOwn vh_len (hm.2.2.2.2.1) hvl)) hq rfl rfl) ?_
     have h := J16383 q1 k2 bk20 bk21 u0 hq0
     rw [hW] at h
     refine wa_weak ?_ ?_ h
     ·exact ⟨rfl, rfl, rfl, rfl, rfl, rfl, rfl, rfl, trivial⟩
     exact fun _ hm => hm.pick [0, 1, 2] [0, 1, 2] [0] rfl rfl
    ·refine wl_buildSlice (e := 9) (cs := [.string ⟨#[65, 66, 49]⟩, .string ⟨#[65, 66, 50]⟩, .string ⟨#[90, 90, 57]⟩]) rfl (by kernel_rfl) rfl fun q14 => ?_
     refine wl_nil ?_
     refine nw 19 25087 (fun _ hm => ⟨hm.bl 2, hm.bl 1, hm.fa 0, hm.ownI 0 rfl, hm.ownI 1 rfl, hm.ownI 2 rfl, trivial⟩) fun z => ?_
     have h := J25087 q1 k2 bk20 bk21 q14
     rw [hW] at h
     refine wa_weak ?_ ?_ h
     ·exact ⟨rfl, rfl, rfl, rfl, rfl, rfl, rfl, rfl, rfl, rfl, rfl, trivial⟩
     exact fun _ hm => hm.pick [1, 2, 3, 0] [0, 1, 2] [0] rfl rfl
    refine wl_alloc zc164 rfl fun q17 => ?_
    refine wl_nil ?_
    refine nw 19 139775 (fun _ hm => ⟨hm.bl 2, hm.bl 1, hm.fa 0, hm.ownI 0 rfl, hm.ownI 1 rfl, hm.ownI 2 rfl, trivial⟩) fun z => ?_
    have h := J139775 q1 k2 bk20 bk21 q17
    rw [hW] at h
    refine wa_weak ?_ ?_ h
    ·exact ⟨rfl, rfl, rfl, rfl, rfl, rfl, rfl, rfl, rfl, rfl, rfl, trivial⟩
    exact fun _ hm => hm.pick [1, 2, 3, 0] [0, 1, 2] [0] rfl rfl
   have T156155 : ∀ (q1 : Nat) (q14 : Nat) (q17 : Nat), W 8 (lb 19 156155) [(0, .pointer (some ⟨sb, 0, none⟩)), (2, .pointer (some ⟨g1, 0, none⟩)), (3, .pointer (some ⟨g2, 0, none⟩)), (6, .pointer (some ⟨q17, 0, none⟩)), (49, .int .i64 ((R : Nat) : Int)), (50, .int .i64 ((j : Nat) : Int)), (56, .pointer (some ⟨sb, 0, none⟩)), (57, .slice (some ⟨q1, 0, none⟩) 6 6), (60, .slice (some ⟨bv, 0, none⟩) k vc), (61, .pointer (some ⟨sb, 0, none⟩)), (64, .int .i64 ((k : Nat) : Int)), (69, .pointer (some ⟨sb, 0, none⟩)), (70, .slice (some ⟨q14, 0, none⟩) 3 3)] (fun w => Strm 25 w B sb (m + 140 + 10 * j)) [(g1, 31, [.slice none 0 0, .slice none 0 0, .slice none 0 0, .slice none 0 0]), (g2, 31, [.slice sA sn sc, .slice cA 4 cc, .slice (some ⟨bv, 0, none⟩) k vc, .slice pA pn pc]), (q1, 3, [.int .i64 0, .int .i64 0, .int .i64 50, .int .i64 100, .int .i64 200, .int .i64 1000]), (q14, 9, [.string ⟨#[65, 66, 49]⟩, .string ⟨#[65, 66, 50]⟩, .string ⟨#[90, 90, 57]⟩]), (q17, 164, [.int .i64 0, .string ⟨#[]⟩, .string ⟨#[]⟩])] [⟨.slice pA pn pc, 164, 3, pn, pl.flatMap plEnc⟩, ⟨.slice (some ⟨bv, 0, none⟩) k vc, 69, 2, k, vl.flatMap vhEnc⟩, ⟨.slice sA sn sc, 156, 15, sn, sl.flatMap stEnc⟩] [fun wy => SlT csEnc 2 158 wy cA 4 cl] := by
    intro q1 q14 q17
    rw [hW]
    refine wa1 2 rfl ?_
    refine wl_got (γ := Int) (val := fun v => .int .i64 v) (φ := fun v => v ∈ ([0, 0, 50, 100, 200, 1000] : List Int)) rfl cb63 rfl rfl rfl rfl (fun wx hm => (pick_any [0, 0, 50, 100, 200, 1000] _ _ _ wx B sb _ hm.k (by omega) (by simp) (by simp) (hm.blkI 2 rfl) (hm.neRow 2 rfl rfl))) fun k2 hk2 => ?_
    have bk2 : 0 ≤ k2 ∧ k2 ≤ 1000 := mem_rng hk2 (by decide)
    have bk20 := bk2.1
    have bk21 := bk2.2
    clear bk2
    refine wl_nil ?_
    refine nw 19 156159 (fun _ hm => ⟨hm.bl 1, hm.bl 0, hm.fa 0, hm.ownI 0 rfl, hm.ownI 1 rfl, hm.ownI 2 rfl, trivial⟩) fun z => ?_
    refine wa1 9 rfl ?_
    refine wl_got (γ := Int) (val := fun v => .int .i64 v) (φ := fun v => IsBelow ((k : Nat) : Int) v) rfl cb29 rfl rfl rfl rfl (fun wx hm => (next_any _ wx B sb _ hm.k (by omega) (by omega) (by omega))) fun vj hvj => ?_
    have hj3 := isBelow_lt hvj (by omega)
    obtain ⟨j2, rfl⟩ := Int.eq_ofNat_of_zero_le hj3.1
    have hj2 : j2 < k := by omega
    obtain ⟨q, hq⟩ : ∃ q, vl[j2]? = some q := ⟨_, List.getElem?_eq_getElem (by omega)⟩
    obtain ⟨u0, u1⟩ := q
    have hqB := hvB _ (List.mem_of_getElem? hq)
    have hq0 : u0.size ≤ 1000 := hqB.1
    refine wl_nil ?_
    refine nw 19 156671 (fun _ hm => ⟨hm.bl 1, hm.bl 0, hm.fa 0, hm.ownI 0 rfl, hm.ownI 1 rfl, hm.ownI 2 rfl, trivial⟩) fun z => ?_
    refine wt 10 19 157695 rfl z (ov_index (j := j2) es28 rfl rfl (by omega)) ?_
    refine wt 11 19 159743 rfl z (ov_field fo69_0 rfl rfl) ?_
    refine wt 12 19 163839 rfl z (ov_elem1 (k := 0) (v := .string u0) sc9 rfl (fun _ hm => (SlT.ofOwn vh_len (hm.2.2.2.2.1) hvl)) hq rfl rfl) ?_
    refine wa1 15 rfl ?_
    refine wl_got (γ := ByteArray) (val := fun v => .string v) (φ := fun v => v ∈ ([⟨#[65, 66, 49]⟩, ⟨#[65, 66, 50]⟩, ⟨#[90, 90, 57]⟩] : List ByteArray)) rfl cb62 rfl rfl rfl rfl (fun wx hm => (some_any [⟨#[65, 66, 49]⟩, ⟨#[65, 66, 50]⟩, ⟨#[90, 90, 57]⟩] _ _ _ wx B sb _ hm.k (by omega) (by simp) (by simp) (hm.blkI 3 rfl) (hm.neRow 3 rfl rfl))) fun k15 hk15 => ?_
    have zk15 : k15.size ≤ 100 := mem_sz hk15 (by decide)
    refine wl_nil ?_
    refine nw 19 196607 (fun _ hm => ⟨hm.bl 1, hm.bl 0, hm.fa 0, hm.ownI 0 rfl, hm.ownI 1 rfl, hm.ownI 2 rfl, trivial⟩) fun z => ?_
    refine wt 16 19 262143 rfl z (ov_build (cs := [.int .i64 k2, .string u0, .string k15]) rfl (by kernel_rfl)) ?_
    refine wa1 18 rfl ?_
    refine wl_stores (cs' := [.int .i64 k2, .string u0, .string k15]) 4 rz164 rfl rfl rfl rfl rfl rfl rfl rfl ?_
    refine wl_nil ?_
    refine nw 19 524287 (fun _ hm => ⟨hm.bl 1, hm.bl 0, hm.fa 0, hm.ownI 0 rfl, hm.ownI 1 rfl, hm.ownI 2 rfl, trivial⟩) fun z => ?_
    refine wa_done (by kernel_rfl) ?_
    exact nx_meet (q17, k2, u0, k15) ⟨⟨by dsimp only; omega, by dsimp only; omega⟩, by dsimp only; omega, by dsimp only; omega⟩ ⟨rfl, rfl, rfl, rfl, rfl, rfl, trivial⟩ (fun _ hm => (hm.more rfl (by first | omega | (dsimp only; omega))).pick [4, 1, 0] [0, 1, 2] [0] rfl rfl)
   have J25083 : ∀ (q1 : Nat) (q14 : Nat), W 9 (lb 19 25083) [(0, .pointer (some ⟨sb, 0, none⟩)), (2, .pointer (some ⟨g1, 0, none⟩)), (3, .pointer (some ⟨g2, 0, none⟩)), (49, .int .i64 ((R : Nat) : Int)), (50, .int .i64 ((j : Nat) : Int)), (56, .pointer (some ⟨sb, 0, none⟩)), (57, .slice (some ⟨q1, 0, none⟩) 6 6), (60, .slice (some ⟨bv, 0, none⟩) k vc), (61, .pointer (some ⟨sb, 0, none⟩)), (64, .int .i64 ((k : Nat) : Int)), (69, .pointer (some ⟨sb, 0, none⟩)), (70, .slice (some ⟨q14, 0, none⟩) 3 3)] (fun w => Strm 25 w B sb (m + 140 + 10 * j)) [(g1, 31, [.slice none 0 0, .slice none 0 0, .slice none 0 0, .slice none 0 0]), (g2, 31, [.slice sA sn sc, .slice cA 4 cc, .slice (some ⟨bv, 0, none⟩) k vc, .slice pA pn pc]), (q1, 3, [.int .i64 0, .int .i64 0, .int .i64 50, .int .i64 100, .int .i64 200, .int .i64 1000]), (q14, 9, [.string ⟨#[65, 66, 49]⟩, .string ⟨#[65, 66, 50]⟩, .string ⟨#[90, 90, 57]⟩])] [⟨.slice pA pn pc, 164, 3, pn, pl.flatMap plEnc⟩, ⟨.slice (some ⟨bv, 0, none⟩) k vc, 69, 2, k, vl.flatMap vhEnc⟩, ⟨.slice sA sn sc, 156, 15, sn, sl.flatMap stEnc⟩] [fun wy => SlT csEnc 2 158 wy cA 4 cl] := by
    intro q1 q14
    rw [hW]
    refine wa_all [2, 17] (by kernel_rfl) rfl ⟨⟨_, rfl, ?_⟩, ⟨_, rfl, ?_⟩, trivial⟩
    ·refine wl_got (γ := Int) (val := fun v => .int .i64 v) (φ := fun v => v ∈ ([0, 0, 50, 100, 200, 1000] : List Int)) rfl cb63 rfl rfl rfl rfl (fun wx hm => (pick_any [0, 0, 50, 100, 200, 1000] _ _ _ wx B sb _ hm.k (by omega) (by simp) (by simp) (hm.blkI 2 rfl) (hm.neRow 2 rfl rfl))) fun k2 hk2 => ?_
     have bk2 : 0 ≤ k2 ∧ k2 ≤ 1000 := mem_rng hk2 (by decide)
     have bk20 := bk2.1
     have bk21 := bk2.2
     clear bk2
     refine wl_nil ?_
     refine nw 19 25087 (fun _ hm => ⟨hm.bl 1, hm.bl 0, hm.fa 0, hm.ownI 0 rfl, hm.ownI 1 rfl, hm.ownI 2 rfl, trivial⟩) fun z => ?_
     have h := J25087 q1 k2 bk20 bk21 q14
     rw [hW] at h
     refine wa_weak ?_ ?_ h
     ·exact ⟨rfl, rfl, rfl, rfl, rfl, rfl, rfl, rfl, rfl, rfl, rfl, trivial⟩
     exact fun _ hm => hm.pick [0, 1, 2, 3] [0, 1, 2] [0] rfl rfl
    refine wl_alloc zc164 rfl fun q17 => ?_
    refine wl_nil ?_
    refine nw 19 156155 (fun _ hm => ⟨hm.bl 2, hm.bl 1, hm.fa 0, hm.ownI 0 rfl, hm.ownI 1 rfl, hm.ownI 2 rfl, trivial⟩) fun z => ?_
    have h := T156155 q1 q14 q17
    rw [hW] at h
    refine wa_weak ?_ ?_ h
    ·exact ⟨rfl, rfl, rfl, rfl, rfl, rfl, rfl, rfl, rfl, rfl, rfl, rfl, rfl, trivial⟩
    exact fun _ hm => hm.pick [1, 2, 3, 4, 0] [0, 1, 2] [0] rfl rfl
   have J139771 : ∀ (q1 : Nat) (q17 : Nat), W 9 (lb 19 139771) [(0, .pointer (some ⟨sb, 0, none⟩)), (2, .pointer (some ⟨g1, 0, none⟩)), (3, .pointer (some ⟨g2, 0, none⟩)), (6, .pointer (some ⟨q17, 0, none⟩)), (49, .int .i64 ((R : Nat) : Int)), (50, .int .i64 ((j : Nat) : Int)), (56, .pointer (some ⟨sb, 0, none⟩)), (57, .slice (some ⟨q1, 0, none⟩) 6 6), (60, .slice (some ⟨bv, 0, none⟩) k vc), (61, .pointer (some ⟨sb, 0, none⟩)), (64, .int .i64 ((k : Nat) : Int)), (69, .pointer (some ⟨sb, 0, none⟩))] (fun w => Strm 25 w B sb (m + 140 + 10 * j)) [(g1, 31, [.slice none 0 0, .slice none 0 0, .slice none 0 0, .slice none 0 0]), (g2, 31, [.slice sA sn sc, .slice cA 4 cc, .slice (some ⟨bv, 0, none⟩) k vc, .slice pA pn pc]), (q1, 3, [.int .i64 0, .int .i64 0, .int .i64 50, .int .i64 100, .int .i64 200, .int .i64 1000]), (q17, 164, [.int .i64 0, .string ⟨#[]⟩, .string ⟨#[]⟩])] [⟨.slice pA pn pc, 164, 3, pn, pl.flatMap plEnc⟩, ⟨.slice (some ⟨bv, 0, none⟩) k vc, 69, 2, k, vl.flatMap vhEnc⟩, ⟨.slice sA sn sc, 156, 15, sn, sl.flatMap stEnc⟩] [fun wy => SlT csEnc 2 158 wy cA 4 cl] := by
    intro q1 q17
    rw [hW]
    refine wa_all [2, 14] (by kernel_rfl) rfl ⟨⟨_, rfl, ?_⟩, ⟨_, rfl, ?_⟩, trivial⟩
    ·refine wl_got (γ := Int) (val := fun v => .int .i64 v) (φ := fun v => v ∈ ([0, 0, 50, 100, 200, 1000] : List Int)) rfl cb63 rfl rfl rfl rfl (fun wx hm => (pick_any [0, 0, 50, 100, 200, 1000] _ _ _ wx B sb _ hm.k (by omega) (by simp) (by simp) (hm.blkI 2 rfl) (hm.neRow 2 rfl rfl))) fun k2 hk2 => ?_
     have bk2 : 0 ≤ k2 ∧ k2 ≤ 1000 := mem_rng hk2 (by decide)
     have bk20 := bk2.1
     have bk21 := bk2.2
     clear bk2
     refine wl_nil ?_
     refine nw 19 139775 (fun _ hm => ⟨hm.bl 1, hm.bl 0, hm.fa 0, hm.ownI 0 rfl, hm.ownI 1 rfl, hm.ownI 2 rfl, trivial⟩) fun z => ?_
     have h := J139775 q1 k2 bk20 bk21 q17
     rw [hW] at h
     refine wa_weak ?_ ?_ h
     ·exact ⟨rfl, rfl, rfl, rfl, rfl, rfl, rfl, rfl, rfl, rfl, rfl, trivial⟩
     exact fun _ hm => hm.pick [0, 1, 2, 3] [0, 1, 2] [0] rfl rfl
    refine wl_buildSlice (e := 9) (cs := [.string ⟨#[65, 66, 49]⟩, .string ⟨#[65, 66, 50]⟩, .string ⟨#[90, 90, 57]⟩]) rfl (by kernel_rfl) rfl fun q14 => ?_
    refine wl_nil ?_
    refine nw 19 156155 (fun _ hm => ⟨hm.bl 2, hm.bl 1, hm.fa 0, hm.ownI 0 rfl, hm.ownI 1 rfl, hm.ownI 2 rfl, trivial⟩) fun z => ?_
    have h := T156155 q1 q14 q17
    rw [hW] at h
    refine wa_weak ?_ ?_ h
    ·exact ⟨rfl, rfl, rfl, rfl, rfl, rfl, rfl, rfl, rfl, rfl, rfl, rfl, rfl, trivial⟩
    exact fun _ hm => hm.pick [1, 2, 3, 0, 4] [0, 1, 2] [0] rfl rfl
   have J8699 : ∀ (q1 : Nat), W 10 (lb 19 8699) [(0, .pointer (some ⟨sb, 0, none⟩)), (2, .pointer (some ⟨g1, 0, none⟩)), (3, .pointer (some ⟨g2, 0, none⟩)), (49, .int .i64 ((R : Nat) : Int)), (50, .int .i64 ((j : Nat) : Int)), (56, .pointer (some ⟨sb, 0, none⟩)), (57, .slice (some ⟨q1, 0, none⟩) 6 6), (60, .slice (some ⟨bv, 0, none⟩) k vc), (61, .pointer (some ⟨sb, 0, none⟩)), (64, .int .i64 ((k : Nat) : Int)), (69, .pointer (some ⟨sb, 0, none⟩))] (fun w => Strm 25 w B sb (m + 140 + 10 * j)) [(g1, 31, [.slice none 0 0, .slice none 0 0, .slice none 0 0, .slice none 0 0]), (g2, 31, [.slice sA sn sc, .slice cA 4 cc, .slice (some ⟨bv, 0, none⟩) k vc, .slice pA pn pc]), (q1, 3, [.int .i64 0, .int .i64 0, .int .i64 50, .int .i64 100, .int .i64 200, .int .i64 1000])] [⟨.slice pA pn pc, 164, 3, pn, pl.flatMap plEnc⟩, ⟨.slice (some ⟨bv, 0, none⟩) k vc, 69, 2, k, vl.flatMap vhEnc⟩, ⟨.slice sA sn sc, 156, 15, sn, sl.flatMap stEnc⟩] [fun wy => SlT csEnc 2 158 wy cA 4 cl] := by
    intro q1
    rw [hW]
    refine wa_all [2, 14, 17] (by kernel_rfl) rfl ⟨⟨_, rfl, ?_⟩, ⟨_, rfl, ?_⟩, ⟨_, rfl, ?_⟩, trivial⟩
    ·refine wl_got (γ := Int) (val := fun v => .int .i64 v) (φ := fun v => v ∈ ([0, 0, 50, 100, 200, 1000] : List Int)) rfl cb63 rfl rfl rfl rfl (fun wx hm => (pick_any [0, 0, 50, 100, 200, 1000] _ _ _ wx B sb _ hm.k (by omega) (by simp) (by simp) (hm.blkI 2 rfl) (hm.neRow 2 rfl rfl))) fun k2 hk2 => ?_
     have bk2 : 0 ≤ k2 ∧ k2 ≤ 1000 := mem_rng hk2 (by decide)
     have bk20 := bk2.1
     have bk21 := bk2.2
     clear bk2
     refine wl_nil ?_
     refine nw 19 8703 (fun _ hm => ⟨hm.bl 1, hm.bl 0, hm.fa 0, hm.ownI 0 rfl, hm.ownI 1 rfl, hm.ownI 2 rfl, trivial⟩) fun z => ?_
     have h := J8703 q1 k2 bk20 bk21
     rw [hW] at h
     refine wa_weak ?_ ?_ h
     ·exact ⟨rfl, rfl, rfl, rfl, rfl, rfl, rfl, rfl, rfl, rfl, trivial⟩
     exact fun _ hm => hm.pick [0, 1, 2] [0, 1, 2] [0] rfl rfl
    ·refine wl_buildSlice (e := 9) (cs := [.string ⟨#[65, 66, 49]⟩, .string ⟨#[65, 66, 50]⟩, .string ⟨#[90, 90, 57]⟩]) rfl (by kernel_rfl) rfl fun q14 => ?_
     refine wl_nil ?_
     refine nw 19 25083 (fun _ hm => ⟨hm.bl 2, hm.bl 1, hm.fa 0, hm.ownI 0 rfl, hm.ownI 1 rfl, hm.ownI 2 rfl, trivial⟩) fun z => ?_
     have h := J25083 q1 q14
     rw [hW] at h
     refine wa_weak ?_ ?_ h
     ·exact ⟨rfl, rfl, rfl, rfl, rfl, rfl, rfl, rfl, rfl, rfl, rfl, rfl, trivial⟩
     exact fun _ hm => hm.pick [1, 2, 3, 0] [0, 1, 2] [0] rfl rfl
    refine wl_alloc zc164 rfl fun q17 => ?_
    refine wl_nil ?_
    refine nw 19 139771 (fun _ hm => ⟨hm.bl 2, hm.bl 1, hm.fa 0, hm.ownI 0 rfl, hm.ownI 1 rfl, hm.ownI 2 rfl, trivial⟩) fun z => ?_
    have h := J139771 q1 q17
    rw [hW] at h
    refine wa_weak ?_ ?_ h
    ·exact ⟨rfl, rfl, rfl, rfl, rfl, rfl, rfl, rfl, rfl, rfl, rfl, rfl, trivial⟩
    exact fun _ hm => hm.pick [1, 2, 3, 0] [0, 1, 2] [0] rfl rfl
   have T156153 : ∀ (q14 : Nat) (q17 : Nat), W 9 (lb 19 156153) [(0, .pointer (some ⟨sb, 0, none⟩)), (2, .pointer (some ⟨g1, 0, none⟩)), (3, .pointer (some ⟨g2, 0, none⟩)), (6, .pointer (some ⟨q17, 0, none⟩)), (49, .int .i64 ((R : Nat) : Int)), (50, .int .i64 ((j : Nat) : Int)), (56, .pointer (some ⟨sb, 0, none⟩)), (60, .slice (some ⟨bv, 0, none⟩) k vc), (61, .pointer (some ⟨sb, 0, none⟩)), (64, .int .i64 ((k : Nat) : Int)), (69, .pointer (some ⟨sb, 0, none⟩)), (70, .slice (some ⟨q14, 0, none⟩) 3 3)] (fun w => Strm 25 w B sb (m + 140 + 10 * j)) [(g1, 31, [.slice none 0 0, .slice none 0 0, .slice none 0 0, .slice none 0 0]), (g2, 31, [.slice sA sn sc, .slice cA 4 cc, .slice (some ⟨bv, 0, none⟩) k vc, .slice pA pn pc]), (q14, 9, [.string ⟨#[65, 66, 49]⟩, .string ⟨#[65, 66, 50]⟩, .string ⟨#[90, 90, 57]⟩]), (q17, 164, [.int .i64 0, .string ⟨#[]⟩, .string ⟨#[]⟩])] [⟨.slice pA pn pc, 164, 3, pn, pl.flatMap plEnc⟩, ⟨.slice (some ⟨bv, 0, none⟩) k vc, 69, 2, k, vl.flatMap vhEnc⟩, ⟨.slice sA sn sc, 156, 15, sn, sl.flatMap stEnc⟩] [fun wy => SlT csEnc 2 158 wy cA 4 cl] := by
    intro q14 q17
    rw [hW]
    refine wa1 1 rfl ?_
    refine wl_buildSlice (e := 3) (cs := [.int .i64 0, .int .i64 0, .int .i64 50, .int .i64 100, .int .i64 200, .int .i64 1000]) rfl (by kernel_rfl) rfl fun g13 => ?_
    refine wl_nil ?_
    refine nw 19 156155 (fun _ hm => ⟨hm.bl 2, hm.bl 1, hm.fa 0, hm.ownI 0 rfl, hm.ownI 1 rfl, hm.ownI 2 rfl, trivial⟩) fun z => ?_
    refine wa1 2 rfl ?_
    refine wl_got (γ := Int) (val := fun v => .int .i64 v) (φ := fun v => v ∈ ([0, 0, 50, 100, 200, 1000] : List Int)) rfl cb63 rfl rfl rfl rfl (fun wx hm => (pick_any [0, 0, 50, 100, 200, 1000] _ _ _ wx B sb _ hm.k (by omega) (by simp) (by simp) (hm.blkI 0 rfl) (hm.neRow 0 rfl rfl))) fun k2 hk2 => ?_
    have bk2 : 0 ≤ k2 ∧ k2 ≤ 1000 := mem_rng hk2 (by decide)
    have bk20 := bk2.1
    have bk21 := bk2.2
    clear bk2
    refine wl_nil ?_
    refine nw 19 156159 (fun _ hm => ⟨hm.bl 2, hm.bl 1, hm.fa 0, hm.ownI 0 rfl, hm.ownI 1 rfl, hm.ownI 2 rfl, trivial⟩) fun z => ?_
    refine wa1 9 rfl ?_
    refine wl_got (γ := Int) (val := fun v => .int .i64 v) (φ := fun v => IsBelow ((k : Nat) : Int) v) rfl cb29 rfl rfl rfl rfl (fun wx hm => (next_any _ wx B sb _ hm.k (by omega) (by omega) (by omega))) fun vj hvj => ?_
    have hj3 := isBelow_lt hvj (by omega)
    obtain ⟨j2, rfl⟩ := Int.eq_ofNat_of_zero_le hj3.1
    have hj2 : j2 < k := by omega
    obtain ⟨q, hq⟩ : ∃ q, vl[j2]? = some q := ⟨_, List.getElem?_eq_getElem (by omega)⟩
    obtain ⟨u0, u1⟩ := q
    have hqB := hvB _ (List.mem_of_getElem? hq)
    have hq0 : u0.size ≤ 1000 := hqB.1
    refine wl_nil ?_
    refine nw 19 156671 (fun _ hm => ⟨hm.bl 2, hm.bl 1, hm.fa 0, hm.ownI 0 rfl, hm.ownI 1 rfl, hm.ownI 2 rfl, trivial⟩) fun z => ?_
    refine wt 10 19 157695 rfl z (ov_index (j := j2) es28 rfl rfl (by omega)) ?_
    refine wt 11 19 159743 rfl z (ov_field fo69_0 rfl rfl) ?_
    refine wt 12 19 163839 rfl z (ov_elem1 (k := 0) (v := .string u0) sc9 rfl (fun _ hm => (SlT.ofOwn vh_len (hm.2.2.2.2.1) hvl)) hq rfl rfl) ?_
    refine wa1 15 rfl ?_
    refine wl_got (γ := ByteArray) (val := fun v => .string v) (φ := fun v => v ∈ ([⟨#[65, 66, 49]⟩, ⟨#[65, 66, 50]⟩, ⟨#[90, 90, 57]⟩] : List ByteArray)) rfl cb62 rfl rfl rfl rfl (fun wx hm => (some_any [⟨#[65, 66, 49]⟩, ⟨#[65, 66, 50]⟩, ⟨#[90, 90, 57]⟩] _ _ _ wx B sb _ hm.k (by omega) (by simp) (by simp) (hm.blkI 3 rfl) (hm.neRow 3 rfl rfl))) fun k15 hk15 => ?_
    have zk15 : k15.size ≤ 100 := mem_sz hk15 (by decide)
    refine wl_nil ?_
    refine nw 19 196607 (fun _ hm => ⟨hm.bl 2, hm.bl 1, hm.fa 0, hm.ownI 0 rfl, hm.ownI 1 rfl, hm.ownI 2 rfl, trivial⟩) fun z => ?_
    refine wt 16 19 262143 rfl z (ov_build (cs := [.int .i64 k2, .string u0, .string k15]) rfl (by kernel_rfl)) ?_
    refine wa1 18 rfl ?_
    refine wl_stores (cs' := [.int .i64 k2, .string u0, .string k15]) 4 rz164 rfl rfl rfl rfl rfl rfl rfl rfl ?_
    refine wl_nil ?_
    refine nw 19 524287 (fun _ hm => ⟨hm.bl 2, hm.bl 1, hm.fa 0, hm.ownI 0 rfl, hm.ownI 1 rfl, hm.ownI 2 rfl, trivial⟩) fun z => ?_
    refine wa_done (by kernel_rfl) ?_
    exact nx_meet (q17, k2, u0, k15) ⟨⟨by dsimp only; omega, by dsimp only; omega⟩, by dsimp only; omega, by dsimp only; omega⟩ ⟨rfl, rfl, rfl, rfl, rfl, rfl, trivial⟩ (fun _ hm => (hm.more rfl (by first | omega | (dsimp only; omega))).pick [4, 2, 1] [0, 1, 2] [0] rfl rfl)
   have J25081 : ∀ (q14 : Nat), W 10 (lb 19 25081) [(0, .pointer (some ⟨sb, 0, none⟩)), (2, .pointer (some ⟨g1, 0, none⟩)), (3, .pointer (some ⟨g2, 0, none⟩)), (49, .int .i64 ((R : Nat) : Int)), (50, .int .i64 ((j : Nat) : Int)), (56, .pointer (some ⟨sb, 0, none⟩)), (60, .slice (some ⟨bv, 0, none⟩) k vc), (61, .pointer (some ⟨sb, 0, none⟩)), (64, .int .i64 ((k : Nat) : Int)), (69, .pointer (some ⟨sb, 0, none⟩)), (70, .slice (some ⟨q14, 0, none⟩) 3 3)] (fun w => Strm 25 w B sb (m + 140 + 10 * j)) [(g1, 31, [.slice none 0 0, .slice none 0 0, .slice none 0 0, .slice none 0 0]), (g2, 31, [.slice sA sn sc, .slice cA 4 cc, .slice (some ⟨bv, 0, none⟩) k vc, .slice pA pn pc]), (q14, 9, [.string ⟨#[65, 66, 49]⟩, .string ⟨#[65, 66, 50]⟩, .string ⟨#[90, 90, 57]⟩])] [⟨.slice pA pn pc, 164, 3, pn, pl.flatMap plEnc⟩, ⟨.slice (some ⟨bv, 0, none⟩) k vc, 69, 2, k, vl.flatMap vhEnc⟩, ⟨.slice sA sn sc, 156, 15, sn, sl.flatMap stEnc⟩] [fun wy => SlT csEnc 2 158 wy cA 4 cl] := by
    intro q14
    rw [hW]
    refine wa_all [1, 17] (by kernel_rfl) rfl ⟨⟨_, rfl, ?_⟩, ⟨_, rfl, ?_⟩, trivial⟩
    ·refine wl_buildSlice (e := 3) (cs := [.int .i64 0, .int .i64 0, .int .i64 50, .int .i64 100, .int .i64 200, .int .i64 1000]) rfl (by kernel_rfl) rfl fun q1 => ?_
     refine wl_nil ?_
     refine nw 19 25083 (fun _ hm => ⟨hm.bl 2, hm.bl 1, hm.fa 0, hm.ownI 0 rfl, hm.ownI 1 rfl, hm.ownI 2 rfl, trivial⟩) fun z => ?_
     have h := J25083 q1 q14
     rw [hW] at h
     refine wa_weak ?_ ?_ h
     ·exact ⟨rfl, rfl, rfl, rfl, rfl, rfl, rfl, rfl, rfl, rfl, rfl, rfl, trivial⟩
     exact fun _ hm => hm.pick [1, 2, 0, 3] [0, 1, 2] [0] rfl rfl
    refine wl_alloc zc164 rfl fun q17 => ?_
    refine wl_nil ?_
    refine nw 19 156153 (fun _ hm => ⟨hm.bl 2, hm.bl 1, hm.fa 0, hm.ownI 0 rfl, hm.ownI 1 rfl, hm.ownI 2 rfl, trivial⟩) fun z => ?_
    have h := T156153 q14 q17
    rw [hW] at h
    refine wa_weak ?_ ?_ h
    ·exact ⟨rfl, rfl, rfl, rfl, rfl, rfl, rfl, rfl, rfl, rfl, rfl, rfl, trivial⟩
    exact fun _ hm => hm.pick [1, 2, 3, 0] [0, 1, 2] [0] rfl rfl
   have J139769 : ∀ (q17 : Nat), W 10 (lb 19 139769) [(0, .pointer (some ⟨sb, 0, none⟩)), (2, .pointer (some ⟨g1, 0, none⟩)), (3, .pointer (some ⟨g2, 0, none⟩)), (6, .pointer (some ⟨q17, 0, none⟩)), (49, .int .i64 ((R : Nat) : Int)), (50, .int .i64 ((j : Nat) : Int)), (56, .pointer (some ⟨sb, 0, none⟩)), (60, .slice (some ⟨bv, 0, none⟩) k vc), (61, .pointer (some ⟨sb, 0, none⟩)), (64, .int .i64 ((k : Nat) : Int)), (69, .pointer (some ⟨sb, 0, none⟩))] (fun w => Strm 25 w B sb (m + 140 + 10 * j)) [(g1, 31, [.slice none 0 0, .slice none 0 0, .slice none 0 0, .slice none 0 0]), (g2, 31, [.slice sA sn sc, .slice cA 4 cc, .slice (some ⟨bv, 0, none⟩) k vc, .slice pA pn pc]), (q17, 164, [.int .i64 0, .string ⟨#[]⟩, .string ⟨#[]⟩])] [⟨.slice pA pn pc, 164, 3, pn, pl.flatMap plEnc⟩, ⟨.slice (some ⟨bv, 0, none⟩) k vc, 69, 2, k, vl.flatMap vhEnc⟩, ⟨.slice sA sn sc, 156, 15, sn, sl.flatMap stEnc⟩] [fun wy => SlT csEnc 2 158 wy cA 4 cl] := by
    intro q17
    rw [hW]
    refine wa_all [1, 14] (by kernel_rfl) rfl ⟨⟨_, rfl, ?_⟩, ⟨_, rfl, ?_⟩, trivial⟩
    ·refine wl_buildSlice (e := 3) (cs := [.int .i64 0, .int .i64 0, .int .i64 50, .int .i64 100, .int .i64 200, .int .i64 1000]) rfl (by kernel_rfl) rfl fun q1 => ?_
     refine wl_nil ?_
     refine nw 19 139771 (fun _ hm => ⟨hm.bl 2, hm.bl 1, hm.fa 0, hm.ownI 0 rfl, hm.ownI 1 rfl, hm.ownI 2 rfl, trivial⟩) fun z => ?_
     have h := J139771 q1 q17
     rw [hW] at h
     refine wa_weak ?_ ?_ h
     ·exact ⟨rfl, rfl, rfl, rfl, rfl, rfl, rfl, rfl, rfl, rfl, rfl, rfl, trivial⟩
     exact fun _ hm => hm.pick [1, 2, 0, 3] [0, 1, 2] [0] rfl rfl
    refine wl_buildSlice (e := 9) (cs := [.string ⟨#[65, 66, 49]⟩, .string ⟨#[65, 66, 50]⟩, .string ⟨#[90, 90, 57]⟩]) rfl (by kernel_rfl) rfl fun q14 => ?_
    refine wl_nil ?_
    refine nw 19 156153 (fun _ hm => ⟨hm.bl 2, hm.bl 1, hm.fa 0, hm.ownI 0 rfl, hm.ownI 1 rfl, hm.ownI 2 rfl, trivial⟩) fun z => ?_
    have h := T156153 q14 q17
    rw [hW] at h
    refine wa_weak ?_ ?_ h
    ·exact ⟨rfl, rfl, rfl, rfl, rfl, rfl, rfl, rfl, rfl, rfl, rfl, rfl, trivial⟩
    exact fun _ hm => hm.pick [1, 2, 0, 3] [0, 1, 2] [0] rfl rfl
   have J8697 : W 11 (lb 19 8697) [(0, .pointer (some ⟨sb, 0, none⟩)), (2, .pointer (some ⟨g1, 0, none⟩)), (3, .pointer (some ⟨g2, 0, none⟩)), (49, .int .i64 ((R : Nat) : Int)), (50, .int .i64 ((j : Nat) : Int)), (56, .pointer (some ⟨sb, 0, none⟩)), (60, .slice (some ⟨bv, 0, none⟩) k vc), (61, .pointer (some ⟨sb, 0, none⟩)), (64, .int .i64 ((k : Nat) : Int)), (69, .pointer (some ⟨sb, 0, none⟩))] (fun w => Strm 25 w B sb (m + 140 + 10 * j)) [(g1, 31, [.slice none 0 0, .slice none 0 0, .slice none 0 0, .slice none 0 0]), (g2, 31, [.slice sA sn sc, .slice cA 4 cc, .slice (some ⟨bv, 0, none⟩) k vc, .slice pA pn pc])] [⟨.slice pA pn pc, 164, 3, pn, pl.flatMap plEnc⟩, ⟨.slice (some ⟨bv, 0, none⟩) k vc, 69, 2, k, vl.flatMap vhEnc⟩, ⟨.slice sA sn sc, 156, 15, sn, sl.flatMap stEnc⟩] [fun wy => SlT csEnc 2 158 wy cA 4 cl] := by
    skip
    rw [hW]
    refine wa_all [1, 14, 17] (by kernel_rfl) rfl ⟨⟨_, rfl, ?_⟩, ⟨_, rfl, ?_⟩, ⟨_, rfl, ?_⟩, trivial⟩
    ·refine wl_buildSlice (e := 3) (cs := [.int .i64 0, .int .i64 0, .int .i64 50, .int .i64 100, .int .i64 200, .int .i64 1000]) rfl (by kernel_rfl) rfl fun q1 => ?_
     refine wl_nil ?_
     refine nw 19 8699 (fun _ hm => ⟨hm.bl 2, hm.bl 1, hm.fa 0, hm.ownI 0 rfl, hm.ownI 1 rfl, hm.ownI 2 rfl, trivial⟩) fun z => ?_
     have h := J8699 q1
     rw [hW] at h
     refine wa_weak ?_ ?_ h
     ·exact ⟨rfl, rfl, rfl, rfl, rfl, rfl, rfl, rfl, rfl, rfl, rfl, trivial⟩
     exact fun _ hm => hm.pick [1, 2, 0] [0, 1, 2] [0] rfl rfl
    ·refine wl_buildSlice (e := 9) (cs := [.string ⟨#[65, 66, 49]⟩, .string ⟨#[65, 66, 50]⟩, .string ⟨#[90, 90, 57]⟩]) rfl (by kernel_rfl) rfl fun q14 => ?_
     refine wl_nil ?_
     refine nw 19 25081 (fun _ hm => ⟨hm.bl 2, hm.bl 1, hm.fa 0, hm.ownI 0 rfl, hm.ownI 1 rfl, hm.ownI 2 rfl, trivial⟩) fun z => ?_
     have h := J25081 q14
     rw [hW] at h
     refine wa_weak ?_ ?_ h
     ·exact ⟨rfl, rfl, rfl, rfl, rfl, rfl, rfl, rfl, rfl, rfl, rfl, trivial⟩
     exact fun _ hm => hm.pick [1, 2, 0] [0, 1, 2] [0] rfl rfl
    refine wl_alloc zc164 rfl fun q17 => ?_
    refine wl_nil ?_
    refine nw 19 139769 (fun _ hm => ⟨hm.bl 2, hm.bl 1, hm.fa 0, hm.ownI 0 rfl, hm.ownI 1 rfl, hm.ownI 2 rfl, trivial⟩) fun z => ?_
    have h := J139769 q17
    rw [hW] at h
    refine wa_weak ?_ ?_ h
    ·exact ⟨rfl, rfl, rfl, rfl, rfl, rfl, rfl, rfl, rfl, rfl, rfl, trivial⟩
    exact fun _ hm => hm.pick [1, 2, 0] [0, 1, 2] [0] rfl rfl
   rw [hW]
   have h := J8697 
   rw [hW] at h
   refine wa_weak ?_ ?_ h
   ·exact ⟨rfl, rfl, rfl, rfl, rfl, rfl, rfl, rfl, rfl, rfl, trivial⟩
   exact fun _ hm => hm.pick [1, 0] [0, 1, 2] [0] rfl rfl
  rintro ⟨g6, pf, pv, pp⟩ hinv
  replace hinv : PlB ⟨pf, pv, pp⟩ := hinv
  dsimp only
  have hpp : PlB ⟨pf, pv, pp⟩ := hinv
  refine gw_cut (γ := Option Addr × Nat) (I := (fun g => True)) (S' := (fun g => [(0, .pointer (some ⟨sb, 0, none⟩)), (2, .pointer (some ⟨g1, 0, none⟩)), (3, .pointer (some ⟨g2, 0, none⟩)), (7, .slice g.1 (pn + 1) g.2), (49, .int .i64 ((R : Nat) : Int)), (50, .int .i64 ((j : Nat) : Int))])) (K' := (fun g => fun w => Strm 25 w B sb (m + 140 + 10 * j + 9))) (L' := (fun g => [(g6, 164, [.int .i64 pf, .string pv, .string pp]), (g2, 31, [.slice sA sn sc, .slice cA 4 cc, .slice (some ⟨bv, 0, none⟩) k vc, .slice pA pn pc]), (g1, 31, [.slice none 0 0, .slice none 0 0, .slice none 0 0, .slice none 0 0])])) (O' := (fun g => [⟨.slice g.1 (pn + 1) g.2, 164, 3, pn + 1, (pl ++ [(⟨pf, pv, pp⟩ : Pl)]).flatMap plEnc⟩, ⟨.slice pA pn pc, 164, 3, pn, pl.flatMap plEnc⟩, ⟨.slice (some ⟨bv, 0, none⟩) k vc, 69, 2, k, vl.flatMap vhEnc⟩, ⟨.slice sA sn sc, 156, 15, sn, sl.flatMap stEnc⟩])) (X' := (fun g => [fun wy => SlT csEnc 2 158 wy cA 4 cl])) ?_ ?_
  ·refine gd (fun wz => Blk wz g6 164 [.int .i64 pf, .string pv, .string pp] ∧ Blk wz g2 31 [.slice sA sn sc, .slice cA 4 cc, .slice (some ⟨bv, 0, none⟩) k vc, .slice pA pn pc] ∧ Blk wz g1 31 [.slice none 0 0, .slice none 0 0, .slice none 0 0, .slice none 0 0] ∧ (fun wy => SlT csEnc 2 158 wy cA 4 cl) wz ∧ True) mixed (fun _ hm => ⟨hm.bl 0, hm.bl 1, hm.bl 2, hm.fa 0, trivial⟩) fun z => ?_
   refine wt 0 7 1 rfl z (ov_field fo31_3 rfl rfl) ?_
   refine wt 1 7 3 rfl z (ov_load sc29 rfl (fun _ hm => hm.2.1) rfl) ?_
   refine wt 3 7 11 rfl z (ov_loads rz164 rfl (fun _ hm => hm.1) rfl rfl) ?_
   refine wa_all [2, 4] (by kernel_rfl) rfl ⟨⟨_, rfl, ?_⟩, ⟨_, rfl, ?_⟩, trivial⟩
   ·refine wl_callgo (γ := Option Addr × Nat) (val := (fun g => .slice g.1 pn g.2)) (φ := (fun g => True)) (fun g => ⟨.slice g.1 pn g.2, 164, 3, pn, pl.flatMap plEnc⟩) rfl cb81 rfl rfl (fun wx hm => (clonePlates_all pl pA pn pc wx (SlT.ofOwn pl_len (hm.ownI 0 rfl) hpl) (own_shape (hm.ownI 0 rfl)) (by omega)).mono fun _ _ ⟨A, c, he, ho, hg⟩ => ⟨(A, c), he, trivial, ho, hg⟩) ?_
    rintro ⟨A3, c3⟩ hphi
    dsimp only at hphi ⊢
    refine wl_nil ?_
    refine nw 7 15 (fun _ hm => ⟨hm.bl 0, hm.bl 1, hm.bl 2, hm.fa 0, trivial⟩) fun z => ?_
    refine wa1 4 rfl ?_
    refine wl_buildSlice (e := 164) (cs := [.int .i64 pf, .string pv, .string pp]) rfl (by kernel_rfl) rfl fun g14 => ?_
    refine wl_nil ?_
    refine nw 7 31 (fun _ hm => ⟨hm.bl 1, hm.bl 2, hm.bl 3, hm.fa 0, trivial⟩) fun z => ?_
    refine wa1 5 rfl ?_
    refine wl_append (news := [.int .i64 pf, .string pv, .string pp]) 0 0 ap29 rfl rfl rfl rfl rfl rfl rfl (by omega) (by unfold maxLen; omega) rfl rfl fun v2 hv2 => ?_
    refine wl_look (R := ∃ A cc, v2 = .slice A (pn + 1) cc) (fun wx hm => own_slice (hm.ownI 0 rfl)) ?_
    rintro ⟨A4, c4, rfl⟩
    refine wl_nil ?_
    refine nw 7 63 (fun _ hm => ⟨hm.bl 1, hm.bl 2, hm.bl 3, hm.fa 0, trivial⟩) fun z => ?_
    refine wt 6 7 127 rfl z (ov_assign rfl) ?_
    refine wa_done (by kernel_rfl) ?_
    have hxs : pl.flatMap plEnc ++ ([.int .i64 pf, .string pv, .string pp] : List Value) = (pl ++ [(⟨pf, pv, pp⟩ : Pl)]).flatMap plEnc := by simp [plEnc]
    rw [hxs]
    exact nx_meet (A4, c4) trivial ⟨rfl, rfl, rfl, rfl, rfl, rfl, trivial⟩ (fun _ hm => hm.pick [1, 2, 3] [0, 1, 2, 3] [0] rfl rfl)
   refine wl_buildSlice (e := 164) (cs := [.int .i64 pf, .string pv, .string pp]) rfl (by kernel_rfl) rfl fun g15 => ?_
   refine wl_nil ?_
   refine nw 7 27 (fun _ hm => ⟨hm.bl 1, hm.bl 2, hm.bl 3, hm.fa 0, trivial⟩) fun z => ?_
   refine wa1 2 rfl ?_
   refine wl_callgo (γ := Option Addr × Nat) (val := (fun g => .slice g.1 pn g.2)) (φ := (fun g => True)) (fun g => ⟨.slice g.1 pn g.2, 164, 3, pn, pl.flatMap plEnc⟩) rfl cb81 rfl rfl (fun wx hm => (clonePlates_all pl pA pn pc wx (SlT.ofOwn pl_len (hm.ownI 0 rfl) hpl) (own_shape (hm.ownI 0 rfl)) (by omega)).mono fun _ _ ⟨A, c, he, ho, hg⟩ => ⟨(A, c), he, trivial, ho, hg⟩) ?_
   rintro ⟨A3, c3⟩ hphi
   dsimp only at hphi ⊢
   refine wl_nil ?_
   refine nw 7 31 (fun _ hm => ⟨hm.bl 1, hm.bl 2, hm.bl 3, hm.fa 0, trivial⟩) fun z => ?_
   refine wa1 5 rfl ?_
   refine wl_append (news := [.int .i64 pf, .string pv, .string pp]) 0 0 ap29 rfl rfl rfl rfl rfl rfl rfl (by omega) (by unfold maxLen; omega) rfl rfl fun v2 hv2 => ?_
   refine wl_look (R := ∃ A cc, v2 = .slice A (pn + 1) cc) (fun wx hm => own_slice (hm.ownI 0 rfl)) ?_
   rintro ⟨A4, c4, rfl⟩
   refine wl_nil ?_
   refine nw 7 63 (fun _ hm => ⟨hm.bl 1, hm.bl 2, hm.bl 3, hm.fa 0, trivial⟩) fun z => ?_
   refine wt 6 7 127 rfl z (ov_assign rfl) ?_
   refine wa_done (by kernel_rfl) ?_
   have hxs : pl.flatMap plEnc ++ ([.int .i64 pf, .string pv, .string pp] : List Value) = (pl ++ [(⟨pf, pv, pp⟩ : Pl)]).flatMap plEnc := by simp [plEnc]
   rw [hxs]
   exact nx_meet (A4, c4) trivial ⟨rfl, rfl, rfl, rfl, rfl, rfl, trivial⟩ (fun _ hm => hm.pick [1, 2, 3] [0, 1, 2, 3] [0] rfl rfl)
  rintro ⟨qA, qc⟩ hinv
  replace hinv : True := hinv
  dsimp only
  have huB : ∀ x ∈ pl ++ [(⟨pf, pv, pp⟩ : Pl)], PlB x := all_snoc hpB hpp
  have hul : (pl ++ [(⟨pf, pv, pp⟩ : Pl)]).length = pn + 1 := by simp [hpl]
  obtain ⟨us, hus⟩ : ∃ z, z = pl ++ [(⟨pf, pv, pp⟩ : Pl)] := ⟨_, rfl⟩
  rw [← hus] at huB hul
  rw [← hus]
  refine gw_look (R := ∃ g, qA = some ⟨g, 0, none⟩) (fun wx hm => own_addr (hm.ownI 0 rfl) (by omega)) ?_
  rintro ⟨g5, rfl⟩
  refine ct_ rfl (sr_ (mv_ rfl ?_))
  refine wl_callr (v := .tuple #[]) (xs' := (isort rfLt us).flatMap plEnc) 0 rfl rfl rfl cb82 rfl rfl (fun wx hm => (sort_rf us g5 (pn + 1) qc _ wx (hm.ownI 0 rfl) hul (by omega) huB)) ?_
  obtain ⟨zs, hzs⟩ : ∃ z, z = isort rfLt us := ⟨_, rfl⟩
  rw [← hzs]
  have hzB : ∀ x ∈ zs, PlB x := fun x hx => huB x (by rw [hzs] at hx; exact isort_mem.1 hx)
  have hzl : zs.length = pn + 1 := by rw [hzs, isort_len]; exact hul
  obtain ⟨FE, hFE⟩ : ∃ z, z = fleetE sl cl vl zs := ⟨_, rfl⟩
  refine nn_ (sr_ ?_)
  refine wl_ov (ov_loads rz31 rfl (fun _ hm => hm.blkI 1 rfl) rfl rfl) rfl ?_
  refine wl_alloc zc31 rfl fun g16 => ?_
  refine wl_stores (cs' := [.slice sA sn sc, .slice cA 4 cc, .slice (some ⟨bv, 0, none⟩) k vc, .slice pA pn pc]) 0 rz31 rfl rfl rfl rfl rfl rfl rfl rfl ?_
  refine nn_ (sr_ (mv_ rfl (fd_ fo31_3 rfl rfl ?_)))
  refine wl_store 0 sc29 rfl rfl rfl rfl rfl rfl ?_
  refine nn_ (sr_ ?_)
  refine wl_ov (ov_loads rz31 rfl (fun _ hm => hm.blkI 0 rfl) rfl rfl) rfl ?_
  refine wl_callv (v := .int .i64 FE) rfl cb85 rfl rfl (fun wx hm => (by rw [hFE]; exact fleetFault_any sl cl vl zs sA cA (some ⟨bv, 0, none⟩) (some ⟨g5, 0, none⟩) sn sc 4 cc k vc (pn + 1) qc wx (SlT.ofOwnL stEnc_lenL (fun x hx => stB_ok (hsB x hx)) (hm.ownI 3 rfl) hsl) (hm.fact 0 rfl) (SlT.ofOwn vh_len (hm.ownI 2 rfl) hvl) (SlT.ofOwn pl_len (hm.ownI 0 rfl) hzl) (fun x hx => stB_ok (hsB x hx)) hcok (fun x hx => vhB_ok (hvB x hx)) (fun x hx => plB_ok (hzB x hx)) (by omega) (by omega) (by omega) (by omega) (own_cap (hm.ownI 0 rfl)))) ?_
  refine wl_ov (ov_eql rfl rfl) rfl (nn_ ?_)
  refine gw_cond rfl (fun hh => ?_) (fun hh => ?_)
  ·have hfe : FE = 0 := by simpa using hh
   clear hh
   refine gw_region ?_
   refine wl_ov (ov_loads rz31 rfl (fun _ hm => hm.blkI 0 rfl) rfl rfl) rfl ?_
   refine wl_stores (cs' := [.slice sA sn sc, .slice cA 4 cc, .slice (some ⟨bv, 0, none⟩) k vc, .slice (some ⟨g5, 0, none⟩) (pn + 1) qc]) 2 rz31 rfl rfl rfl rfl rfl rfl rfl rfl ?_
   refine wl_nil (nx_blk_nrm (nx_then (gw_region (ad_ rfl rfl (mv_ rfl (wl_nil ?_))))))
   exact nx_round (j + 1, some ⟨g5, 0, none⟩, pn + 1, qc, zs) ⟨by dsimp only; omega, by dsimp only; omega, hzl, hzB, hFE.symm.trans hfe⟩ (by dsimp only; omega) ⟨rfl, rfl, rfl, rfl, (some_int (by omega)), trivial⟩ (fun _ hm => (hm.more rfl (by first | omega | (dsimp only; omega))).pick [2, 3] [0, 2, 3] [0] rfl rfl)
  have hfe : ¬ (FE = 0) := by simpa using hh
  clear hh
  refine gw_skip (nx_blk_nrm (nx_then (gw_region (ad_ rfl rfl (mv_ rfl (wl_nil ?_))))))
  exact nx_round (j + 1, pA, pn, pc, pl) ⟨by dsimp only; omega, by dsimp only; omega, hpl, hpB, hfz⟩ (by dsimp only; omega) ⟨rfl, rfl, rfl, rfl, (some_int (by omega)), trivial⟩ (fun _ hm => (hm.more rfl (by first | omega | (dsimp only; omega))).pick [2, 3] [1, 2, 3] [0] rfl rfl)
 have hj : ¬ (((j : Nat) : Int) < ((R : Nat) : Int)) := by simpa using hh
 clear hh
 refine gw_exit ?_
 refine nx_then_exit (nx_then_exit ?_)
 refine nx_blk_here ?_
 refine nx_then (sr_ ?_)
 refine wl_ov (ov_loads rz31 rfl (fun _ hm => hm.blkI 0 rfl) rfl rfl) rfl ?_
 refine wl_stores (cs' := [.slice sA sn sc, .slice cA 4 cc, .slice vA k vc, .slice pA pn pc]) 1 rz31 rfl rfl rfl rfl rfl rfl rfl rfl ?_
 refine nn_ ?_
 refine gw_ret ?_
 refine nx_retc 1 rfl rz31 rfl rfl rfl fun wx hm => ?_
 exact ⟨sA, cA, vA, pA, sn, sc, cc, k, vc, pn, pc, sl, cl, vl, pl, rfl, ⟨⟨⟨hsl, hsB, hs1, hs3⟩, ⟨hcl4, hcok⟩, ⟨hvl, hvB, by omega⟩, ⟨hpl, hpB, by omega⟩⟩, hfz⟩, hm.k.more (by omega), hm.g, (hm.ownI 2 rfl), (hm.ownI 1 rfl), (hm.ownI 0 rfl), (hm.fact 0 rfl)⟩
end Go.Proofs.YtdoooppeiphefaaGreatDoor
namespace Go.Proofs.YtdoooppeiphefaaGreatDoor
open Go.RowKit
theorem gvehicleKey_any (w : World) (B sb m : Nat) (hS : Strm 25 w B sb m) (hm : m ≤ 100000000000) :
  Calls Tryz.prog 11 #[.pointer (some ⟨sb, 0, none⟩)] w (fun e w' => ∃ v : ByteArray, e = .returned (.string v) ∧ v.size ≤ 100 ∧ Strm 25 w' B sb (m + 1) ∧ w.grownBy w' (some sb)) := by
 refine gw_enter ⟨6, w, (some sb), []⟩ Tryz.func11 rfl Tryz.ntmps11 rfl (memS (X := []) hS allF_nil allL_nil) ?_
 refine sr_ (sg_ rfl (nn_ (sr_ (mv_ rfl ?_))))
 refine wl_buildSlice (e := 9) (cs := [.string ⟨#[118, 49]⟩, .string ⟨#[118, 49]⟩, .string ⟨#[118, 50]⟩, .string ⟨#[118, 50]⟩, .string ⟨#[118, 51]⟩, .string ⟨#[118, 52]⟩, .string ⟨#[110, 111, 110, 101]⟩, .string ⟨#[]⟩, .string ⟨#[65]⟩]) rfl (by kernel_rfl) rfl fun g1 => ?_
 refine wl_got (γ := ByteArray) (val := fun v => .string v) (φ := fun v => v ∈ ([⟨#[118, 49]⟩, ⟨#[118, 49]⟩, ⟨#[118, 50]⟩, ⟨#[118, 50]⟩, ⟨#[118, 51]⟩, ⟨#[118, 52]⟩, ⟨#[110, 111, 110, 101]⟩, ⟨#[]⟩, ⟨#[65]⟩] : List ByteArray)) rfl cb62 rfl rfl rfl rfl (fun wx hm => (some_any [⟨#[118, 49]⟩, ⟨#[118, 49]⟩, ⟨#[118, 50]⟩, ⟨#[118, 50]⟩, ⟨#[118, 51]⟩, ⟨#[118, 52]⟩, ⟨#[110, 111, 110, 101]⟩, ⟨#[]⟩, ⟨#[65]⟩] _ _ _ wx B sb _ hm.k (by omega) (by simp) (by simp) (hm.blkI 0 rfl) (hm.neRow 0 rfl rfl))) fun s2 hs2 => ?_
 have zs2 : s2.size ≤ 100 := mem_sz hs2 (by decide)
 refine sg_ rfl (nn_ ?_)
 refine gw_ret ?_
 refine nx_ret1 rfl rfl fun wx hm => ?_
 exact ⟨s2, rfl, by omega, hm.k, hm.g⟩
end Go.Proofs.YtdoooppeiphefaaGreatDoor
namespace Go.Proofs.YtdoooppeiphefaaGreatDoor
open Go.RowKit
theorem cloneEvents_all (l : List Ev) (A : Option Addr) (n c : Nat) (w : World) (hl : SlT evEnc 5 105 w A n l) (hs : ShapeA A n c) (hn : n ≤ 1000000) :
    Calls Tryz.prog 87 #[.slice A n c] w (fun e w' => ∃ A' c', e = .returned (.slice A' n c') ∧ w'.ownsRow w.heap.size 105 5 (.slice A' n c') n (l.flatMap evEnc) ∧ w.grownBy w' none) := by
  rcases hs with ⟨rfl, rfl, rfl⟩ | ⟨b, off, rfl⟩
  · exact cloneEvents_any l none 0 0 w hl (fun _ => ⟨rfl, rfl⟩) hn
  · rcases Nat.eq_zero_or_pos n with rfl | h0
    · have hl0 : l = [] := List.length_eq_zero_iff.1 hl.len
      subst hl0
      exact cloneEvents_empty b off c w
    · exact cloneEvents_pos l _ n c w hl h0 hn
theorem glog_any (sl : List St) (vl : List Vh) (sA cA vA pA : Option Addr) (sn sc cn cc vn vc pn pc q : Nat) (w : World) (B sb m : Nat) (hS : Strm 25 w B sb m) (hm : m ≤ 100000000) (hs : SlT stEnc 15 156 w sA sn sl) (hv : SlT vhEnc 2 69 w vA vn vl) (hsok : ∀ x ∈ sl, StOk x) (hvok : ∀ x ∈ vl, VhOk x) (hsn : sn ≤ 1000) (hvn : vn ≤ 1000) (hq : q ≤ 1000) :
  Calls Tryz.prog 26 #[.pointer (some ⟨sb, 0, none⟩), .agg #[.slice sA sn sc, .slice cA cn cc, .slice vA vn vc, .slice pA pn pc], .int .i64 ((q : Nat) : Int)] w (fun e w' => ∃ (A : Option Addr) (n c : Nat) (l : List Ev), e = .returned (.slice A n c) ∧ w'.ownsRow w.heap.size 105 5 (.slice A n c) n (l.flatMap evEnc) ∧ l.length = n ∧ (∀ x ∈ l, EvOk x) ∧ n ≤ q ∧ Strm 25 w' B sb (m + 20 * q + 20) ∧ w.grownBy w' (some sb)) := by
 obtain ⟨_, _, _, _, hh, _⟩ := hS.pos
 have hso := hs.oldRow hh (by decide)
 have hvo := hv.oldRow hh (by decide)
 refine gw_enter ⟨137, w, (some sb), []⟩ Tryz.func26 rfl Tryz.ntmps26 rfl (memS (X := [SlOld stEnc 15 156 w.heap.size (some sb) sA sn sl, SlOld vhEnc 2 69 w.heap.size (some sb) vA vn vl]) hS (allF_cons hso (allF_cons hvo allF_nil)) (allL_cons SlOld.lasts (allL_cons SlOld.lasts allL_nil))) ?_
 refine sr_ ?_
 have hvl := hv.len
 have hsl := hs.len
 refine wl_nilOwn 105 5 ?_
 refine wl_box rfl rfl rfl fun g1 => ?_
 refine sg_ rfl (nn_ (sr_ (sg_ rfl (nn_ (gw_seq (sr_ (fd_ fo31_2 rfl rfl (lk_ sc28 0 rfl rfl rfl (wl_ov (ov_len es28 rfl) rfl ?_)))))))))
 refine wl_ov (ov_eql rfl rfl) rfl (mv_ rfl ?_)
 rcases Bool.eq_false_or_eq_true (decide (((vn : Nat) : Int) = 0)) with h0 | h0
 ·refine wl_set 16 rfl (congrArg Value.bool h0) ?_
  refine goff rfl rfl rfl (goff rfl rfl rfl (goff rfl rfl rfl (goff rfl rfl rfl (pt_ rfl rfl (nn_ (ct_ rfl (sr_ (mv_ rfl (sg_ rfl (nn_ ?_))))))))))
  refine gw_ret ?_
  refine nx_then_ret ?_
  refine nx_ret1 rfl rfl fun wx hm => ?_
  exact ⟨none, 0, 0, [], rfl, (hm.ownI 0 rfl), rfl, (fun _ h => by cases h), by omega, hm.k.more (by omega), hm.g⟩
 refine wl_set 16 rfl (congrArg Value.bool h0) ?_
 have h0 := of_decide_eq_false h0
 refine wl_guard_on rfl rfl rfl (fd_ fo31_0 rfl rfl (wl_guard_on rfl rfl rfl (lk_ sc26 0 rfl rfl rfl (wl_guard_on rfl rfl rfl (wl_ov (ov_len es26 rfl) rfl (wl_guard_on rfl rfl rfl (wl_ov (ov_eql rfl rfl) rfl (pf_ rfl rfl (nn_ ?_)))))))))
 refine gw_cond rfl (fun hh => ?_) (fun hh => ?_)
 ·have h1 : ((sn : Nat) : Int) = 0 := by simpa using hh
  clear hh
  refine sr_ (mv_ rfl (sg_ rfl (nn_ ?_)))
  refine gw_ret ?_
  refine nx_then_ret ?_
  refine nx_ret1 rfl rfl fun wx hm => ?_
  exact ⟨none, 0, 0, [], rfl, (hm.ownI 0 rfl), rfl, (fun _ h => by cases h), by omega, hm.k.more (by omega), hm.g⟩
 have h1 : ¬ (((sn : Nat) : Int) = 0) := by simpa using hh
 clear hh
 refine gw_skip (nx_then (sr_ ?_))
 have hvn0 : 0 < vn := by omega
 have hsn0 : 0 < sn := by omega
 obtain ⟨bv, ov, hA, _, _⟩ := hv.get (by omega)
 subst hA
 obtain ⟨bs, os, hA, _, _⟩ := hs.get (by omega)
 subst hA
 refine sg_ rfl (nn_ (gw_seq (sr_ (mv_ rfl (mv_ rfl (nn_ (gw_block ?_)))))))
 refine gw_loop (γ := Nat × Nat × Int × Option Addr × Nat × List Ev) (fun g => g.1 ≤ q ∧ g.2.1 ≤ g.1 ∧ (0 ≤ g.2.2.1 ∧ g.2.2.1 ≤ 500 * ((g.1 : Nat) : Int)) ∧ g.2.2.2.2.2.length = g.2.1 ∧ (∀ x ∈ g.2.2.2.2.2, EvOk x)) (fun g => [(0, .pointer (some ⟨sb, 0, none⟩)), (4, .pointer (some ⟨g1, 0, none⟩)), (6, .slice none 0 0), (7, .slice g.2.2.2.1 g.2.1 g.2.2.2.2.1), (8, .int .i64 g.2.2.1), (23, .int .i64 ((q : Nat) : Int)), (24, .int .i64 ((g.1 : Nat) : Int))]) (fun g => fun w => Strm 25 w B sb (m + 20 * g.1)) (fun g => [(g1, 31, [.slice (some ⟨bs, os, none⟩) sn sc, .slice cA cn cc, .slice (some ⟨bv, ov, none⟩) vn vc, .slice pA pn pc])]) (fun g => [⟨.slice g.2.2.2.1 g.2.1 g.2.2.2.2.1, 105, 5, g.2.1, g.2.2.2.2.2.flatMap evEnc⟩]) (fun g => [SlOld stEnc 15 156 w.heap.size (some sb) (some ⟨bs, os, none⟩) sn sl, SlOld vhEnc 2 69 w.heap.size (some sb) (some ⟨bv, ov, none⟩) vn vl]) (fun g => q - g.1) (0, 0, 0, none, 0, []) ⟨Nat.zero_le _, Nat.le_refl _, ⟨Int.le_refl _, by decide⟩, rfl, (fun _ h => by cases h)⟩ ⟨rfl, rfl, rfl, rfl, rfl, rfl, rfl, trivial⟩ (fun _ hm => (hm.more rfl (by first | omega | (dsimp only; omega))).pick [0] [0] [0, 1] rfl rfl) ?_
 rintro ⟨i, k, at_, oA, oc, xl⟩ hinv
 replace hinv : i ≤ q ∧ k ≤ i ∧ (0 ≤ at_ ∧ at_ ≤ 500 * ((i : Nat) : Int)) ∧ xl.length = k ∧ (∀ x ∈ xl, EvOk x) := hinv
 dsimp only
 refine sr_ ?_
 obtain ⟨hi0, hki, ⟨ha0, ha1⟩, hxl, hxok⟩ := hinv
 refine wl_ov (ov_lss rfl rfl) rfl (nn_ (gw_seq ?_))
 refine gw_cond rfl (fun hh => ?_) (fun hh => ?_)
 ·have hi : ((i : Nat) : Int) < ((q : Nat) : Int) := by simpa using hh
  clear hh
  refine gw_skip (nx_then (gw_seq (gw_block (sr_ (mv_ rfl (mv_ rfl ?_))))))
  refine wl_buildSlice (e := 3) (cs := [.int .i64 0, .int .i64 1, .int .i64 10, .int .i64 50, .int .i64 100, .int .i64 500]) rfl (by kernel_rfl) rfl fun g2 => ?_
  refine wl_got (γ := Int) (val := fun v => .int .i64 v) (φ := fun v => v ∈ ([0, 1, 10, 50, 100, 500] : List Int)) rfl cb63 rfl rfl rfl rfl (fun wx hm => (pick_any [0, 1, 10, 50, 100, 500] _ _ _ wx B sb _ hm.k (by omega) (by simp) (by simp) (hm.blkI 0 rfl) (hm.neRow 0 rfl rfl))) fun v3 hv3 => ?_
  have bv3 : 0 ≤ v3 ∧ v3 ≤ 500 := mem_rng hv3 (by decide)
  have bv30 := bv3.1
  have bv31 := bv3.2
  clear bv3
  refine ad_ rfl rfl (sg_ rfl (nn_ (gw_seq ?_)))
  refine gd (fun wz => Blk wz g2 3 [.int .i64 0, .int .i64 1, .int .i64 10, .int .i64 50, .int .i64 100, .int .i64 500] ∧ Blk wz g1 31 [.slice (some ⟨bs, os, none⟩) sn sc, .slice cA cn cc, .slice (some ⟨bv, ov, none⟩) vn vc, .slice pA pn pc] ∧ (SlOld stEnc 15 156 w.heap.size (some sb) (some ⟨bs, os, none⟩) sn sl) wz ∧ (SlOld vhEnc 2 69 w.heap.size (some sb) (some ⟨bv, ov, none⟩) vn vl) wz ∧ True) mixed (fun _ hm => ⟨hm.bl 0, hm.bl 1, hm.fa 0, hm.fa 1, trivial⟩) fun z => ?_
  refine wt 0 11 1 rfl z (ov_field fo31_2 rfl rfl) ?_
  refine wt 1 11 3 rfl z (ov_load sc28 rfl (fun _ hm => hm.2.1) rfl) ?_
  refine wt 2 11 7 rfl z (ov_move rfl) ?_
  refine wt 3 11 15 rfl z (ov_field fo31_2 rfl rfl) ?_
  refine wt 4 11 31 rfl z (ov_load sc28 rfl (fun _ hm => hm.2.1) rfl) ?_
  refine wt 5 11 63 rfl z (ov_len es28 rfl) ?_
  refine wa1 6 rfl ?_
  refine wl_got (γ := Int) (val := fun v => .int .i64 v) (φ := fun v => IsBelow ((vn : Nat) : Int) v) rfl cb29 rfl rfl rfl rfl (fun wx hm => (next_any _ wx B sb _ hm.k (by omega) (by omega) (by omega))) fun vj hvj => ?_
  have hj := isBelow_lt hvj (by omega)
  obtain ⟨j, rfl⟩ := Int.eq_ofNat_of_zero_le hj.1
  have hji : j < vn := by omega
  obtain ⟨y, hy⟩ : ∃ y, vl[j]? = some y := ⟨_, List.getElem?_eq_getElem (by omega)⟩
  obtain ⟨y0, y1⟩ := y
  have hyB := hvok _ (List.mem_of_getElem? hy)
  have hy0 : y0.size ≤ 1000000 := hyB.1
  refine wl_nil ?_
  refine nw 11 127 (fun _ hm => ⟨hm.bl 0, hm.bl 1, hm.fa 0, hm.fa 1, trivial⟩) fun z => ?_
  refine wt 7 11 255 rfl z (ov_index (j := j) es28 rfl rfl (by omega)) ?_
  refine wt 8 11 511 rfl z (ov_field fo69_0 rfl rfl) ?_
  refine wt 9 11 1023 rfl z (ov_elem1 (k := 0) (v := .string y0) sc9 rfl (fun _ hm => (hm.2.2.2.1).1) hy rfl rfl) ?_
  refine wt 10 11 2047 rfl z (ov_assign rfl) ?_
  refine wa_done (by kernel_rfl) ?_
  refine nx_then ?_
  obtain ⟨t8, ht8⟩ : ∃ z, z = at_ + v3 := ⟨_, rfl⟩
  rw [← ht8]
  have ht0 : 0 ≤ t8 := by omega
  have ht1 : t8 ≤ 500 * ((i : Nat) : Int) + 500 := by omega
  refine gw_cut (γ := Nat × ByteArray × Int) (I := (fun g => g.2.1.size ≤ 1000000 ∧ (-4000000000000000000 ≤ g.2.2 ∧ g.2.2 ≤ 4000000000000000000))) (S' := (fun g => [(0, .pointer (some ⟨sb, 0, none⟩)), (4, .pointer (some ⟨g1, 0, none⟩)), (6, .slice none 0 0), (7, .slice oA k oc), (8, .int .i64 t8), (9, .string y0), (10, .pointer (some ⟨g.1, 0, none⟩)), (23, .int .i64 ((q : Nat) : Int)), (24, .int .i64 ((i : Nat) : Int))])) (K' := (fun g => fun w => Strm 25 w B sb (m + 20 * i + 4))) (L' := (fun g => [(g.1, 105, [.int .i64 t8, .string y0, .string g.2.1, .int .i64 g.2.2, .string ⟨#[]⟩]), (g2, 3, [.int .i64 0, .int .i64 1, .int .i64 10, .int .i64 50, .int .i64 100, .int .i64 500]), (g1, 31, [.slice (some ⟨bs, os, none⟩) sn sc, .slice cA cn cc, .slice (some ⟨bv, ov, none⟩) vn vc, .slice pA pn pc])])) (O' := (fun g => [⟨.slice oA k oc, 105, 5, k, xl.flatMap evEnc⟩])) (X' := (fun g => [SlOld stEnc 15 156 w.heap.size (some sb) (some ⟨bs, os, none⟩) sn sl, SlOld vhEnc 2 69 w.heap.size (some sb) (some ⟨bv, ov, none⟩) vn vl])) ?_ ?_
  ·refine gd (fun wz => Blk wz g2 3 [.int .i64 0, .int .i64 1, .int .i64 10, .int .i64 50, .int .i64 100, .int .i64 500] ∧ Blk wz g1 31 [.slice (some ⟨bs, os, none⟩) sn sc, .slice cA cn cc, .slice (some ⟨bv, ov, none⟩) vn vc, .slice pA pn pc] ∧ (SlOld stEnc 15 156 w.heap.size (some sb) (some ⟨bs, os, none⟩) sn sl) wz ∧ (SlOld vhEnc 2 69 w.heap.size (some sb) (some ⟨bv, ov, none⟩) vn vl) wz ∧ True) mixed (fun _ hm => ⟨hm.bl 0, hm.bl 1, hm.fa 0, hm.fa 1, trivial⟩) fun z => ?_
   refine wt 0 17 1 rfl z (ov_move rfl) ?_
   refine wt 1 17 3 rfl z (ov_move rfl) ?_
   refine wt 2 17 7 rfl z (ov_field fo31_0 rfl rfl) ?_
   refine wt 3 17 15 rfl z (ov_load sc26 rfl (fun _ hm => hm.2.1) rfl) ?_
   refine wt 4 17 31 rfl z (ov_move rfl) ?_
   refine wt 5 17 63 rfl z (ov_field fo31_0 rfl rfl) ?_
   refine wt 6 17 127 rfl z (ov_load sc26 rfl (fun _ hm => hm.2.1) rfl) ?_
   refine wt 7 17 255 rfl z (ov_len es26 rfl) ?_
   refine wt 12 17 4351 rfl z (ov_move rfl) ?_
   refine wa_all [8, 15] (by kernel_rfl) rfl ⟨⟨_, rfl, ?_⟩, ⟨_, rfl, ?_⟩, trivial⟩
   ·refine wl_got (γ := Int) (val := fun v => .int .i64 v) (φ := fun v => IsBelow ((sn : Nat) : Int) v) rfl cb29 rfl rfl rfl rfl (fun wx hm => (next_any _ wx B sb _ hm.k (by omega) (by omega) (by omega))) fun vu4 hvu4 => ?_
    have hju4 := isBelow_lt hvu4 (by omega)
    obtain ⟨ju4, rfl⟩ := Int.eq_ofNat_of_zero_le hju4.1
    have hjiu4 : ju4 < sn := by omega
    obtain ⟨zu4, hzu4⟩ : ∃ y, sl[ju4]? = some y := ⟨_, List.getElem?_eq_getElem (by omega)⟩
    obtain ⟨ku4, ru4⟩ := zu4
    have hku4 : ku4.size ≤ 1000000 := (hsok _ (List.mem_of_getElem? hzu4)).2.1
    refine wl_nil ?_
    refine nw 17 4607 (fun _ hm => ⟨hm.bl 0, hm.bl 1, hm.fa 0, hm.fa 1, trivial⟩) fun z => ?_
    refine wt 9 17 5119 rfl z (ov_index (j := ju4) es26 rfl rfl (by omega)) ?_
    refine wt 10 17 6143 rfl z (ov_field fo156_0 rfl rfl) ?_
    refine wt 11 17 8191 rfl z (ov_elem1 (k := 0) (v := .string ku4) sc9 rfl (fun _ hm => (hm.2.2.1).1) hzu4 rfl rfl) ?_
    refine wa_all [13, 15] (by kernel_rfl) rfl ⟨⟨_, rfl, ?_⟩, ⟨_, rfl, ?_⟩, trivial⟩
    ·refine wl_got (γ := Int) (val := fun v => .int .i64 v) (φ := fun v => 1 ≤ v ∧ (v ≤ 8 ∨ v = 1)) rfl cb10 rfl rfl rfl rfl (fun wx hm => (range_any _ _ wx B sb _ hm.k (by omega) (by omega) (by omega) (by omega) (by omega))) fun v5 hv5 => ?_
     refine wl_nil ?_
     refine nw 17 16383 (fun _ hm => ⟨hm.bl 0, hm.bl 1, hm.fa 0, hm.fa 1, trivial⟩) fun z => ?_
     refine wt 14 17 32767 rfl z (ov_build (cs := [.int .i64 t8, .string y0, .string ku4, .int .i64 v5, .string ⟨#[]⟩]) rfl (by kernel_rfl)) ?_
     refine wa1 15 rfl ?_
     refine wl_alloc zc105 rfl fun g6 => ?_
     refine wl_nil ?_
     refine nw 17 65535 (fun _ hm => ⟨hm.bl 1, hm.bl 2, hm.fa 0, hm.fa 1, trivial⟩) fun z => ?_
     refine wa1 16 rfl ?_
     refine wl_stores (cs' := [.int .i64 t8, .string y0, .string ku4, .int .i64 v5, .string ⟨#[]⟩]) 0 rz105 rfl rfl rfl rfl rfl rfl rfl rfl ?_
     refine wl_nil ?_
     refine nw 17 131071 (fun _ hm => ⟨hm.bl 1, hm.bl 2, hm.fa 0, hm.fa 1, trivial⟩) fun z => ?_
     refine wa_done (by kernel_rfl) ?_
     exact nx_meet (g6, ku4, v5) ⟨by dsimp only; omega, by dsimp only; omega, by dsimp only; omega⟩ ⟨rfl, rfl, rfl, rfl, rfl, rfl, rfl, rfl, rfl, trivial⟩ (fun _ hm => (hm.more rfl (by first | omega | (dsimp only; omega))).pick [0, 1, 2] [0] [0, 1] rfl rfl)
    refine wl_alloc zc105 rfl fun g7 => ?_
    refine wl_nil ?_
    refine nw 17 40959 (fun _ hm => ⟨hm.bl 1, hm.bl 2, hm.fa 0, hm.fa 1, trivial⟩) fun z => ?_
    refine wa1 13 rfl ?_
    refine wl_got (γ := Int) (val := fun v => .int .i64 v) (φ := fun v => 1 ≤ v ∧ (v ≤ 8 ∨ v = 1)) rfl cb10 rfl rfl rfl rfl (fun wx hm => (range_any _ _ wx B sb _ hm.k (by omega) (by omega) (by omega) (by omega) (by omega))) fun v8 hv8 => ?_
    refine wl_nil ?_
    refine nw 17 49151 (fun _ hm => ⟨hm.bl 1, hm.bl 2, hm.fa 0, hm.fa 1, trivial⟩) fun z => ?_
    refine wt 14 17 65535 rfl z (ov_build (cs := [.int .i64 t8, .string y0, .string ku4, .int .i64 v8, .string ⟨#[]⟩]) rfl (by kernel_rfl)) ?_
    refine wa1 16 rfl ?_
    refine wl_stores (cs' := [.int .i64 t8, .string y0, .string ku4, .int .i64 v8, .string ⟨#[]⟩]) 0 rz105 rfl rfl rfl rfl rfl rfl rfl rfl ?_
    refine wl_nil ?_
    refine nw 17 131071 (fun _ hm => ⟨hm.bl 1, hm.bl 2, hm.fa 0, hm.fa 1, trivial⟩) fun z => ?_
    refine wa_done (by kernel_rfl) ?_
    exact nx_meet (g7, ku4, v8) ⟨by dsimp only; omega, by dsimp only; omega, by dsimp only; omega⟩ ⟨rfl, rfl, rfl, rfl, rfl, rfl, rfl, rfl, rfl, trivial⟩ (fun _ hm => (hm.more rfl (by first | omega | (dsimp only; omega))).pick [0, 1, 2] [0] [0, 1] rfl rfl)
   refine wl_alloc zc105 rfl fun g9 => ?_
   refine wl_nil ?_
   refine nw 17 37119 (fun _ hm => ⟨hm.bl 1, hm.bl 2, hm.fa 0, hm.fa 1, trivial⟩) fun z => ?_
   refine wa1 8 rfl ?_
   refine wl_got (γ := Int) (val := fun v => .int .i64 v) (φ := fun v => IsBelow ((sn : Nat) : Int) v) rfl cb29 rfl rfl rfl rfl (fun wx hm => (next_any _ wx B sb _ hm.k (by omega) (by omega) (by omega))) fun vu10 hvu10 => ?_
   have hju10 := isBelow_lt hvu10 (by omega)
   obtain ⟨ju10, rfl⟩ := Int.eq_ofNat_of_zero_le hju10.1
   have hjiu10 : ju10 < sn := by omega
   obtain ⟨zu10, hzu10⟩ : ∃ y, sl[ju10]? = some y := ⟨_, List.getElem?_eq_getElem (by omega)⟩
   obtain ⟨ku10, ru10⟩ := zu10
   have hku10 : ku10.size ≤ 1000000 := (hsok _ (List.mem_of_getElem? hzu10)).2.1
   refine wl_nil ?_
   refine nw 17 37375 (fun _ hm => ⟨hm.bl 1, hm.bl 2, hm.fa 0, hm.fa 1, trivial⟩) fun z => ?_
   refine wt 9 17 37887 rfl z (ov_index (j := ju10) es26 rfl rfl (by omega)) ?_
   refine wt 10 17 38911 rfl z (ov_field fo156_0 rfl rfl) ?_
   refine wt 11 17 40959 rfl z (ov_elem1 (k := 0) (v := .string ku10) sc9 rfl (fun _ hm => (hm.2.2.1).1) hzu10 rfl rfl) ?_
   refine wa1 13 rfl ?_
   refine wl_got (γ := Int) (val := fun v => .int .i64 v) (φ := fun v => 1 ≤ v ∧ (v ≤ 8 ∨ v = 1)) rfl cb10 rfl rfl rfl rfl (fun wx hm => (range_any _ _ wx B sb _ hm.k (by omega) (by omega) (by omega) (by omega) (by omega))) fun v11 hv11 => ?_
   refine wl_nil ?_
   refine nw 17 49151 (fun _ hm => ⟨hm.bl 1, hm.bl 2, hm.fa 0, hm.fa 1, trivial⟩) fun z => ?_
   refine wt 14 17 65535 rfl z (ov_build (cs := [.int .i64 t8, .string y0, .string ku10, .int .i64 v11, .string ⟨#[]⟩]) rfl (by kernel_rfl)) ?_
   refine wa1 16 rfl ?_
   refine wl_stores (cs' := [.int .i64 t8, .string y0, .string ku10, .int .i64 v11, .string ⟨#[]⟩]) 0 rz105 rfl rfl rfl rfl rfl rfl rfl rfl ?_
   refine wl_nil ?_
   refine nw 17 131071 (fun _ hm => ⟨hm.bl 1, hm.bl 2, hm.fa 0, hm.fa 1, trivial⟩) fun z => ?_
   refine wa_done (by kernel_rfl) ?_
   exact nx_meet (g9, ku10, v11) ⟨by dsimp only; omega, by dsimp only; omega, by dsimp only; omega⟩ ⟨rfl, rfl, rfl, rfl, rfl, rfl, rfl, rfl, rfl, trivial⟩ (fun _ hm => (hm.more rfl (by first | omega | (dsimp only; omega))).pick [0, 1, 2] [0] [0, 1] rfl rfl)
  rintro ⟨g10, st1, kd1⟩ hinv
  replace hinv : st1.size ≤ 1000000 ∧ (-4000000000000000000 ≤ kd1 ∧ kd1 ≤ 4000000000000000000) := hinv
  dsimp only
  obtain ⟨hst1, hkd1a, hkd1b⟩ := hinv
  refine gw_cut (γ := ByteArray × Int) (I := (fun g => g.1.size ≤ 1000000 ∧ (-4000000000000000000 ≤ g.2 ∧ g.2 ≤ 4000000000000000000))) (S' := (fun g => [(0, .pointer (some ⟨sb, 0, none⟩)), (4, .pointer (some ⟨g1, 0, none⟩)), (6, .slice none 0 0), (7, .slice oA k oc), (8, .int .i64 t8), (10, .pointer (some ⟨g10, 0, none⟩)), (23, .int .i64 ((q : Nat) : Int)), (24, .int .i64 ((i : Nat) : Int))])) (K' := (fun g => fun w => Strm 25 w B sb (m + 20 * i + 6))) (L' := (fun g => [(g10, 105, [.int .i64 t8, .string y0, .string g.1, .int .i64 g.2, .string ⟨#[]⟩]), (g2, 3, [.int .i64 0, .int .i64 1, .int .i64 10, .int .i64 50, .int .i64 100, .int .i64 500]), (g1, 31, [.slice (some ⟨bs, os, none⟩) sn sc, .slice cA cn cc, .slice (some ⟨bv, ov, none⟩) vn vc, .slice pA pn pc])])) (O' := (fun g => [⟨.slice oA k oc, 105, 5, k, xl.flatMap evEnc⟩])) (X' := (fun g => [SlOld stEnc 15 156 w.heap.size (some sb) (some ⟨bs, os, none⟩) sn sl, SlOld vhEnc 2 69 w.heap.size (some sb) (some ⟨bv, ov, none⟩) vn vl])) ?_ ?_
  ·refine sr_ (mv_ rfl ?_)
   refine wl_got (γ := Bool) (val := fun v => .bool v) (φ := fun v => True) rfl cb64 rfl rfl rfl rfl (fun wx hm => ((flip_any _ wx B sb _ hm.k (by omega) (by omega) (by omega)).mono fun _ _ ⟨v, he, hS, hg⟩ => ⟨v, trivial, he, hS, hg⟩)) fun f12 _ => ?_
   refine wl_ov (ov_un_not rfl) rfl (nn_ ?_)
   refine gw_cond rfl (fun hh => ?_) (fun hh => ?_)
   ·have hc13 : f12 = false := by simpa using hh
    clear hh
    refine sr_ (mv_ rfl (mv_ rfl (mv_ rfl ?_)))
    obtain ⟨SS, hSS⟩ : ∃ z, z = stateR xl y0 t8 := ⟨_, rfl⟩
    have hfine : SaFine SS := by rw [hSS]; exact stateR_fine hxok
    obtain ⟨s0, s1, s2⟩ := SS
    obtain ⟨hs00, hs05, hs1z⟩ := hfine
    have hs00 : 0 ≤ s0 := hs00
    have hs05 : s0 ≤ 5 := hs05
    have hs1z : s1.size ≤ 1000000 := hs1z
    obtain ⟨sj, rfl⟩ := Int.eq_ofNat_of_zero_le hs00
    obtain ⟨kv, hkv⟩ : ∃ x, ([1, 2, 3, 5, 7, 1] : List Int)[sj]? = some x := ⟨_, List.getElem?_eq_getElem (by simp; omega)⟩
    have hkvb : 1 ≤ kv ∧ kv ≤ 7 := mem_rng (List.mem_of_getElem? hkv) (by decide)
    refine wl_callv (v := .agg #[.int .i64 ((sj : Nat) : Int), .string s1, .int .i64 s2]) rfl cb86 rfl rfl (fun wx hm => (by have h := rStateAt_any xl oA k oc y0 t8 wx (SlT.ofOwn ev_len (hm.ownI 0 rfl) hxl) (by omega); rw [← hSS] at h; exact h)) ?_
    refine wl_alloc zc142 rfl fun g14 => ?_
    refine wl_stores (cs' := [.int .i64 ((sj : Nat) : Int), .string s1, .int .i64 s2]) 0 rz142 rfl rfl rfl rfl rfl rfl rfl rfl ?_
    refine nn_ (gw_seq (sr_ (fd_ fo142_1 rfl rfl (lk_ sc9 0 rfl rfl rfl (wl_ov (ov_sneq rfl rfl) rfl (nn_ ?_))))))
    refine gw_cond rfl (fun hh => ?_) (fun hh => ?_)
    ·have hc15 : (s1.toList == (⟨#[]⟩ : ByteArray).toList) = false := by simpa using hh
     clear hh
     refine gw_region (fd_ fo142_1 rfl rfl (lk_ sc9 0 rfl rfl rfl (fd_ fo105_2 rfl rfl ?_)))
     refine wl_store 1 sc9 rfl rfl rfl rfl rfl rfl ?_
     refine nn_ (sr_ ?_)
     refine wl_buildSlice (e := 3) (cs := [.int .i64 1, .int .i64 2, .int .i64 3, .int .i64 5, .int .i64 7, .int .i64 1]) rfl (by kernel_rfl) rfl fun g16 => ?_
     refine fd_ fo142_0 rfl rfl (lk_ sc3 1 rfl rfl rfl ?_)
     refine wl_ov (ov_index (j := sj) es22 rfl rfl (by omega)) rfl ?_
     refine wl_ov (ov_elem1 (k := 0) (v := .int .i64 kv) sc3 rfl (fun _ hm => (SlT.ofBlk (l := [1, 2, 3, 5, 7, 1]) it_len1 (hm.blkI 0 rfl))) hkv rfl rfl) rfl ?_
     refine fd_ fo105_3 rfl rfl ?_
     refine wl_store 2 sc3 rfl rfl rfl rfl rfl rfl ?_
     refine nn_ (sr_ (fd_ fo142_0 rfl rfl (lk_ sc3 1 rfl rfl rfl (wl_ov (ov_eql rfl rfl) rfl (nn_ ?_)))))
     refine gw_cond rfl (fun hh => ?_) (fun hh => ?_)
     ·have hc17 : ((sj : Nat) : Int) = 1 := by simpa using hh
      clear hh
      refine gw_region (mv_ rfl ?_)
      refine wl_buildSlice (e := 3) (cs := [.int .i64 2, .int .i64 2, .int .i64 2, .int .i64 4, .int .i64 6, .int .i64 8]) rfl (by kernel_rfl) rfl fun g18 => ?_
      refine wl_got (γ := Int) (val := fun v => .int .i64 v) (φ := fun v => v ∈ ([2, 2, 2, 4, 6, 8] : List Int)) rfl cb63 rfl rfl rfl rfl (fun wx hm => (pick_any [2, 2, 2, 4, 6, 8] _ _ _ wx B sb _ hm.k (by omega) (by simp) (by simp) (hm.blkI 0 rfl) (hm.neRow 0 rfl rfl))) fun v19 hv19 => ?_
      have bv19 : 2 ≤ v19 ∧ v19 ≤ 8 := mem_rng hv19 (by decide)
      have bv190 := bv19.1
      have bv191 := bv19.2
      clear bv19
      refine fd_ fo105_3 rfl rfl ?_
      refine wl_store 3 sc3 rfl rfl rfl rfl rfl rfl ?_
      refine wl_nil ?_
      exact nx_meet (s1, v19) ⟨by dsimp only; omega, by dsimp only; omega, by dsimp only; omega⟩ ⟨rfl, rfl, rfl, rfl, rfl, rfl, rfl, rfl, trivial⟩ (fun _ hm => (hm.more rfl (by first | omega | (dsimp only; omega))).pick [3, 4, 5] [0] [0, 1] rfl rfl)
     have hc17 : ¬ (((sj : Nat) : Int) = 1) := by simpa using hh
     clear hh
     refine gw_skip ?_
     exact nx_meet (s1, kv) ⟨by dsimp only; omega, by dsimp only; omega, by dsimp only; omega⟩ ⟨rfl, rfl, rfl, rfl, rfl, rfl, rfl, rfl, trivial⟩ (fun _ hm => (hm.more rfl (by first | omega | (dsimp only; omega))).pick [2, 3, 4] [0] [0, 1] rfl rfl)
    have hc15 : (s1.toList == (⟨#[]⟩ : ByteArray).toList) = true := by simpa using hh
    clear hh
    refine gw_skip (nx_then (sr_ ?_))
    refine wl_buildSlice (e := 3) (cs := [.int .i64 1, .int .i64 2, .int .i64 3, .int .i64 5, .int .i64 7, .int .i64 1]) rfl (by kernel_rfl) rfl fun g20 => ?_
    refine fd_ fo142_0 rfl rfl (lk_ sc3 1 rfl rfl rfl ?_)
    refine wl_ov (ov_index (j := sj) es22 rfl rfl (by omega)) rfl ?_
    refine wl_ov (ov_elem1 (k := 0) (v := .int .i64 kv) sc3 rfl (fun _ hm => (SlT.ofBlk (l := [1, 2, 3, 5, 7, 1]) it_len1 (hm.blkI 0 rfl))) hkv rfl rfl) rfl ?_
    refine fd_ fo105_3 rfl rfl ?_
    refine wl_store 2 sc3 rfl rfl rfl rfl rfl rfl ?_
    refine nn_ (sr_ (fd_ fo142_0 rfl rfl (lk_ sc3 1 rfl rfl rfl (wl_ov (ov_eql rfl rfl) rfl (nn_ ?_)))))
    refine gw_cond rfl (fun hh => ?_) (fun hh => ?_)
    ·have hc21 : ((sj : Nat) : Int) = 1 := by simpa using hh
     clear hh
     refine gw_region (mv_ rfl ?_)
     refine wl_buildSlice (e := 3) (cs := [.int .i64 2, .int .i64 2, .int .i64 2, .int .i64 4, .int .i64 6, .int .i64 8]) rfl (by kernel_rfl) rfl fun g22 => ?_
     refine wl_got (γ := Int) (val := fun v => .int .i64 v) (φ := fun v => v ∈ ([2, 2, 2, 4, 6, 8] : List Int)) rfl cb63 rfl rfl rfl rfl (fun wx hm => (pick_any [2, 2, 2, 4, 6, 8] _ _ _ wx B sb _ hm.k (by omega) (by simp) (by simp) (hm.blkI 0 rfl) (hm.neRow 0 rfl rfl))) fun v23 hv23 => ?_
     have bv23 : 2 ≤ v23 ∧ v23 ≤ 8 := mem_rng hv23 (by decide)
     have bv230 := bv23.1
     have bv231 := bv23.2
     clear bv23
     refine fd_ fo105_3 rfl rfl ?_
     refine wl_store 3 sc3 rfl rfl rfl rfl rfl rfl ?_
     refine wl_nil ?_
     exact nx_meet (st1, v23) ⟨by dsimp only; omega, by dsimp only; omega, by dsimp only; omega⟩ ⟨rfl, rfl, rfl, rfl, rfl, rfl, rfl, rfl, trivial⟩ (fun _ hm => (hm.more rfl (by first | omega | (dsimp only; omega))).pick [3, 4, 5] [0] [0, 1] rfl rfl)
    have hc21 : ¬ (((sj : Nat) : Int) = 1) := by simpa using hh
    clear hh
    refine gw_skip ?_
    exact nx_meet (st1, kv) ⟨by dsimp only; omega, by dsimp only; omega, by dsimp only; omega⟩ ⟨rfl, rfl, rfl, rfl, rfl, rfl, rfl, rfl, trivial⟩ (fun _ hm => (hm.more rfl (by first | omega | (dsimp only; omega))).pick [2, 3, 4] [0] [0, 1] rfl rfl)
   have hc13 : f12 = true := by simpa using hh
   clear hh
   refine gw_skip ?_
   exact nx_meet (st1, kd1) ⟨by dsimp only; omega, by dsimp only; omega, by dsimp only; omega⟩ ⟨rfl, rfl, rfl, rfl, rfl, rfl, rfl, rfl, trivial⟩ (fun _ hm => (hm.more rfl (by first | omega | (dsimp only; omega))).pick [0, 1, 2] [0] [0, 1] rfl rfl)
  rintro ⟨st2, kd2⟩ hinv
  replace hinv : st2.size ≤ 1000000 ∧ (-4000000000000000000 ≤ kd2 ∧ kd2 ≤ 4000000000000000000) := hinv
  dsimp only
  obtain ⟨hst2, hkd2a, hkd2b⟩ := hinv
  refine gw_cut (γ := ByteArray) (I := (fun (to3 : ByteArray) => to3.size ≤ 1000000)) (S' := (fun (to3 : ByteArray) => [(0, .pointer (some ⟨sb, 0, none⟩)), (4, .pointer (some ⟨g1, 0, none⟩)), (6, .slice none 0 0), (7, .slice oA k oc), (8, .int .i64 t8), (10, .pointer (some ⟨g10, 0, none⟩)), (23, .int .i64 ((q : Nat) : Int)), (24, .int .i64 ((i : Nat) : Int))])) (K' := (fun (to3 : ByteArray) => fun w => Strm 25 w B sb (m + 20 * i + 7))) (L' := (fun (to3 : ByteArray) => [(g10, 105, [.int .i64 t8, .string y0, .string st2, .int .i64 kd2, .string to3]), (g2, 3, [.int .i64 0, .int .i64 1, .int .i64 10, .int .i64 50, .int .i64 100, .int .i64 500]), (g1, 31, [.slice (some ⟨bs, os, none⟩) sn sc, .slice cA cn cc, .slice (some ⟨bv, ov, none⟩) vn vc, .slice pA pn pc])])) (O' := (fun (to3 : ByteArray) => [⟨.slice oA k oc, 105, 5, k, xl.flatMap evEnc⟩])) (X' := (fun (to3 : ByteArray) => [SlOld stEnc 15 156 w.heap.size (some sb) (some ⟨bs, os, none⟩) sn sl, SlOld vhEnc 2 69 w.heap.size (some sb) (some ⟨bv, ov, none⟩) vn vl])) ?_ ?_
  ·refine sr_ (fd_ fo105_3 rfl rfl (lk_ sc3 0 rfl rfl rfl (wl_ov (ov_eql rfl rfl) rfl (nn_ ?_))))
   refine gw_cond rfl (fun hh => ?_) (fun hh => ?_)
   ·have hc6 : kd2 = 6 := by simpa using hh
    clear hh
    refine gd (fun wz => Blk wz g2 3 [.int .i64 0, .int .i64 1, .int .i64 10, .int .i64 50, .int .i64 100, .int .i64 500] ∧ Blk wz g1 31 [.slice (some ⟨bs, os, none⟩) sn sc, .slice cA cn cc, .slice (some ⟨bv, ov, none⟩) vn vc, .slice pA pn pc] ∧ (SlOld stEnc 15 156 w.heap.size (some sb) (some ⟨bs, os, none⟩) sn sl) wz ∧ (SlOld vhEnc 2 69 w.heap.size (some sb) (some ⟨bv, ov, none⟩) vn vl) wz ∧ True) mixed (fun _ hm => ⟨hm.bl 1, hm.bl 2, hm.fa 0, hm.fa 1, trivial⟩) fun z => ?_
    refine wt 0 12 1 rfl z (ov_field fo31_0 rfl rfl) ?_
    refine wt 1 12 3 rfl z (ov_load sc26 rfl (fun _ hm => hm.2.1) rfl) ?_
    refine wt 2 12 7 rfl z (ov_move rfl) ?_
    refine wt 3 12 15 rfl z (ov_field fo31_0 rfl rfl) ?_
    refine wt 4 12 31 rfl z (ov_load sc26 rfl (fun _ hm => hm.2.1) rfl) ?_
    refine wt 5 12 63 rfl z (ov_len es26 rfl) ?_
    refine wa1 6 rfl ?_
    refine wl_got (γ := Int) (val := fun v => .int .i64 v) (φ := fun v => IsBelow ((sn : Nat) : Int) v) rfl cb29 rfl rfl rfl rfl (fun wx hm => (next_any _ wx B sb _ hm.k (by omega) (by omega) (by omega))) fun vu24 hvu24 => ?_
    have hju24 := isBelow_lt hvu24 (by omega)
    obtain ⟨ju24, rfl⟩ := Int.eq_ofNat_of_zero_le hju24.1
    have hjiu24 : ju24 < sn := by omega
    obtain ⟨zu24, hzu24⟩ : ∃ y, sl[ju24]? = some y := ⟨_, List.getElem?_eq_getElem (by omega)⟩
    obtain ⟨ku24, ru24⟩ := zu24
    have hku24 : ku24.size ≤ 1000000 := (hsok _ (List.mem_of_getElem? hzu24)).2.1
    refine wl_nil ?_
    refine nw 12 127 (fun _ hm => ⟨hm.bl 1, hm.bl 2, hm.fa 0, hm.fa 1, trivial⟩) fun z => ?_
    refine wt 7 12 255 rfl z (ov_index (j := ju24) es26 rfl rfl (by omega)) ?_
    refine wt 8 12 511 rfl z (ov_field fo156_0 rfl rfl) ?_
    refine wt 9 12 1023 rfl z (ov_elem1 (k := 0) (v := .string ku24) sc9 rfl (fun _ hm => (hm.2.2.1).1) hzu24 rfl rfl) ?_
    refine wt 10 12 2047 rfl z (ov_field fo105_4 rfl rfl) ?_
    refine wa1 11 rfl ?_
    refine wl_store 0 sc9 rfl rfl rfl rfl rfl rfl ?_
    refine wl_nil ?_
    refine nw 12 4095 (fun _ hm => ⟨hm.bl 1, hm.bl 2, hm.fa 0, hm.fa 1, trivial⟩) fun z => ?_
    refine wa_done (by kernel_rfl) ?_
    exact nx_meet ku24 (by (try dsimp only); omega) ⟨rfl, rfl, rfl, rfl, rfl, rfl, rfl, rfl, trivial⟩ (fun _ hm => (hm.more rfl (by first | omega | (dsimp only; omega))).pick [0, 1, 2] [0] [0, 1] rfl rfl)
   have hc6 : ¬ (kd2 = 6) := by simpa using hh
   clear hh
   refine gw_skip ?_
   exact nx_meet ⟨#[]⟩ (show (⟨#[]⟩ : ByteArray).size ≤ 1000000 by decide) ⟨rfl, rfl, rfl, rfl, rfl, rfl, rfl, rfl, trivial⟩ (fun _ hm => (hm.more rfl (by first | omega | (dsimp only; omega))).pick [0, 1, 2] [0] [0, 1] rfl rfl)
  intro to3 hinv
  replace hinv : to3.size ≤ 1000000 := hinv
  have hto3 : to3.size ≤ 1000000 := hinv
  refine gw_cut (γ := Int × ByteArray × ByteArray × Int × ByteArray) (I := (fun g => EvOk (⟨g.1, g.2.1, g.2.2.1, g.2.2.2.1, g.2.2.2.2⟩ : Ev))) (S' := (fun g => [(0, .pointer (some ⟨sb, 0, none⟩)), (4, .pointer (some ⟨g1, 0, none⟩)), (6, .slice none 0 0), (7, .slice oA k oc), (8, .int .i64 t8), (10, .pointer (some ⟨g10, 0, none⟩)), (23, .int .i64 ((q : Nat) : Int)), (24, .int .i64 ((i : Nat) : Int))])) (K' := (fun g => fun w => Strm 25 w B sb (m + 20 * i + 12))) (L' := (fun g => [(g10, 105, [.int .i64 g.1, .string g.2.1, .string g.2.2.1, .int .i64 g.2.2.2.1, .string g.2.2.2.2]), (g2, 3, [.int .i64 0, .int .i64 1, .int .i64 10, .int .i64 50, .int .i64 100, .int .i64 500]), (g1, 31, [.slice (some ⟨bs, os, none⟩) sn sc, .slice cA cn cc, .slice (some ⟨bv, ov, none⟩) vn vc, .slice pA pn pc])])) (O' := (fun g => [⟨.slice oA k oc, 105, 5, k, xl.flatMap evEnc⟩])) (X' := (fun g => [SlOld stEnc 15 156 w.heap.size (some sb) (some ⟨bs, os, none⟩) sn sl, SlOld vhEnc 2 69 w.heap.size (some sb) (some ⟨bv, ov, none⟩) vn vl])) ?_ ?_
  ·refine sr_ (mv_ rfl ?_)
   refine wl_got (γ := Bool) (val := fun v => .bool v) (φ := fun v => True) rfl cb64 rfl rfl rfl rfl (fun wx hm => ((flip_any _ wx B sb _ hm.k (by omega) (by omega) (by omega)).mono fun _ _ ⟨v, he, hS, hg⟩ => ⟨v, trivial, he, hS, hg⟩)) fun f25 _ => ?_
   refine nn_ ?_
   refine gw_cond rfl (fun hh => ?_) (fun hh => ?_)
   ·have hd26 : f25 = true := by simpa using hh
    clear hh
    refine sr_ (mv_ rfl ?_)
    refine wl_got (γ := Int) (val := fun v => .int .i64 v) (φ := fun v => IsBelow 4 v) rfl cb29 rfl rfl rfl rfl (fun wx hm => (next_any _ wx B sb _ hm.k (by omega) (by omega) (by omega))) fun v4 hv4 => ?_
    refine nn_ (gw_block (sr_ (wl_ov (ov_eql rfl rfl) rfl (sg_ rfl (nn_ ?_)))))
    refine gw_cond rfl (fun hh => ?_) (fun hh => ?_)
    ·have hd27 : v4 = 0 := by simpa using hh
     clear hh
     refine gw_region (mv_ rfl ?_)
     refine wl_got (γ := Int) (val := fun v => .int .i64 v) (φ := fun v => -2000000000000000 ≤ v ∧ v ≤ 2000000000000000) rfl cb65 rfl rfl rfl rfl (fun wx hm => (odd_any _ _ wx B sb _ hm.k (by omega) (by omega) (by omega) (by omega))) fun v28 hv28 => ?_
     refine fd_ fo105_3 rfl rfl ?_
     refine wl_store 0 sc3 rfl rfl rfl rfl rfl rfl ?_
     refine wl_nil (nx_blk_nrm ?_)
     exact nx_meet (t8, y0, st2, v28, to3) ⟨⟨by dsimp only; omega, by dsimp only; omega⟩, ⟨by dsimp only; omega, by dsimp only; omega⟩, by dsimp only; omega, by dsimp only; omega, by dsimp only; omega⟩ ⟨rfl, rfl, rfl, rfl, rfl, rfl, rfl, rfl, trivial⟩ (fun _ hm => (hm.more rfl (by first | omega | (dsimp only; omega))).pick [0, 1, 2] [0] [0, 1] rfl rfl)
    have hd27 : ¬ (v4 = 0) := by simpa using hh
    clear hh
    refine sr_ (wl_ov (ov_eql rfl rfl) rfl (sg_ rfl (nn_ ?_)))
    refine gw_cond rfl (fun hh => ?_) (fun hh => ?_)
    ·have hd29 : v4 = 1 := by simpa using hh
     clear hh
     refine gw_region (mv_ rfl ?_)
     refine wl_buildSlice (e := 9) (cs := [.string ⟨#[115, 49]⟩, .string ⟨#[110, 111, 110, 101]⟩, .string ⟨#[]⟩]) rfl (by kernel_rfl) rfl fun g30 => ?_
     refine wl_got (γ := ByteArray) (val := fun v => .string v) (φ := fun v => v ∈ ([⟨#[115, 49]⟩, ⟨#[110, 111, 110, 101]⟩, ⟨#[]⟩] : List ByteArray)) rfl cb62 rfl rfl rfl rfl (fun wx hm => (some_any [⟨#[115, 49]⟩, ⟨#[110, 111, 110, 101]⟩, ⟨#[]⟩] _ _ _ wx B sb _ hm.k (by omega) (by simp) (by simp) (hm.blkI 0 rfl) (hm.neRow 0 rfl rfl))) fun s31 hs31 => ?_
     have zs31 : s31.size ≤ 100 := mem_sz hs31 (by decide)
     refine fd_ fo105_4 rfl rfl ?_
     refine wl_store 1 sc9 rfl rfl rfl rfl rfl rfl ?_
     refine wl_nil (nx_blk_nrm ?_)
     exact nx_meet (t8, y0, st2, kd2, s31) ⟨⟨by dsimp only; omega, by dsimp only; omega⟩, ⟨by dsimp only; omega, by dsimp only; omega⟩, by dsimp only; omega, by dsimp only; omega, by dsimp only; omega⟩ ⟨rfl, rfl, rfl, rfl, rfl, rfl, rfl, rfl, trivial⟩ (fun _ hm => (hm.more rfl (by first | omega | (dsimp only; omega))).pick [1, 2, 3] [0] [0, 1] rfl rfl)
    have hd29 : ¬ (v4 = 1) := by simpa using hh
    clear hh
    refine sr_ (wl_ov (ov_eql rfl rfl) rfl (sg_ rfl (nn_ ?_)))
    refine gw_cond rfl (fun hh => ?_) (fun hh => ?_)
    ·have hd32 : v4 = 2 := by simpa using hh
     clear hh
     refine gw_region (mv_ rfl ?_)
     refine wl_calls (γ := ByteArray) (val := (fun g => .string g)) (φ := (fun g => g.size ≤ 100)) (Y := (fun g => fun _ => True)) (m' := m + 20 * i + 7 + 1 + 1 + 1) rfl cb11 rfl rfl rfl rfl (fun wx hm => (gvehicleKey_any wx B sb _ hm.k (by omega)).mono fun _ _ ⟨v, he, hv, hS, hg⟩ => ⟨v, he, hv, hS, hg, trivial⟩) (fun _ => Lasts2.true_) ?_
     rintro vk hvk
     refine fd_ fo105_1 rfl rfl ?_
     refine wl_store 0 sc9 rfl rfl rfl rfl rfl rfl ?_
     refine wl_nil (nx_blk_nrm ?_)
     exact nx_meet (t8, vk, st2, kd2, to3) ⟨⟨by dsimp only; omega, by dsimp only; omega⟩, ⟨by dsimp only; omega, by dsimp only; omega⟩, by dsimp only; omega, by dsimp only; omega, by dsimp only; omega⟩ ⟨rfl, rfl, rfl, rfl, rfl, rfl, rfl, rfl, trivial⟩ (fun _ hm => (hm.more rfl (by first | omega | (dsimp only; omega))).pick [0, 1, 2] [0] [1, 2] rfl rfl)
    have hd32 : ¬ (v4 = 2) := by simpa using hh
    clear hh
    refine gw_region (mv_ rfl ?_)
    refine wl_got (γ := Int) (val := fun v => .int .i64 v) (φ := fun v => -2000000000000000 ≤ v ∧ v ≤ 2000000000000000) rfl cb65 rfl rfl rfl rfl (fun wx hm => (odd_any _ _ wx B sb _ hm.k (by omega) (by omega) (by omega) (by omega))) fun v34 hv34 => ?_
    refine fd_ fo105_0 rfl rfl ?_
    refine wl_store 0 sc3 rfl rfl rfl rfl rfl rfl ?_
    refine wl_nil (nx_blk_nrm ?_)
    exact nx_meet (v34, y0, st2, kd2, to3) ⟨⟨by dsimp only; omega, by dsimp only; omega⟩, ⟨by dsimp only; omega, by dsimp only; omega⟩, by dsimp only; omega, by dsimp only; omega, by dsimp only; omega⟩ ⟨rfl, rfl, rfl, rfl, rfl, rfl, rfl, rfl, trivial⟩ (fun _ hm => (hm.more rfl (by first | omega | (dsimp only; omega))).pick [0, 1, 2] [0] [0, 1] rfl rfl)
   have hd26 : f25 = false := by simpa using hh
   clear hh
   refine gw_skip ?_
   exact nx_meet (t8, y0, st2, kd2, to3) ⟨⟨by dsimp only; omega, by dsimp only; omega⟩, ⟨by dsimp only; omega, by dsimp only; omega⟩, by dsimp only; omega, by dsimp only; omega, by dsimp only; omega⟩ ⟨rfl, rfl, rfl, rfl, rfl, rfl, rfl, rfl, trivial⟩ (fun _ hm => (hm.more rfl (by first | omega | (dsimp only; omega))).pick [0, 1, 2] [0] [0, 1] rfl rfl)
  rintro ⟨a4, ve4, st4, kd4, to4⟩ hinv
  replace hinv : EvOk (⟨a4, ve4, st4, kd4, to4⟩ : Ev) := hinv
  dsimp only
  have hx4 : EvOk (⟨a4, ve4, st4, kd4, to4⟩ : Ev) := hinv
  have huok : ∀ x ∈ xl ++ [(⟨a4, ve4, st4, kd4, to4⟩ : Ev)], EvOk x := all_snoc hxok hx4
  have hul : (xl ++ [(⟨a4, ve4, st4, kd4, to4⟩ : Ev)]).length = k + 1 := by simp [hxl]
  obtain ⟨us, hus⟩ : ∃ z, z = xl ++ [(⟨a4, ve4, st4, kd4, to4⟩ : Ev)] := ⟨_, rfl⟩
  rw [← hus] at huok hul
  obtain ⟨LE, hLE⟩ : ∃ z, z = logE sl vl us := ⟨_, rfl⟩
  refine gw_cut (γ := Bool) (I := (fun (bb : Bool) => True)) (S' := (fun (bb : Bool) => [(0, .pointer (some ⟨sb, 0, none⟩)), (4, .pointer (some ⟨g1, 0, none⟩)), (6, .slice none 0 0), (7, .slice oA k oc), (8, .int .i64 t8), (10, .pointer (some ⟨g10, 0, none⟩)), (23, .int .i64 ((q : Nat) : Int)), (24, .int .i64 ((i : Nat) : Int)), (130, .bool bb)])) (K' := (fun (bb : Bool) => fun w => Strm 25 w B sb (m + 20 * i + 13))) (L' := (fun (bb : Bool) => [(g10, 105, [.int .i64 a4, .string ve4, .string st4, .int .i64 kd4, .string to4]), (g2, 3, [.int .i64 0, .int .i64 1, .int .i64 10, .int .i64 50, .int .i64 100, .int .i64 500]), (g1, 31, [.slice (some ⟨bs, os, none⟩) sn sc, .slice cA cn cc, .slice (some ⟨bv, ov, none⟩) vn vc, .slice pA pn pc])])) (O' := (fun (bb : Bool) => [⟨.slice oA k oc, 105, 5, k, xl.flatMap evEnc⟩])) (X' := (fun (bb : Bool) => [SlOld stEnc 15 156 w.heap.size (some sb) (some ⟨bs, os, none⟩) sn sl, SlOld vhEnc 2 69 w.heap.size (some sb) (some ⟨bv, ov, none⟩) vn vl])) ?_ ?_
  ·refine gd (fun wz => Blk wz g10 105 [.int .i64 a4, .string ve4, .string st4, .int .i64 kd4, .string to4] ∧ Blk wz g2 3 [.int .i64 0, .int .i64 1, .int .i64 10, .int .i64 50, .int .i64 100, .int .i64 500] ∧ Blk wz g1 31 [.slice (some ⟨bs, os, none⟩) sn sc, .slice cA cn cc, .slice (some ⟨bv, ov, none⟩) vn vc, .slice pA pn pc] ∧ (SlOld stEnc 15 156 w.heap.size (some sb) (some ⟨bs, os, none⟩) sn sl) wz ∧ (SlOld vhEnc 2 69 w.heap.size (some sb) (some ⟨bv, ov, none⟩) vn vl) wz ∧ True) mixed (fun _ hm => ⟨hm.bl 0, hm.bl 1, hm.bl 2, hm.fa 0, hm.fa 1, trivial⟩) fun z => ?_
   refine wt 0 12 1 rfl z (ov_move rfl) ?_
   refine wa1 1 rfl ?_
   refine wl_got (γ := Bool) (val := fun v => .bool v) (φ := fun v => True) rfl cb64 rfl rfl rfl rfl (fun wx hm => ((flip_any _ wx B sb _ hm.k (by omega) (by omega) (by omega)).mono fun _ _ ⟨v, he, hS, hg⟩ => ⟨v, trivial, he, hS, hg⟩)) fun f35 _ => ?_
   refine wl_nil ?_
   refine nw 12 3 (fun _ hm => ⟨hm.bl 0, hm.bl 1, hm.bl 2, hm.fa 0, hm.fa 1, trivial⟩) fun z => ?_
   refine wt 2 12 7 rfl z (ov_move rfl) ?_
   rcases Bool.eq_false_or_eq_true f35 with hg8 | hg8
   ·refine wa_set 121 rfl (congrArg Value.bool hg8) ?_
    refine wtf 3 12 15 rfl rfl rfl z ?_
    refine wtf 4 12 31 rfl rfl rfl z ?_
    refine wtf 5 12 63 rfl rfl rfl z ?_
    refine wtf 6 12 127 rfl rfl rfl z ?_
    refine wtf 7 12 255 rfl rfl rfl z ?_
    refine wtf 8 12 511 rfl rfl rfl z ?_
    refine wtf 9 12 1023 rfl rfl rfl z ?_
    refine wtf 10 12 2047 rfl rfl rfl z ?_
    refine wt 11 12 4095 rfl z (ov_pick_t rfl rfl) ?_
    refine wa_done (by kernel_rfl) ?_
    exact nx_meet true trivial ⟨rfl, rfl, rfl, rfl, rfl, rfl, rfl, rfl, rfl, trivial⟩ (fun _ hm => (hm.more rfl (by first | omega | (dsimp only; omega))).pick [0, 1, 2] [0] [0, 1] rfl rfl)
   refine wa_set 121 rfl (congrArg Value.bool hg8) ?_
   refine wto 3 12 15 rfl rfl rfl z (ov_loads rz31 rfl (fun _ hm => hm.2.2.1) rfl rfl) ?_
   refine wto 4 12 31 rfl rfl rfl z (ov_move rfl) ?_
   refine wto 6 12 95 rfl rfl rfl z (ov_loads rz105 rfl (fun _ hm => hm.1) rfl rfl) ?_
   refine wa_all [5, 7] (by kernel_rfl) rfl ⟨⟨_, rfl, ?_⟩, ⟨_, rfl, ?_⟩, trivial⟩
   ·refine wl_guard_on rfl rfl rfl ?_
    refine wl_callgo (γ := Option Addr × Nat) (val := (fun g => .slice g.1 k g.2)) (φ := (fun g => True)) (fun g => ⟨.slice g.1 k g.2, 105, 5, k, xl.flatMap evEnc⟩) rfl cb87 rfl rfl (fun wx hm => (cloneEvents_all xl oA k oc wx (SlT.ofOwn ev_len (hm.ownI 0 rfl) hxl) (own_shape (hm.ownI 0 rfl)) (by omega)).mono fun _ _ ⟨A, c, he, ho, hg⟩ => ⟨(A, c), he, trivial, ho, hg⟩) ?_
    rintro ⟨A3, c3⟩ hphi
    dsimp only at hphi ⊢
    refine wl_nil ?_
    refine nw 12 127 (fun _ hm => ⟨hm.bl 0, hm.bl 1, hm.bl 2, hm.fa 0, hm.fa 1, trivial⟩) fun z => ?_
    refine wa1 7 rfl ?_
    refine wl_guard_on rfl rfl rfl ?_
    refine wl_buildSlice (e := 105) (cs := [.int .i64 a4, .string ve4, .string st4, .int .i64 kd4, .string to4]) rfl (by kernel_rfl) rfl fun g36 => ?_
    refine wl_nil ?_
    refine nw 12 255 (fun _ hm => ⟨hm.bl 1, hm.bl 2, hm.bl 3, hm.fa 0, hm.fa 1, trivial⟩) fun z => ?_
    refine wa1 8 rfl ?_
    refine wl_guard_on rfl rfl rfl ?_
    refine wl_append (news := [.int .i64 a4, .string ve4, .string st4, .int .i64 kd4, .string to4]) 0 0 ap32 rfl rfl rfl rfl rfl rfl rfl (by omega) (by unfold maxLen; omega) rfl rfl fun v2 hv2 => ?_
    refine wl_look (R := ∃ A cc, v2 = .slice A (k + 1) cc) (fun wx hm => own_slice (hm.ownI 0 rfl)) ?_
    rintro ⟨A4, c4, rfl⟩
    have hxs : xl.flatMap evEnc ++ ([.int .i64 a4, .string ve4, .string st4, .int .i64 kd4, .string to4] : List Value) = us.flatMap evEnc := by rw [hus]; simp [evEnc]
    rw [hxs]
    refine wl_nil ?_
    refine nw 12 511 (fun _ hm => ⟨hm.bl 1, hm.bl 2, hm.bl 3, hm.fa 0, hm.fa 1, trivial⟩) fun z => ?_
    refine wa1 9 rfl ?_
    refine wl_guard_on rfl rfl rfl ?_
    refine wl_callv (v := .int .i64 LE) rfl cb27 rfl rfl (fun wx hm => (by rw [hLE]; exact logFault_any sl vl (some ⟨bs, os, none⟩) cA (some ⟨bv, ov, none⟩) pA sn sc cn cc vn vc pn pc us A4 (k + 1) c4 wx (hm.fact 0 rfl).1 (hm.fact 1 rfl).1 hsok hsn hvn (SlT.ofOwn ev_len (hm.ownI 0 rfl) hul) huok (by omega))) ?_
    refine wl_nil ?_
    refine nw 12 1023 (fun _ hm => ⟨hm.bl 1, hm.bl 2, hm.bl 3, hm.fa 0, hm.fa 1, trivial⟩) fun z => ?_
    refine wto 10 12 2047 rfl rfl rfl z (ov_eql rfl rfl) ?_
    refine wt 11 12 4095 rfl z (ov_pick_f rfl rfl) ?_
    refine wa_done (by kernel_rfl) ?_
    exact nx_meet (decide (LE = 0)) trivial ⟨rfl, rfl, rfl, rfl, rfl, rfl, rfl, rfl, rfl, trivial⟩ (fun _ hm => (hm.more rfl (by first | omega | (dsimp only; omega))).pick [1, 2, 3] [1] [0, 1] rfl rfl)
   refine wl_guard_on rfl rfl rfl ?_
   refine wl_buildSlice (e := 105) (cs := [.int .i64 a4, .string ve4, .string st4, .int .i64 kd4, .string to4]) rfl (by kernel_rfl) rfl fun g37 => ?_
   refine wl_nil ?_
   refine nw 12 223 (fun _ hm => ⟨hm.bl 1, hm.bl 2, hm.bl 3, hm.fa 0, hm.fa 1, trivial⟩) fun z => ?_
   refine wa1 5 rfl ?_
   refine wl_guard_on rfl rfl rfl ?_
   refine wl_callgo (γ := Option Addr × Nat) (val := (fun g => .slice g.1 k g.2)) (φ := (fun g => True)) (fun g => ⟨.slice g.1 k g.2, 105, 5, k, xl.flatMap evEnc⟩) rfl cb87 rfl rfl (fun wx hm => (cloneEvents_all xl oA k oc wx (SlT.ofOwn ev_len (hm.ownI 0 rfl) hxl) (own_shape (hm.ownI 0 rfl)) (by omega)).mono fun _ _ ⟨A, c, he, ho, hg⟩ => ⟨(A, c), he, trivial, ho, hg⟩) ?_
   rintro ⟨A3, c3⟩ hphi
   dsimp only at hphi ⊢
   refine wl_nil ?_
   refine nw 12 255 (fun _ hm => ⟨hm.bl 1, hm.bl 2, hm.bl 3, hm.fa 0, hm.fa 1, trivial⟩) fun z => ?_
   refine wa1 8 rfl ?_
   refine wl_guard_on rfl rfl rfl ?_
   refine wl_append (news := [.int .i64 a4, .string ve4, .string st4, .int .i64 kd4, .string to4]) 0 0 ap32 rfl rfl rfl rfl rfl rfl rfl (by omega) (by unfold maxLen; omega) rfl rfl fun v2 hv2 => ?_
   refine wl_look (R := ∃ A cc, v2 = .slice A (k + 1) cc) (fun wx hm => own_slice (hm.ownI 0 rfl)) ?_
   rintro ⟨A4, c4, rfl⟩
   have hxs : xl.flatMap evEnc ++ ([.int .i64 a4, .string ve4, .string st4, .int .i64 kd4, .string to4] : List Value) = us.flatMap evEnc := by rw [hus]; simp [evEnc]
   rw [hxs]
   refine wl_nil ?_
   refine nw 12 511 (fun _ hm => ⟨hm.bl 1, hm.bl 2, hm.bl 3, hm.fa 0, hm.fa 1, trivial⟩) fun z => ?_
   refine wa1 9 rfl ?_
   refine wl_guard_on rfl rfl rfl ?_
   refine wl_callv (v := .int .i64 LE) rfl cb27 rfl rfl (fun wx hm => (by rw [hLE]; exact logFault_any sl vl (some ⟨bs, os, none⟩) cA (some ⟨bv, ov, none⟩) pA sn sc cn cc vn vc pn pc us A4 (k + 1) c4 wx (hm.fact 0 rfl).1 (hm.fact 1 rfl).1 hsok hsn hvn (SlT.ofOwn ev_len (hm.ownI 0 rfl) hul) huok (by omega))) ?_
   refine wl_nil ?_
   refine nw 12 1023 (fun _ hm => ⟨hm.bl 1, hm.bl 2, hm.bl 3, hm.fa 0, hm.fa 1, trivial⟩) fun z => ?_
   refine wto 10 12 2047 rfl rfl rfl z (ov_eql rfl rfl) ?_
   refine wt 11 12 4095 rfl z (ov_pick_f rfl rfl) ?_
   refine wa_done (by kernel_rfl) ?_
   exact nx_meet (decide (LE = 0)) trivial ⟨rfl, rfl, rfl, rfl, rfl, rfl, rfl, rfl, rfl, trivial⟩ (fun _ hm => (hm.more rfl (by first | omega | (dsimp only; omega))).pick [1, 2, 3] [1] [0, 1] rfl rfl)
  intro bb hinv
  replace hinv : True := hinv
  refine gw_cond rfl (fun hh => ?_) (fun hh => ?_)
  ·have hbb : bb = true := by simpa using hh
   clear hh
   refine gw_region (mv_ rfl ?_)
   refine wl_ov (ov_loads rz105 rfl (fun _ hm => hm.blkI 0 rfl) rfl rfl) rfl ?_
   refine wl_buildSlice (e := 105) (cs := [.int .i64 a4, .string ve4, .string st4, .int .i64 kd4, .string to4]) rfl (by kernel_rfl) rfl fun g38 => ?_
   refine wl_append (news := [.int .i64 a4, .string ve4, .string st4, .int .i64 kd4, .string to4]) 0 0 ap32 rfl rfl rfl rfl rfl rfl rfl (by omega) (by unfold maxLen; omega) rfl rfl fun v2 hv2 => ?_
   refine wl_look (R := ∃ A cc, v2 = .slice A (k + 1) cc) (fun wx hm => own_slice (hm.ownI 0 rfl)) ?_
   rintro ⟨A4, c4, rfl⟩
   have hxs : xl.flatMap evEnc ++ ([.int .i64 a4, .string ve4, .string st4, .int .i64 kd4, .string to4] : List Value) = us.flatMap evEnc := by rw [hus]; simp [evEnc]
   rw [hxs]
   refine sg_ rfl (wl_nil (nx_blk_nrm (nx_then (gw_region (ad_ rfl rfl (mv_ rfl (wl_nil ?_)))))))
   exact nx_round (i + 1, k + 1, t8, A4, c4, us) ⟨by dsimp only; omega, by dsimp only; omega, ⟨by dsimp only; omega, by dsimp only; omega⟩, hul, huok⟩ (by dsimp only; omega) ⟨rfl, rfl, rfl, rfl, rfl, rfl, (some_int (by omega)), trivial⟩ (fun _ hm => (hm.more rfl (by first | omega | (dsimp only; omega))).pick [3] [0] [0, 1] rfl rfl)
  have hbb : bb = false := by simpa using hh
  clear hh
  refine gw_skip (nx_blk_nrm (nx_then (gw_region (ad_ rfl rfl (mv_ rfl (wl_nil ?_))))))
  exact nx_round (i + 1, k, t8, oA, oc, xl) ⟨by dsimp only; omega, by dsimp only; omega, ⟨by dsimp only; omega, by dsimp only; omega⟩, hxl, hxok⟩ (by dsimp only; omega) ⟨rfl, rfl, rfl, rfl, rfl, rfl, (some_int (by omega)), trivial⟩ (fun _ hm => (hm.more rfl (by first | omega | (dsimp only; omega))).pick [2] [0] [0, 1] rfl rfl)
 have hi : ¬ (((i : Nat) : Int) < ((q : Nat) : Int)) := by simpa using hh
 clear hh
 refine gw_exit ?_
 refine nx_then_exit (nx_then_exit ?_)
 refine nx_blk_here ?_
 refine nx_then (sr_ (mv_ rfl (sg_ rfl (nn_ ?_))))
 refine gw_ret ?_
 refine nx_ret1 rfl rfl fun wx hm => ?_
 exact ⟨oA, k, oc, xl, rfl, (hm.ownI 0 rfl), hxl, hxok, by omega, hm.k.more (by omega), hm.g⟩
end Go.Proofs.YtdoooppeiphefaaGreatDoor
namespace Go.Proofs.YtdoooppeiphefaaGreatDoor
open Go.RowKit
theorem fleet_rise {sl : List St} {cl : List Cs} {vl : List Vh} {pl : List Pl} (h : fleetE sl cl vl pl = 0) : Rise vl := by
  unfold fleetE at h
  exact (vehs_rise (fe_all h (vehsE cl vl) (by simp))).2
theorem fe_hd {a : Int} {r : List Int} (h : a ≠ 0) : firstE (a :: r) = a := by simp [firstE, h]
theorem fe_tl {r : List Int} : firstE (0 :: r) = firstE r := by simp [firstE]
end Go.Proofs.YtdoooppeiphefaaGreatDoor
namespace Go.Proofs.YtdoooppeiphefaaGreatDoor
open Go.RowKit
def evsE (sl : List St) (cl : List Cs) (vl : List Vh) (pl : List Pl) (el : List Ev) : Int := firstE [fleetE sl cl vl pl, logE sl vl el]
theorem evs_one {sl : List St} {cl : List Cs} {vl : List Vh} {pl : List Pl} {el : List Ev} (h : fleetE sl cl vl pl ≠ 0) : evsE sl cl vl pl el = fleetE sl cl vl pl := fe_hd h
theorem evs_two {sl : List St} {cl : List Cs} {vl : List Vh} {pl : List Pl} {el : List Ev} (h : fleetE sl cl vl pl = 0) : evsE sl cl vl pl el = logE sl vl el := by
  unfold evsE; rw [h, fe_tl]
  by_cases h2 : logE sl vl el = 0
  · rw [h2]; rfl
  · exact fe_hd h2
theorem evs_ok {sl : List St} {cl : List Cs} {vl : List Vh} {pl : List Pl} {el : List Ev} (h : evsE sl cl vl pl el = 0) : fleetE sl cl vl pl = 0 ∧ logE sl vl el = 0 := ⟨fe_all h _ (by simp), fe_all h _ (by simp)⟩
theorem log_ok {sl : List St} {vl : List Vh} {el : List Ev} (h : logE sl vl el = 0) : ESort el ∧ (∀ x ∈ el, EvFine sl vl x) ∧ el.length ≤ 3000 := by
  unfold logE at h
  split at h
  · cases h
  · obtain ⟨h1, _, h3⟩ := log_fine h
    exact ⟨h1, h3, by omega⟩
theorem check2_any (sl : List St) (cl : List Cs) (vl : List Vh) (pl : List Pl) (sA cA vA pA : Option Addr) (sn sc cn cc vn vc pn pc : Nat) (el : List Ev) (eA : Option Addr) (en ec : Nat) (w : World) (hs : SlT stEnc 15 156 w sA sn sl) (hc : SlT csEnc 2 158 w cA cn cl) (hv : SlT vhEnc 2 69 w vA vn vl) (hp : SlT plEnc 3 164 w pA pn pl) (hsok : ∀ x ∈ sl, StOk x) (hcok : ∀ x ∈ cl, CsOk x) (hvok : ∀ x ∈ vl, VhOk x) (hpok : ∀ x ∈ pl, PlOk x) (hsn : sn ≤ 1000) (hcn : cn ≤ 1000) (hvn : vn ≤ 1000) (hpn : pn ≤ 1000) (hl : SlT evEnc 5 105 w eA en el) (heok : ∀ x ∈ el, EvOk x) (hen : en ≤ 100000) :
  Calls Tryz.prog 42 #[.agg #[.slice sA sn sc, .slice cA cn cc, .slice vA vn vc, .slice pA pn pc], .slice eA en ec] w (GotE w (evsE sl cl vl pl el)) := by
 refine gw_enter ⟨14, w, none, []⟩ Tryz.func42 rfl Tryz.ntmps42 rfl (mem0 (X := [SlOld stEnc 15 156 w.heap.size none sA sn sl, SlOld csEnc 2 158 w.heap.size none cA cn cl, SlOld vhEnc 2 69 w.heap.size none vA vn vl, SlOld plEnc 3 164 w.heap.size none pA pn pl, SlOld evEnc 5 105 w.heap.size none eA en el]) (allF_cons hs.old (allF_cons hc.old (allF_cons hv.old (allF_cons hp.old (allF_cons hl.old allF_nil))))) (allL_cons SlOld.lasts (allL_cons SlOld.lasts (allL_cons SlOld.lasts (allL_cons SlOld.lasts (allL_cons SlOld.lasts allL_nil)))))) ?_
 refine sr_ ?_
 obtain ⟨FE, hFE⟩ : ∃ z, z = fleetE sl cl vl pl := ⟨_, rfl⟩
 obtain ⟨LE, hLE⟩ : ∃ z, z = logE sl vl el := ⟨_, rfl⟩
 refine wl_box rfl rfl rfl fun g1 => ?_
 refine sg_ rfl (nn_ (gw_seq (sr_ ?_)))
 refine wl_ov (ov_loads rz31 rfl (fun _ hm => hm.blkI 0 rfl) rfl rfl) rfl ?_
 refine wl_callv (v := .int .i64 FE) rfl cb121 rfl rfl (fun wx hm => (by rw [hFE]; exact checkFleet_any sl cl vl pl sA cA vA pA sn sc cn cc vn vc pn pc wx (hm.fact 0 rfl).1 (hm.fact 1 rfl).1 (hm.fact 2 rfl).1 (hm.fact 3 rfl).1 hsok hcok hvok hpok hsn hcn hvn hpn)) ?_
 refine sg_ rfl (nn_ (sr_ (mv_ rfl (wl_ov (ov_neq rfl rfl) rfl (nn_ ?_)))))
 refine gw_cond rfl (fun hh => ?_) (fun hh => ?_)
 ·have h1 : ¬ (FE = 0) := by simpa using hh
  clear hh
  refine sr_ (mv_ rfl (sg_ rfl (nn_ ?_)))
  refine gw_ret ?_
  refine nx_then_ret ?_
  refine nx_ret1 rfl rfl fun wx hm => ?_
  exact ⟨ret_int (by rw [evs_one (by rw [← hFE]; simpa using h1)]; exact hFE), hm.g⟩
 have h1 : FE = 0 := by simpa using hh
 clear hh
 refine gw_skip (nx_then (sr_ ?_))
 have h0 : fleetE sl cl vl pl = 0 := by rw [← hFE]; simpa using h1
 have hrise := fleet_rise h0
 refine wl_ov (ov_loads rz31 rfl (fun _ hm => hm.blkI 0 rfl) rfl rfl) rfl ?_
 refine mv_ rfl ?_
 refine wl_callv (v := .int .i64 LE) rfl cb122 rfl rfl (fun wx hm => (by rw [hLE]; exact check_any sl vl sA cA vA pA sn sc cn cc vn vc pn pc el eA en ec wx (hm.fact 0 rfl).1 (hm.fact 2 rfl).1 hsok hsn hvn (hm.fact 4 rfl).1 heok hen hrise)) ?_
 refine sg_ rfl (nn_ ?_)
 refine gw_ret ?_
 refine nx_ret1 rfl rfl fun wx hm => ?_
 exact ⟨ret_int (by rw [evs_two h0]; exact hLE), hm.g⟩
end Go.Proofs.YtdoooppeiphefaaGreatDoor
namespace Go.Proofs.YtdoooppeiphefaaGreatDoor
open Go.RowKit
abbrev AMap := ByteArray → Option Sa
def encS (x : Sa) : Value := .agg #[.int .i64 x.st, .string x.sta, .int .i64 x.since]
end Go.Proofs.YtdoooppeiphefaaGreatDoor
namespace Go.Proofs.YtdoooppeiphefaaGreatDoor
open Go.RowKit
def encP : Option Nat → Value
  | none => .pointer none
  | some g => .pointer (some ⟨g, 0, none⟩)
abbrev PMap := ByteArray → Option (Option Nat)
def six (f : Int → Int) : List Value := [.int .i64 (f 0), .int .i64 (f 1), .int .i64 (f 2), .int .i64 (f 3), .int .i64 (f 4), .int .i64 (f 5)]
/-- Each key's block holds its six numbers. -/
def Fam (T : TypeId) (N : Nat) (p : PMap) (G : ByteArray → Int → Int) (w : World) : Prop := ∀ k g, p k = some (some g) → N ≤ g ∧ Blk w g T (six (G k))
def Inj (p : PMap) : Prop := ∀ k j g, p k = some (some g) → p j = some (some g) → k = j
structure FamOk (p : PMap) (m1 m2 : Nat) : Prop where
  inj : Inj p
  none_ : ∀ k, p k ≠ some none
  ne1 : ∀ k, p k ≠ some (some m1)
  ne2 : ∀ k, p k ≠ some (some m2)
theorem famOk_nil {m1 m2 : Nat} : FamOk fNil m1 m2 := ⟨fun _ _ _ h => (by cases h), fun _ h => (by cases h), fun _ h => (by cases h), fun _ h => (by cases h)⟩
theorem FamOk.put {p : PMap} {m1 m2 g : Nat} {k : ByteArray} (h : FamOk p m1 m2) (hf : ∀ j, p j ≠ some (some g)) (h1 : g ≠ m1) (h2 : g ≠ m2) : FamOk (fPut p k (some g)) m1 m2 := by
  have hp : ∀ j x, fPut p k (some g) j = some x → (j = k ∧ x = some g) ∨ p j = some x := fun j x hj => by
    by_cases e : j = k
    · subst e
      rw [fPut_same] at hj
      exact .inl ⟨rfl, (Option.some.inj hj).symm⟩
    · rw [fPut_other _ _ e] at hj; exact .inr hj
  refine ⟨fun a b x ha hb => ?_, fun a ha => ?_, fun a ha => ?_, fun a ha => ?_⟩
  · rcases hp a _ ha with ⟨rfl, e⟩ | ha2 <;> rcases hp b _ hb with ⟨rfl, e'⟩ | hb2
    · rfl
    · injection e with e; subst e; exact absurd hb2 (hf b)
    · injection e' with e'; subst e'; exact absurd ha2 (hf a)
    · exact h.inj a b x ha2 hb2
  · rcases hp a _ ha with ⟨_, e⟩ | ha2
    · cases e
    · exact h.none_ a ha2
  · rcases hp a _ ha with ⟨_, e⟩ | ha2
    · injection e with e; exact h1 e.symm
    · exact h.ne1 a ha2
  · rcases hp a _ ha with ⟨_, e⟩ | ha2
    · injection e with e; exact h2 e.symm
    · exact h.ne2 a ha2
theorem Fam.lasts2 {N M : Nat} {row : Option Nat} {Tt : List TypeId} {T : TypeId} {p : PMap} {G : ByteArray → Int → Int} (hT : Tt.contains T = true) : Lasts2 N row Tt (Fam T M p G) :=
  ⟨fun _ _ h hx k g hk => ⟨(hx k g hk).1, (hx k g hk).2.grown h (by simp)⟩, fun w _ r T2 cs h1 h2 _ h3 hx k g hk => ⟨(hx k g hk).1, (hx k g hk).2.grown h3 (fun e => by
    have e2 : g = r := Option.some.inj e
    subst e2
    have hb := (hx k g hk).2
    unfold Blk at hb
    rw [h1] at hb
    injection hb with hb
    injection hb with _ hb _
    exact h2 (by rw [hb]; simpa using hT))⟩⟩
theorem Fam.far {T : TypeId} {M N m : Nat} {p : PMap} {G : ByteArray → Int → Int} (hne : ∀ k, p k ≠ some (some m)) : ∀ w w' : World, N ≤ m → w.grownBy w' (some m) → Fam T M p G w → Fam T M p G w' := fun _ _ _ hg hx k g hk => ⟨(hx k g hk).1, (hx k g hk).2.grown hg (fun e => hne k (by rw [hk, Option.some.inj e]))⟩
theorem Fam.put {T : TypeId} {N g : Nat} {p : PMap} {G : ByteArray → Int → Int} {w : World} {k : ByteArray} (h : Fam T N p G w) (hN : N ≤ g) (hb : Blk w g T (six (G k))) : Fam T N (fPut p k (some g)) G w := fun j x hj => by
  by_cases e : j = k
  · subst e
    rw [fPut_same] at hj
    injection hj with hj
    injection hj with hj
    subst hj
    exact ⟨hN, hb⟩
  · rw [fPut_other _ _ e] at hj; exact h j x hj
theorem Fam.added {T : TypeId} {N g : Nat} {p : PMap} {G : ByteArray → Int → Int} {w w' : World} {k : ByteArray} {j n : Int} (h : Fam T N p G w) (hi : Inj p) (hk : p k = some (some g)) (hb : Blk w' g T (six (fun i => if i = j then G k i + n else G k i))) (hg : w.grownBy w' (some g)) : Fam T N p (gPut G k j n) w' := fun u x hu => by
  by_cases e : u = k
  · subst e
    rw [hk] at hu
    injection hu with hu
    injection hu with hu
    subst hu
    refine ⟨(h u g hk).1, ?_⟩
    rw [gPut_same]; exact hb
  · rw [gPut_other e]
    exact ⟨(h u x hu).1, (h u x hu).2.grown hg (fun e2 => e (hi u k g (by rw [hu, Option.some.inj e2]) hk))⟩
theorem dom_put {p : PMap} {vl : List Vh} {i g : Nat} {y : Vh} (h : ∀ k x, vl[k]? = some x → k < i → ∃ g, p x.key = some (some g)) (hy : vl[i]? = some y) : ∀ k x, vl[k]? = some x → k < i + 1 → ∃ g', fPut p y.key (some g) x.key = some (some g') := fun k x hx hk => by
  by_cases e : x.key = y.key
  · exact ⟨g, by rw [e, fPut_same]⟩
  · rw [fPut_other _ _ e]
    refine h k x hx ?_
    rcases Nat.lt_or_ge k i with h2 | h2
    · exact h2
    · obtain rfl : k = i := by omega
      rw [hx] at hy
      cases hy
      exact absurd rfl e
theorem dom_in {p : PMap} {vl : List Vh} {i g : Nat} {y : Vh} (h : ∀ k, p k ≠ none → ∃ x ∈ vl, x.key = k) (hy : vl[i]? = some y) : ∀ k, fPut p y.key (some g) k ≠ none → ∃ x ∈ vl, x.key = k := fun k hk => by
  by_cases e : k = y.key
  · exact ⟨y, List.mem_of_getElem? hy, e.symm⟩
  · rw [fPut_other _ _ e] at hk; exact h k hk
theorem dom_veh {p : PMap} {vl : List Vh} {k : ByteArray} (h : ∀ i x, vl[i]? = some x → i < vl.length → ∃ g, p x.key = some (some g)) (hk : 0 ≤ ixP (vhP k) vl 0) : ∃ g, p k = some (some g) := by
  obtain ⟨v, hv, hp⟩ := ixP_get hk
  have e : v.key = k := bytes_eqb.1 hp
  rw [← e]
  exact h _ v hv (List.getElem?_eq_some_iff.1 hv).1
/-- Each vehicle's state is one that there is. -/
def CurS (F : ByteArray → Option Sa) : Prop := ∀ v, (0 ≤ ((F v).getD sa0).st ∧ ((F v).getD sa0).st ≤ 5) ∧ -4000000000000000000 ≤ ((F v).getD sa0).since ∧ ((F v).getD sa0).since ≤ 4000000000000000000
theorem curS_nil : CurS fNil := fun _ => show (0 ≤ sa0.st ∧ sa0.st ≤ 5) ∧ -4000000000000000000 ≤ sa0.since ∧ sa0.since ≤ 4000000000000000000 by decide
theorem CurS.put {F : ByteArray → Option Sa} (h : CurS F) {x : Ev} {k : ByteArray} (hx : EvOk x) : CurS (fPut F k (nextS x)) := fun v => by
  by_cases e : v = k
  · subst e
    rw [fPut_same]
    have h1 := nextS_st x
    have h2 := nextS_since x
    have h3 := hx.1
    show (0 ≤ (nextS x).st ∧ (nextS x).st ≤ 5) ∧ -4000000000000000000 ≤ (nextS x).since ∧ (nextS x).since ≤ 4000000000000000000
    rw [h2]
    exact ⟨⟨by omega, by omega⟩, h3⟩
  · rw [fPut_other _ _ e]; exact h v
theorem blkRow {w : World} {g : Nat} {T : TypeId} {cs : List Value} (hb : Blk w g T cs) (hl : cs.length = 6) : w.ownsRow 0 T 1 (.slice (some ⟨g, 0, none⟩) 6 6) 6 cs :=
  ⟨by omega, .inr ⟨g, 6, cs.toArray, rfl, Nat.zero_le _, hb, Nat.le_refl _, by unfold maxLen; omega, by simp [hl], by simp [← hl]⟩⟩
theorem rowBlk {base : Nat} {T : TypeId} {g : Nat} {xs : List Value} {w : World} (h : RowK base T 1 6 6 g xs w) : Blk w g T xs := by
  rcases h.2 with ⟨h1, _⟩ | ⟨g', cap, cur, hv, _, hh, _, _, hs, ht⟩
  · cases h1
  · injection hv with h1 _ h3
    injection h1 with h1
    injection h1 with h1 _ _
    subst h1 h3
    rw [List.take_of_length_le (by rw [Array.length_toList]; omega)] at ht
    subst ht
    unfold Blk
    rw [Array.toArray_toList]; exact hh
section
variable {P : Program} {c : Cx} {ops : Array Oper} {Q : Exit → Act → World → Prop} {rest : List Oper} {S : List (Nat × Value)} {K : World → Prop} {L : List (Nat × TypeId × List Value)} {O : List Own} {X X' : List (World → Prop)} {w w' : World}
variable {d : Nat} {ty : TypeId} {pos : String} {aft : Array Edge}
theorem Mem.famed {g : Nat} {T : TypeId} {cs : List Value} (h : Mem c K L O X w) (hg : c.w0.heap.size ≤ g) (hb : Blk w g T cs) (hgr : w.grownBy w' (some g)) (hL : L.all (fun x => x.2.1 != T) = true) (hO : O.all (fun r => r.e != T) = true) (hX : ∀ A ∈ X', A w' ∧ Lasts2 c.w0.heap.size c.row c.Tt A) : Mem c K L O X' w' := by
  have hne : ∀ (k : Nat) (cs : Array Value) (T2 : TypeId), T2 ≠ T → w.heap[k]? = some (.cells cs T2 (0, 0)) → k ≠ g := fun k cs T2 h2 hk e => by
    subst e
    unfold Blk at hb
    rw [hb] at hk
    injection hk with hk
    injection hk with _ hk _
    exact h2 hk.symm
  refine ⟨grow_own h.g hgr (fun k e => by cases e; exact hg), h.kk.st _ _ _ hg hgr h.k, fun x hx => ⟨(h.b x hx).1, (h.b x hx).2.grown hgr (fun e => hne _ _ _ (by have := List.all_eq_true.1 hL x hx; simpa using this) (h.b x hx).2 (Option.some.inj e))⟩, h.nd, fun s hs => ?_, h.od, h.oo, fun A hA => (hX A hA).1, h.kk, fun A hA => (hX A hA).2, h.rs⟩
  refine (h.o s hs).kept hgr ?_
  cases hv : s.v.ownBlock with
  | none => exact .inl rfl
  | some k =>
    refine .inr (fun e => ?_)
    have e2 : k = g := by injection e
    rcases (h.o s hs).2 with ⟨hn, _⟩ | ⟨g', cap, cur, hn, _, hh, _⟩
    · rw [hn] at hv; cases hv
    · rw [hn] at hv
      have e3 : g' = k := by injection hv
      exact hne _ _ _ (by have := List.all_eq_true.1 hO s hs; simpa using this) hh (e3.trans e2)
/-- A block that a call has made is known from then on. -/
theorem Mem.gain {g : Nat} {T : TypeId} {cs : List Value} (h : Mem c K L O X w) (hgr : w.grownBy w' none) (hN : w.heap.size ≤ g) (hb : Blk w' g T cs) : Mem c K ((g, T, cs) :: L) O X w' := by
  have h2 := h.grow hgr
  refine ⟨h2.g, h2.k, fun x hx => ?_, List.Pairwise.cons (fun y hy e => by have h3 := (h.b y hy).2.lt; have e2 : g = y.1 := e; omega) h.nd, h2.o, fun r hr x hx => ?_, h.oo, h2.x, h.kk, h.l, h.rs⟩
  · rcases List.mem_cons.1 hx with rfl | hx
    · exact ⟨Nat.le_trans h.g.size hN, hb⟩
    · exact h2.b x hx
  · rcases List.mem_cons.1 hx with rfl | hx
    · intro e
      have := ((h.o r hr).lt g e).2
      omega
    · exact h.od r hr x hx
/-- A number of one of the blocks grows by a call. -/
theorem wl_famAdd {f : FuncId} {x : Operand} {ags : List Operand} {ats : Array TypeId} {vs fs cs : List Value} {T : TypeId} {p : PMap} {G : ByteArray → Int → Int} {k : ByteArray} {g : Nat} {j n : Int} (i : Nat) (hi : X[i]? = some (Fam T c.w0.heap.size p G)) (hp : p k = some (some g)) (hinj : Inj p) (hL : L.all (fun x => x.2.1 != T) = true) (hO : O.all (fun r => r.e != T) = true) (hT : c.Tt.contains T = true)
    (hx : rd S x = some (.func (.func f) fs.toArray cs.toArray)) (hf : callableB P f = true) (ha : evArgs S ags = some vs) (hd : Nat.ble (d + 1) c.n = true)
    (hC : ∀ w, Mem c K L O X w → Blk w g T (six (G k)) → Calls P f (fs ++ vs ++ cs).toArray w (fun e w' => e = .returned (.tuple #[]) ∧ Blk w' g T (six (fun i => if i = j then G k i + n else G k i)) ∧ w.grownBy w' (some g)))
    (hX : ∀ A ∈ X', (∀ w w', c.w0.heap.size ≤ g → w.grownBy w' (some g) → A w → A w') ∧ A ∈ X)
    (h : WL P c ops Q rest ((d, .tuple #[]) :: S) K L O (Fam T c.w0.heap.size p (gPut G k j n) :: X')) :
    WL P c ops Q (⟨some d, .call ⟨.value x, ags.toArray, ats⟩, ty, pos, aft, none⟩ :: rest) S K L O X :=
  wl_callG (γ := Unit) (val := fun _ => .tuple #[]) (φ := fun _ => True) (K' := fun _ => K) (L' := fun _ => L) (O' := fun _ => O) (X' := fun _ => Fam T c.w0.heap.size p (gPut G k j n) :: X') hx hf ha hd (fun w hm => by
    have hfam : Fam T c.w0.heap.size p G w := hm.fact i hi
    obtain ⟨hN, hb⟩ := hfam k g hp
    refine (hC w hm hb).mono fun e w' ⟨he, hb', hg⟩ => ⟨(), he, trivial, hm.famed hN hb hg hL hO fun A hA => ?_⟩
    rcases List.mem_cons.1 hA with rfl | hA
    · exact ⟨hfam.added hinj hp hb' hg, Fam.lasts2 hT⟩
    · exact ⟨(hX A hA).1 _ _ hN hg (hm.x A (hX A hA).2), hm.l A (hX A hA).2⟩) (fun _ _ => h)
/-- A new block, beside a family and two maps. -/
theorem wl_boxN {α β : Type} {enc1 : α → Value} {enc2 : β → Value} {f1 : ByteArray → Option α} {f2 : ByteArray → Option β} {m1 m2 M1 M2 M : Nat} {T : TypeId} {p : PMap} {G : ByteArray → Int → Int} {t : TypeId} {x : Operand} {v : Value} {cs : List Value} (i i1 i2 : Nat) (hi : X[i]? = some (Fam T M p G)) (hi1 : X[i1]? = some (MapF enc1 M1 m1 f1)) (hi2 : X[i2]? = some (MapF enc2 M2 m2 f2)) (hx : rd S x = some v) (hcs : v.cells = cs.toArray) (hd : Nat.ble (d + 1) c.n = true)
    (h : ∀ g, (∀ k, p k ≠ some (some g)) → g ≠ m1 → g ≠ m2 → WL P c ops Q rest ((d, .pointer (some ⟨g, 0, none⟩)) :: S) K ((g, t, cs) :: L) O X) : WL P c ops Q (⟨some d, .box t x, ty, pos, aft, none⟩ :: rest) S K L O X := by
  intro a w ha hm
  refine wpList_plain rfl fun K' hK => ?_
  unfold Oper.wp
  have : (execOp a.eval ⟨some d, .box t x, ty, pos, aft, none⟩).run P w = .ok (.value (.pointer (some ⟨w.heap.size, 0, none⟩))) (w.alloc (.cells cs.toArray t)) := by
    simp [execOp, ha.eval hx, Instr.box, newVar, newRow, hcs]
  rw [this]
  have h1 : m1 < w.heap.size := MapF.lt (hm.fact i1 hi1)
  have h2 : m2 < w.heap.size := MapF.lt (hm.fact i2 hi2)
  have h3 : Fam T M p G w := hm.fact i hi
  exact hK _ _ (h w.heap.size (fun k e => by have := (h3 k _ e).2.lt; omega) (by omega) (by omega) _ _ (ha.put hd _) (hm.new t cs))
/-- .. comes into the family. -/
theorem nx_fam {e : Exit} {T : TypeId} {p : PMap} {G : ByteArray → Int → Int} {g : Nat} {k : ByteArray} (i j : Nat) (hi : L[i]? = some (g, T, six (G k))) (hj : X[j]? = some (Fam T c.w0.heap.size p G)) (hT : c.Tt.contains T = true) (h : Nx c Q e S K L O (Fam T c.w0.heap.size (fPut p k (some g)) G :: X)) : Nx c Q e S K L O X := fun a w ha hm =>
  h a w ha (hm.also (Fam.lasts2 hT) ((show Fam T c.w0.heap.size p G w from hm.fact j hj).put (hm.b _ (List.mem_of_getElem? hi)).1 (hm.b _ (List.mem_of_getElem? hi)).2))
theorem gw_famNil {code : Code} {T : TypeId} {G : ByteArray → Int → Int} (hT : c.Tt.contains T = true) (h : Gw P c Q code S K L O (Fam T c.w0.heap.size fNil G :: X)) : Gw P c Q code S K L O X := fun a w ha hm =>
  h a w ha (hm.also (Fam.lasts2 hT) (fun _ _ hk => by cases hk))
end
end Go.Proofs.YtdoooppeiphefaaGreatDoor
