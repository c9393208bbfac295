/- The walk of what ExchangeOf hands to changed. -/
import Derived.Test.YtljnekobfjpfaaaDoorRp
namespace Go.Proofs.YtljnekobfjpfaaaDoor
open Go.RowKit

/-- A leg is appended to an owned row of legs, in a region that draws its order. -/
theorem step_app_leg {ops : Array Oper} {o : Oper} {a : Act} {w : World} {K : Act → World → Prop} {Q : Exit → Act → World → Prop} {E : Prop} (hgd : o.guard = none) (s x : Operand)
    (ho : o.op = .call { callee := .builtin .append, args := #[s, x], argTypes := #[34, 34] }) (base g n c b : Nat) (l : List Lg) (y : Lg) (hs : a.eval s = .slice (some ⟨g, 0, none⟩) n c) (hown : w.ownsRow base 138 9 (.slice (some ⟨g, 0, none⟩) n c) n (l.flatMap lgEnc))
    (hx : a.eval x = .slice (some ⟨b, 0, none⟩) 1 1) (hnews : ∀ j u, (lgEnc y)[j]? = some u → w.cell? ((⟨b, 0, none⟩ : Addr).add j) = some u) (hn : n ≤ 1000000) (hbase : base ≤ w.heap.size)
    (h : ∀ g4 cap4 w4, w4.ownsRow base 138 9 (.slice (some ⟨g4, 0, none⟩) (n + 1) cap4) (n + 1) (l.flatMap lgEnc ++ lgEnc y) → w.grownBy w4 (some g) → (g4 = g ∨ g4 = w.heap.size) → g4 < w4.heap.size → K (a.put o.dst (.slice (some ⟨g4, 0, none⟩) (n + 1) cap4)) w4) :
    if Region.wanted o (yielded ops a.tmps) = true then Oper.wp Tryd.prog o a w K Q else E := by
  obtain ⟨i0, z0, hi, hz, hsz, hby, hzs⟩ := leg_info
  exact step_append_lies w hgd s x _ ho base 138 i0 z0 9 96 Tryd.underlying34 hi hz hsz hby hzs (by decide) _ n _ hs hown ⟨b, 0, none⟩ 1 1 (lgEnc y) hx (lg_len y) hnews (lg_one y) (by decide) (by unfold maxLen; omega) (by omega) hbase _ rfl
    (fun g4 cap4 w4 h1 h2 h3 h4 => h g4 cap4 w4 h1 h2 (by
      rcases h3 with h3 | h3
      · cases h3; exact .inl rfl
      · exact .inr h3) h4)

set_option maxRecDepth 100000 in
set_option maxHeartbeats 4000000 in
theorem exchangeFn_any (base hb ib vb ob g : Nat) (key driver veh : ByteArray) (fr to_ : Int) (n c : Nat) (r q : Rd) (l : List Lg) (x : Lg) (w : World) (hH : Blk w hb 36 [.string key, .string driver, .int .i64 fr, .int .i64 to_, .slice (some ⟨g, 0, none⟩) n c]) (hI : Blk w ib 31 (rdCells r))
    (hV : Blk w vb 9 [.string veh]) (hO : Blk w ob 31 (rdCells q)) (hG : OwnT lgEnc 9 138 w base g n c l) (hn0 : 0 < n) (hn : n ≤ 1000000) (hx : l[n - 1]? = some x) (hl : l.length = n) (hne : vb ≠ g ∧ ob ≠ g ∧ hb ≠ g) (hbase : hb < base) :
    Calls Tryd.prog 123 #[.pointer (some ⟨hb, 0, none⟩), .pointer (some ⟨ib, 0, none⟩), .pointer (some ⟨vb, 0, none⟩), .pointer (some ⟨ob, 0, none⟩)] w (fun e w' => (∃ r, e = .returned r) ∧
      ∃ g' c', Blk w' hb 36 [.string key, .string driver, .int .i64 fr, .int .i64 to_, .slice (some ⟨g', 0, none⟩) (n + 1) c'] ∧ OwnT lgEnc 9 138 w' base g' (n + 1) c' (l.set (n - 1) ⟨x.veh, x.out, r⟩ ++ [startLeg veh q]) ∧
        (∀ k, k < base → k ≠ hb → w'.heap[k]? = w.heap[k]?) ∧ w'.os = w.os ∧ w'.tape = w.tape ∧ w'.output = w.output ∧ w.heap.size ≤ w'.heap.size) := by
  obtain ⟨cs, hC, hfit, htk⟩ := hG.blk
  have hgl := hG.lt
  have hg0 : base ≤ g := hG.1
  have c4 := hH.cell_of (i := 4) (v := .slice (some ⟨g, 0, none⟩) n c) rfl
  have fz := hH.frozen 4
  obtain ⟨a1, s1, m1, f1⟩ := r
  obtain ⟨a2, s2, m2, f2⟩ := q
  have r0 := hI.cell_of (i := 0) (v := .int .i64 a1) rfl
  have r1 := hI.cell_of (i := 1) (v := .string s1) rfl
  have r2 := hI.cell_of (i := 2) (v := .int .i64 m1) rfl
  have r3 := hI.cell_of (i := 3) (v := .int .i64 f1) rfl
  have hki : (n : Int) - 1 = ((n - 1 : Nat) : Int) := by omega
  have hk1 : (n : Int) - 1 < (n : Int) := by omega
  have hk0 : (0 : Int) ≤ (n : Int) - 1 := by omega
  have hf : (n - 1) * 9 + 5 + 4 ≤ cs.length := by omega
  have w1 : IntKind.i64.wrap ((n - 1 : Nat) : Int) = ((n - 1 : Nat) : Int) := IntWalk.i64_in _ (by omega)
  have hix : ((n - 1 : Nat) : Int) < (n : Int) := by omega
  have hix2 : n - 1 < n := by omega
  obtain ⟨L, hL⟩ : ∃ L, L = l.set (n - 1) ⟨x.veh, x.out, ⟨a1, s1, m1, f1⟩⟩ := ⟨_, rfl⟩
  rw [← hL]
  have HL := Lib.hid hL
  clear hL
  go_enter Tryd.func123, Tryd.ntmps123
  go_wp2_with fail
  refine wp_region_still_tail 13 (by kernel_rfl) (by kernel_rfl) ?_
  change wpStill _ _ (World.drew _) _ _ _
  simp only [List.take_succ_cons, List.take_zero, List.drop_succ_cons, List.drop_zero]
  repeat still_step
  refine wpStill_nil ?_
  change wpList _ _ _ _ _ (World.drew _)
  go_wp2_with (with_reducible refine wpList_store_blk rfl 31 (.tmp 17) (.tmp 15) rfl g ((n - 1) * 9 + 5) _ cs [.int .i64 a1, .string s1, .int .i64 m1, .int .i64 f1] hC.drew rfl rfl 4 info_rd rfl hf (by simp [Value.oneCell']) ?_
               intro w3 hC3 hg3)
  have hg3' : w.grownBy w3 (some g) := grow_trans (grow_drew (World.grownBy.refl _ _)) hg3
  have hH3 := hH.grown hg3' (fun h => absurd (Option.some.inj h) hne.2.2)
  have hV3 := hV.grown hg3' (fun h => absurd (Option.some.inj h) hne.1)
  have hO3 := hO.grown hg3' (fun h => absurd (Option.some.inj h) hne.2.1)
  have hG3 : OwnT lgEnc 9 138 w3 base g n c (l.set (n - 1) ⟨x.veh, x.out, ⟨a1, s1, m1, f1⟩⟩) := hG.spliced lg_len hC hx (r := 5) (vs := [.int .i64 a1, .string s1, .int .i64 m1, .int .i64 f1]) rfl (by simp) hl hC3
  rw [← HL.out] at hG3
  have hlt3 := hG3.lt
  have HG3 := Lib.hid hG3
  have hgl3 : hb < w3.heap.size := hH3.lt
  have hvl3 := hV3.lt
  have hol3 := hO3.lt
  clear hH hI hV hO hG hC hC3 htk hg3 c4 fz r0 r1 r2 r3 hki hk1 hk0 hf w1 hix hix2 hx hl hG3
  have c4 := hH3.cell_of (i := 4) (v := .slice (some ⟨g, 0, none⟩) n c) rfl
  have fz := hH3.frozen 4
  have hnews : ∀ j u, (lgEnc (startLeg veh ⟨a2, s2, m2, f2⟩))[j]? = some u → (w3.alloc (.cells #[.string veh, .int .i64 a2, .string s2, .int .i64 m2, .int .i64 f2, .int .i64 (-1), .string ⟨#[]⟩, .int .i64 0, .int .i64 0] 138)).drew.cell? ((⟨w3.heap.size, 0, none⟩ : Addr).add j) = some u := fun j u hj => by
    have hb := Blk.at_ w3 rfl 138 (lgEnc (startLeg veh ⟨a2, s2, m2, f2⟩))
    have := hb.cell_of hj
    have ha : (⟨w3.heap.size, 0, none⟩ : Addr).add j = ⟨w3.heap.size, j, none⟩ := by
      unfold Addr.add
      split
      · rename_i h; subst h; rfl
      · simp
    rw [ha]; exact this
  have Hnews := Lib.hid hnews
  clear hnews
  go_wp2_with fail
  have p0 := hV3.cell_of (i := 0) (v := .string veh) rfl
  have o0 := hO3.cell_of (i := 0) (v := .int .i64 a2) rfl
  have o1 := hO3.cell_of (i := 1) (v := .string s2) rfl
  have o2 := hO3.cell_of (i := 2) (v := .int .i64 m2) rfl
  have o3 := hO3.cell_of (i := 3) (v := .int .i64 f2) rfl
  have hbs : base ≤ ((w3.alloc (.cells #[.string veh, .int .i64 a2, .string s2, .int .i64 m2, .int .i64 f2, .int .i64 (-1), .string ⟨#[]⟩, .int .i64 0, .int .i64 0] 138)).drew).heap.size := by
    show base ≤ (w3.alloc _).heap.size
    simp; omega
  have Hown3 := Lib.hid (show World.ownsRow ((w3.alloc (.cells #[.string veh, .int .i64 a2, .string s2, .int .i64 m2, .int .i64 f2, .int .i64 (-1), .string ⟨#[]⟩, .int .i64 0, .int .i64 0] 138)).drew) base 138 9 (.slice (some ⟨g, 0, none⟩) n c) n (L.flatMap lgEnc) from (HG3.out.kept (Below.heap_alloc w3 _ g hlt3) (Nat.le_refl _)).2)
  go_region_law (first
      | (refine step_app_leg rfl _ _ rfl base g n c w3.heap.size L (startLeg veh ⟨a2, s2, m2, f2⟩) rfl Hown3.out rfl Hnews.out hn hbs ?_; intro g4 cap4 w4 hown4 hgrow4 hat4 hlt4; have hV4 := ((hV3.alloc _).drew).grown hgrow4 (fun h => absurd (Option.some.inj h) hne.1); have hO4 := ((hO3.alloc _).drew).grown hgrow4 (fun h => absurd (Option.some.inj h) hne.2.1); have hH4 := ((hH3.alloc _).drew).grown hgrow4 (fun h => absurd (Option.some.inj h) hne.2.2); have c4' := hH4.cell_of (i := 4) (v := .slice (some ⟨g, 0, none⟩) n c) rfl; have fz4 := hH4.frozen 4))
  all_goals
    go_wp2_with fail
    go_end0
    have hg4 : base ≤ g4 := by
      rcases hat4 with h | h
      · rw [h]; exact hg0
      · rw [h]; simp; omega
    have hne4 : (Value.slice (some ⟨g4, 0, none⟩) (n + 1) cap4).ownBlock ≠ some hb := fun h => by have e : g4 = hb := Option.some.inj h; omega
    have hgr : w.grownBy w4 (some g) := grow_trans hg3' (grow_trans (grow_drew (grow_alloc (World.grownBy.refl _ _) _)) hgrow4)
    refine ⟨⟨_, rfl⟩, g4, cap4, hH4.set_ 4 _, ⟨hg4, ?_⟩, fun k hk hkb => ?_, hgr.os, hgr.tape, hgr.output, by simpa [World.setCell] using hgr.size⟩
    · have := ownsRow_setCell_other hown4 (a := ⟨hb, 4, none⟩) hne4 (.slice (some ⟨g4, 0, none⟩) (n + 1) cap4)
      rw [List.flatMap_append, show [startLeg veh ⟨a2, s2, m2, f2⟩].flatMap lgEnc = lgEnc (startLeg veh ⟨a2, s2, m2, f2⟩) from by simp]
      exact this
    · exact (Below.heap_setCell w4 _ _ k hkb).trans (hgr.block k (by omega) (fun h => by have e : g = k := (Option.some.inj h).symm; omega))

end Go.Proofs.YtljnekobfjpfaaaDoor
