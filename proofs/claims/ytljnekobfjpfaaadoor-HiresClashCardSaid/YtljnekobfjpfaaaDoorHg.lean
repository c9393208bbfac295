/- The walks of hire.open, slices.Clone at legs, hire.going. -/
import Derived.Test.YtljnekobfjpfaaaDoorHf
import Derived.Test.YtljnekobfjpfaaaDoorOwn
namespace Go.Proofs.YtljnekobfjpfaaaDoor
open Go.RowKit

theorem lg_one (g : Lg) : ∀ v ∈ lgEnc g, v.oneCell' = true := by
  intro v hv
  simp [lgEnc, rdCells] at hv
  rcases hv with rfl | rfl | rfl | rfl | rfl | rfl | rfl | rfl | rfl <;> rfl

/-- A hire goes on. -/
def openB (l : List Lg) : Bool :=
  match l[l.length - 1]? with
  | some g => g.inn.at_ == -1
  | none => false

set_option maxRecDepth 100000 in
set_option maxHeartbeats 400000 in
theorem open_any (key driver : ByteArray) (fr to_ : Int) (l : List Lg) (A : Option Addr) (n c : Nat) (w : World) (hl : SlT lgEnc 9 138 w A n l) (hn0 : 0 < n) (hn : n ≤ 1000000) :
    Calls Tryd.prog 127 #[.agg #[.string key, .string driver, .int .i64 fr, .int .i64 to_, .slice A n c]] w (fun e w' => e = .returned (.bool (openB l)) ∧ w.grownBy w' none) := by
  have hlen := hl.len
  obtain ⟨g, hg⟩ : ∃ g, l[n - 1]? = some g := ⟨_, List.getElem?_eq_getElem (by omega)⟩
  obtain ⟨b, off, rfl, hbl, hrg⟩ := hl.get hn0
  have HO := Lib.hid (show openB l = (g.inn.at_ == -1) by unfold openB; rw [hlen, hg])
  obtain ⟨veh, ⟨a1, s1, m1, f1⟩, ⟨a2, s2, m2, f2⟩⟩ := g
  have hr0 := hrg (n - 1) _ hg
  have hc : w.cell? ⟨b, off + (n - 1) * 9 + 5, none⟩ = some (.int .i64 a2) := hr0 5 _ rfl
  have hc2 := fun o => (World.cell?_of_block (a := ⟨b, off + (n - 1) * 9 + 5, none⟩) (Below.heap_alloc w o b hbl)).trans hc
  have hki : (n : Int) - 1 = ((n - 1 : Nat) : Int) := by omega
  have hk1 : (n : Int) - 1 < (n : Int) := by omega
  have hk0 : (0 : Int) ≤ (n : Int) - 1 := by omega
  clear hr0 hrg hc hg hlen hl
  go_enter Tryd.func127, Tryd.ntmps127
  go_wp2_with fail
  go_ret
  exact ⟨ret_bool HO.out.symm, grow_alloc (World.grownBy.refl _ _) _⟩

theorem leg_info : ∃ i z, Tryd.prog.info? 138 = some i ∧ i.zero = some z ∧ i.size = 9 ∧ i.bytes = 96 ∧ z.cells.size = 9 := info_parts (by kernel_rfl)

set_option maxRecDepth 100000 in
set_option maxHeartbeats 400000 in
theorem cloneLegs_any (l : List Lg) (A : Option Addr) (n c : Nat) (w : World) (hl : SlT lgEnc 9 138 w A n l) (hn0 : 0 < n) (hn : n ≤ 1000000) :
    Calls Tryd.prog 118 #[.slice A n c] w (fun e w' => ∃ g c', e = .returned (.slice (some ⟨g, 0, none⟩) n c') ∧ OwnT lgEnc 9 138 w' w.heap.size g n c' l ∧ w.grownBy w' none) := by
  obtain ⟨b, off, rfl, hbl, hfl⟩ := hl.flat lg_len hn0
  have hlen := hl.len
  obtain ⟨i0, z0, hi, hz, hsz, hby, hzs⟩ := leg_info
  have hnews : ∀ (o : Obj) j u, (l.flatMap lgEnc)[j]? = some u → (w.alloc o).cell? ((⟨b, off, none⟩ : Addr).add j) = some u := fun o j u hj =>
    (World.cell?_of_block (Below.heap_alloc w o _ (by unfold Addr.add; split <;> exact hbl))).trans (hfl j u hj)
  have hone := flat_one lgEnc lg_one l
  have hll := flat_len lgEnc 9 lg_len l
  rw [hlen] at hll
  clear hfl hl
  have Hnews := Lib.hid hnews
  clear hnews
  have he : ∀ w : World, (binOp .eql 34 (.slice (some ⟨b, off, none⟩) n c) (.slice none 0 0)).run Tryd.prog w = .ok (.bool false) w := fun _ => rfl
  go_enter Tryd.func118, Tryd.ntmps118
  go_wp2_with (at_builtin; refine wpList_append_own_at _ rfl _ _ 34 rfl w.heap.size 138 i0 z0 9 96 Tryd.underlying34 hi hz hsz hby hzs (by decide) (.slice (some ⟨w.heap.size, 0, none⟩) 0 0) 0 [] rfl ⟨rfl, .inr ⟨w.heap.size, 0, #[], rfl, Nat.le_refl _, heap_alloc_new w _, Nat.le_refl _, by decide, rfl, rfl⟩⟩ ⟨b, off, none⟩ n c (l.flatMap lgEnc) rfl hll (Hnews.out _) hone (by unfold maxLen; omega) (by omega) (by simp) ?_; intro v' w' hown hgrow hnil hat)
  rw [Nat.zero_add, List.nil_append] at hown
  have hown2 := hown
  obtain ⟨_, ho⟩ := hown2
  rcases ho with ⟨_, h0⟩ | ⟨g, cap, cur, rfl, hg, _⟩
  · omega
  · go_ret
    exact ⟨g, cap, rfl, ⟨hg, hown⟩, grow_own (grow_alloc (World.grownBy.refl _ _) _) hgrow (fun k h => by cases h; exact Nat.le_refl _)⟩

/-- What goes on of a hire: its error. -/
def goingE (h : Hr) : Int := if hireE h = 0 then (if openB h.legs then 0 else 11) else hireE h
def noHire : Value := .agg #[.string ⟨#[]⟩, .string ⟨#[]⟩, .int .i64 0, .int .i64 0, .slice none 0 0]

theorem hireE_legs {h : Hr} (hh : hireE h = 0) : 0 < h.legs.length ∧ h.legs.length ≤ 20 := by
  obtain ⟨key, driver, fr, to_, l⟩ := h
  unfold hireE at hh
  by_cases h1 : l.length = 0
  · exfalso
    simp only [h1, if_true] at hh
    revert hh
    generalize whenE (!keyB key || !keyB driver) 5 = x
    generalize timeE fr to_ = y
    intro hh
    by_cases hx : x = 0 <;> by_cases hy : y = 0 <;> simp [firstE, hx, hy] at hh
  · by_cases h2 : 20 < l.length
    · exfalso
      simp only [h1, h2, if_true, if_false] at hh
      revert hh
      generalize whenE (!keyB key || !keyB driver) 5 = x
      generalize timeE fr to_ = y
      intro hh
      by_cases hx : x = 0 <;> by_cases hy : y = 0 <;> simp [firstE, hx, hy] at hh
    · show 0 < l.length ∧ l.length ≤ 20
      omega

set_option maxRecDepth 100000 in
set_option maxHeartbeats 1000000 in
theorem going_any (key driver : ByteArray) (fr to_ : Int) (l : List Lg) (A : Option Addr) (n c : Nat) (w : World) (hl : SlT lgEnc 9 138 w A n l) (hok : HrOk key driver l) (hn : n ≤ 1000000) :
    Calls Tryd.prog 121 #[.agg #[.string key, .string driver, .int .i64 fr, .int .i64 to_, .slice A n c]] w (fun e w' => w.grownBy w' none ∧
      ((goingE ⟨key, driver, fr, to_, l⟩ = 0 ∧ ∃ g c', e = .returned (.tuple #[.agg #[.string key, .string driver, .int .i64 fr, .int .i64 to_, .slice (some ⟨g, 0, none⟩) n c'], .int .i64 0]) ∧ OwnT lgEnc 9 138 w' w.heap.size g n c' l) ∨
       (goingE ⟨key, driver, fr, to_, l⟩ ≠ 0 ∧ e = .returned (.tuple #[noHire, .int .i64 (goingE ⟨key, driver, fr, to_, l⟩)])))) := by
  obtain ⟨E, hE⟩ : ∃ E, E = hireE ⟨key, driver, fr, to_, l⟩ := ⟨_, rfl⟩
  obtain ⟨G, hG⟩ : ∃ G, G = goingE ⟨key, driver, fr, to_, l⟩ := ⟨_, rfl⟩
  rw [← hG]
  have HE := Lib.hid hE
  have HG := Lib.hid hG
  clear hE hG
  go_enter Tryd.func121, Tryd.ntmps121
  go_wp2_with fail
  refine (check_any key driver fr to_ l A n c _ ((hl.alloc _).alloc _) hok hn).mono ?_
  rintro e w1 ⟨rfl, hg1⟩
  rw [← HE.out]
  have hb1 : Blk w1 (w.heap.size + 1) 36 [.string ⟨#[]⟩, .string ⟨#[]⟩, .int .i64 0, .int .i64 0, .slice none 0 0] := (Blk.at_ (w.alloc _) (by simp) _ _).grown hg1 (by simp)
  have hb0 : Blk w1 w.heap.size 36 [.string key, .string driver, .int .i64 fr, .int .i64 to_, .slice A n c] := ((Blk.at_ w rfl _ _).alloc _).grown hg1 (by simp)
  have hgw : w.grownBy w1 none := grow_trans (grow_alloc (grow_alloc (World.grownBy.refl _ _) _) _) hg1
  have hz : ∀ k, some (w.heap.size + 1) = some k → w.heap.size ≤ k := fun k h => by cases h; omega
  clear hg1
  by_cases h0 : E = 0
  · have hlen := hireE_legs (HE.out.symm.trans h0)
    have hn0 : 0 < n := by have := hl.len; exact this ▸ hlen.1
    obtain ⟨O, hO⟩ : ∃ O, O = openB l := ⟨_, rfl⟩
    have HGO := Lib.hid (show G = if O then 0 else 11 by rw [HG.out]; unfold goingE; rw [if_pos (HE.out.symm.trans h0), hO])
    have cO : ∀ w' : World, w.grownBy w' none → Calls Tryd.prog 127 #[.agg #[.string key, .string driver, .int .i64 fr, .int .i64 to_, .slice A n c]] w' (fun e w'' => e = .returned (.bool O) ∧ w'.grownBy w'' none) := fun w' hg => by
      rw [hO]
      exact open_any key driver fr to_ l A n c w' (hl.grow0 hg) hn0 hn
    have CO := Lib.hid cO
    clear hlen hO cO
    subst h0
    go_wp2_with (with_reducible refine wpList_load_all rfl 36 (.tmp 1) rfl w.heap.size _ _ _ hb0 rfl Tryd.underlying36 rfl 5 info_hr rfl ?_)
    refine (CO.out _ hgw).mono ?_
    rintro e w2 ⟨rfl, hg2⟩
    have hb0 := hb0.grown hg2 (by simp)
    have hb1 := hb1.grown hg2 (by simp)
    have hgw := grow_trans hgw hg2
    clear hg2
    cases O
    · have HF := Lib.hid (show G = 11 from HGO.out)
      go_wp2_with (first
        | (with_reducible refine wpList_store_all rfl 36 (.tmp 2) (.tmp 14) rfl (w.heap.size + 1) _ _ [.string ⟨#[]⟩, .string ⟨#[]⟩, .int .i64 0, .int .i64 0, .slice none 0 0] hb1 rfl rfl 5 info_hr rfl rfl (by simp [Value.oneCell']) ?_
           intro w3 hb3 hg3))
      refine ret_blk_tmp (p := 2) (u := 3) (ty := 36) rfl (w.heap.size + 1) _ _ _ hb3 rfl (.int .i64 11) rfl Tryd.underlying36 rfl 5 info_hr rfl rfl ?_
      exact ⟨grow_own hgw hg3 hz, .inr ⟨by rw [HF.out]; decide, by rw [HF.out]; rfl⟩⟩
    · have HF := Lib.hid (show G = 0 from HGO.out)
      have c3 := hb0.cell_of (i := 4) (v := .slice A n c) rfl
      have f3 := hb0.frozen 4
      go_wp2_with fail
      refine (cloneLegs_any l A n c _ (hl.grow0 hgw) hn0 hn).mono ?_
      rintro e w3 ⟨g, c', rfl, hown, hg3⟩
      have hz2 := hb1.lt
      have hz3 := hown.1
      have hl3 := hown.lt
      have hb0 := hb0.grown hg3 (by simp)
      have hb1 := hb1.grown hg3 (by simp)
      have hgw := grow_trans hgw hg3
      have c4 := hb0.cell_of (i := 4) (v := .slice A n c) rfl
      have f4 := hb0.frozen 4
      have hbS : Blk (w3.setCell ⟨w.heap.size, 4, none⟩ (.slice (some ⟨g, 0, none⟩) n c')) w.heap.size 36 [.string key, .string driver, .int .i64 fr, .int .i64 to_, .slice (some ⟨g, 0, none⟩) n c'] := hb0.set_ 4 _
      have hb1S : Blk (w3.setCell ⟨w.heap.size, 4, none⟩ (.slice (some ⟨g, 0, none⟩) n c')) (w.heap.size + 1) 36 [.string ⟨#[]⟩, .string ⟨#[]⟩, .int .i64 0, .int .i64 0, .slice none 0 0] := hb1.far (by simp) _
      have hgS : w.grownBy (w3.setCell ⟨w.heap.size, 4, none⟩ (.slice (some ⟨g, 0, none⟩) n c')) none := grow_setCell hgw (.inr (Nat.le_refl _)) _
      have hkeep : (w3.setCell ⟨w.heap.size, 4, none⟩ (.slice (some ⟨g, 0, none⟩) n c')).heap[g]? = w3.heap[g]? := Below.heap_setCell w3 _ _ g (by simp; omega)
      have hlS : g < (w3.setCell ⟨w.heap.size, 4, none⟩ (.slice (some ⟨g, 0, none⟩) n c')).heap.size := by simpa [World.setCell] using hl3
      clear c3 f3 hg3
      go_wp2_with (first
        | (with_reducible refine wpList_load_all rfl 36 (.tmp 1) rfl w.heap.size _ _ _ hbS rfl Tryd.underlying36 rfl 5 info_hr rfl ?_)
        | (with_reducible refine wpList_store_all rfl 36 (.tmp 2) (.tmp 19) rfl (w.heap.size + 1) _ _ [.string key, .string driver, .int .i64 fr, .int .i64 to_, .slice (some ⟨g, 0, none⟩) n c'] hb1S rfl rfl 5 info_hr rfl rfl (by simp [Value.oneCell']) ?_
           intro w4 hb4 hg4))
      refine ret_blk_tmp (p := 2) (u := 3) (ty := 36) rfl (w.heap.size + 1) _ _ _ hb4 rfl (.int .i64 0) rfl Tryd.underlying36 rfl 5 info_hr rfl rfl ?_
      exact ⟨grow_own hgS hg4 hz, .inl ⟨HF.out, g, c', rfl, hown.kept ((hg4.block g hlS (fun h => absurd (Option.some.inj h) (by omega))).trans hkeep) (by omega)⟩⟩
  · have hne : (E != 0) = true := by simpa using h0
    have HF := Lib.hid (show G = E by rw [HG.out]; unfold goingE; rw [if_neg (fun h => h0 (HE.out.trans h)), HE.out])
    have HN := Lib.hid h0
    clear h0
    go_wp2_with (first
      | (with_reducible refine wpList_store_all rfl 36 (.tmp 2) (.tmp 9) rfl (w.heap.size + 1) _ _ [.string ⟨#[]⟩, .string ⟨#[]⟩, .int .i64 0, .int .i64 0, .slice none 0 0] hb1 rfl rfl 5 info_hr rfl rfl (by simp [Value.oneCell']) ?_
         intro w2 hb2 hg2))
    refine ret_blk_tmp (p := 2) (u := 3) (ty := 36) rfl (w.heap.size + 1) _ _ _ hb2 rfl (.int .i64 E) rfl Tryd.underlying36 rfl 5 info_hr rfl rfl ?_
    exact ⟨grow_own hgw hg2 hz, .inr ⟨by rw [HF.out]; exact HN.out, by rw [HF.out]; rfl⟩⟩

end Go.Proofs.YtljnekobfjpfaaaDoor
