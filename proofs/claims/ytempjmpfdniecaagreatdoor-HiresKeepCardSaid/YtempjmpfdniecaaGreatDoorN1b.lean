/- Several texts as one: Xz Hd Rt Rl He Rh Hf Rm Hg Hh Ro Rp Rq Rc Rd2 Kp Gn Gnr Mp Md Htp Hta Htb Rdk Htc Buk -/
import Derived.Test.YtempjmpfdniecaaGreatDoorN1a
import Derived.Deep.RegionHeld3
import Derived.Laws.ResultCell
import Derived.IntWalk
import Derived.Maps.Own
import Derived.MapKept
import Derived.Lib.OthersKept
set_option maxRecDepth 100000
set_option maxHeartbeats 4000000
namespace Go.Proofs.YtempjmpfdniecaaGreatDoor
open Go.RowKit
theorem zc128 : zeroCs Tryz.prog 128 = some [.pointer none, .slice none 0 0] := by kernel_rfl
theorem cells_app {l : List UInt8} {s : ByteArray} : Lib.byteCells l ++ Lib.strCells s = Lib.byteCells (l ++ s.data.toList) := by
  unfold Lib.byteCells Lib.strCells; rw [List.map_append]
theorem ba_eq : ∀ {a b : ByteArray}, a.data.toList = b.data.toList → a = b := fun {a b} h => by
  cases a; cases b
  exact congrArg ByteArray.mk (Array.toList_inj.1 h)
theorem splitB_sz (sep : ByteArray) : ∀ (k : Nat) (t : ByteArray), ∀ x ∈ Lib.splitB sep 0 k t, x.size ≤ t.size
  | 0, t, x, hx => by
    rw [Lib.splitB_zero] at hx
    rw [List.mem_singleton.1 hx]; exact Nat.le_refl _
  | k + 1, t, x, hx => by
    unfold Lib.splitB at hx
    split at hx
    · rw [List.mem_singleton.1 hx]; exact Nat.le_refl _
    · rcases List.mem_cons.1 hx with rfl | hx
      · rw [ByteArray.size_extract]; omega
      · have := splitB_sz sep k _ x hx
        rw [ByteArray.size_extract] at this
        omega
theorem wdL_sz (t : ByteArray) : ∀ x ∈ wdL t, x.size ≤ t.size := splitB_sz _ _ t
theorem cut_sz (t sep : ByteArray) (hs : 1 ≤ sep.size) : (cutS t sep).1.size ≤ t.size ∧ ((cutS t sep).2.2 = true → 1 ≤ t.size → (cutS t sep).2.1.size + 1 ≤ t.size) ∧ (cutS t sep).2.1.size ≤ t.size := by
  have h1 := dl_size t
  have h2 := dl_size sep
  unfold cutS Lib.cut
  by_cases h : 0 ≤ Lib.index t.data.toList sep.data.toList
  · rw [if_pos h]
    refine ⟨?_, fun _ h3 => ?_, ?_⟩
    · show (⟨(t.data.toList.take (Lib.index t.data.toList sep.data.toList).toNat).toArray⟩ : ByteArray).size ≤ _
      rw [sz_mk, List.length_take]; omega
    · show (⟨(t.data.toList.drop ((Lib.index t.data.toList sep.data.toList).toNat + sep.data.toList.length)).toArray⟩ : ByteArray).size + 1 ≤ _
      rw [sz_mk, List.length_drop]; omega
    · show (⟨(t.data.toList.drop ((Lib.index t.data.toList sep.data.toList).toNat + sep.data.toList.length)).toArray⟩ : ByteArray).size ≤ _
      rw [sz_mk, List.length_drop]; omega
  · rw [if_neg h]
    refine ⟨?_, (fun h => by cases h), ?_⟩
    · show (⟨t.data.toList.toArray⟩ : ByteArray).size ≤ _
      rw [sz_mk]; omega
    · show (⟨([] : List UInt8).toArray⟩ : ByteArray).size ≤ _
      rw [sz_mk]; exact Nat.zero_le _
def IfT (b : Bool) (P : Prop) : Prop := b = true → P
theorem Lasts2.ift {N : Nat} {row : Option Nat} {Tt : List TypeId} {b : Bool} {q : Prop} {X : World → Prop} (h : Lasts2 N row Tt X) : Lasts2 N row Tt (fun w => IfT b (X w ∧ q)) :=
  ⟨fun w w' hg hx hc => ⟨h.gr w w' hg (hx hc).1, (hx hc).2⟩, fun w w' r T cs h1 h2 h3 h4 hx hc => ⟨h.st w w' r T cs h1 h2 h3 h4 (hx hc).1, (hx hc).2⟩⟩
def nlS : ByteArray := ⟨#[10]⟩
theorem size_pos {t : ByteArray} (h : (t.toList == (⟨#[]⟩ : ByteArray).toList) = false) : 1 ≤ t.size := by
  rcases Nat.eq_zero_or_pos t.size with h0 | h0
  · exfalso
    have : t = ⟨#[]⟩ := ByteArray.ext (Array.eq_empty_of_size_eq_zero h0)
    rw [this] at h
    exact absurd h (by decide +kernel)
  · exact h0
/-- A text, line by line, with a state that each line turns: the number of the line that is none, whether all are, the state. -/
def linesF {σ : Type} (step : ByteArray → σ → σ × Bool) : Nat → ByteArray → Int → σ → Int × Bool × σ
  | 0, _, _, st => (0, true, st)
  | f + 1, t, at_, st => if (t.toList == (⟨#[]⟩ : ByteArray).toList) = true then (0, true, st) else
    if (cutS t nlS).2.2 = false then (at_, false, st) else
    if (step (cutS t nlS).1 st).2 = true then linesF step f (cutS t nlS).2.1 (at_ + 1) (step (cutS t nlS).1 st).1 else (at_, false, (step (cutS t nlS).1 st).1)
def linesR {σ : Type} (step : ByteArray → σ → σ × Bool) (st : σ) (t : ByteArray) : Int × Bool × σ := linesF step (t.size + 1) t 0 st
section
variable {σ : Type} {step : ByteArray → σ → σ × Bool} {f : Nat} {t c1 c2 : ByteArray} {at_ : Int} {st : σ}
theorem lns_nil (hf : t.size < f) (h : (t.toList == (⟨#[]⟩ : ByteArray).toList) = true) : linesF step f t at_ st = (0, true, st) := by
  obtain ⟨k, rfl⟩ : ∃ k, f = k + 1 := ⟨f - 1, by omega⟩
  rw [linesF, if_pos h]
theorem lns_open (hf : t.size < f) (h : (t.toList == (⟨#[]⟩ : ByteArray).toList) = false) (hc : cutS t nlS = (c1, c2, false)) : linesF step f t at_ st = (at_, false, st) := by
  obtain ⟨k, rfl⟩ : ∃ k, f = k + 1 := ⟨f - 1, by omega⟩
  rw [linesF, if_neg (by rw [h]; decide), hc]; rfl
theorem lns_no (hf : t.size < f) (h : (t.toList == (⟨#[]⟩ : ByteArray).toList) = false) (hc : cutS t nlS = (c1, c2, true)) (hr : (step c1 st).2 = false) : linesF step f t at_ st = (at_, false, (step c1 st).1) := by
  obtain ⟨k, rfl⟩ : ∃ k, f = k + 1 := ⟨f - 1, by omega⟩
  rw [linesF, if_neg (by rw [h]; decide), hc, if_neg (show ¬ true = false by decide)]
  show (if (step c1 st).2 = true then _ else _) = _
  rw [if_neg (by rw [hr]; decide)]
theorem lns_go (hf : t.size < f) (h : (t.toList == (⟨#[]⟩ : ByteArray).toList) = false) (hc : cutS t nlS = (c1, c2, true)) (hr : (step c1 st).2 = true) : linesF step f t at_ st = linesF step (f - 1) c2 (at_ + 1) (step c1 st).1 := by
  obtain ⟨k, rfl⟩ : ∃ k, f = k + 1 := ⟨f - 1, by omega⟩
  rw [linesF, if_neg (by rw [h]; decide), hc, if_neg (show ¬ true = false by decide)]
  show (if (step c1 st).2 = true then _ else _) = _
  rw [if_pos hr]; rfl
end
/-- What each line keeps, with a measure that grows by one at most, all lines keep. -/
theorem lines_all {σ : Type} {step : ByteArray → σ → σ × Bool} {Q : σ → Prop} {ms : σ → Nat} {M : Nat} (hs : ∀ t st, t.size ≤ M → Q st → Q (step t st).1 ∧ ms (step t st).1 ≤ ms st + 1) :
    ∀ (f : Nat) (t : ByteArray) (at_ : Int) (st : σ), t.size ≤ M → Q st → Q (linesF step f t at_ st).2.2 ∧ ms (linesF step f t at_ st).2.2 ≤ ms st + t.size
  | 0, t, at_, st, ht, h => ⟨h, Nat.le_add_right _ _⟩
  | f + 1, t, at_, st, ht, h => by
    unfold linesF
    split
    · exact ⟨h, Nat.le_add_right _ _⟩
    · rename_i he
      have h1 := size_pos (t := t) (by simpa using he)
      obtain ⟨hs1, hs2, hs3⟩ := cut_sz t nlS (by decide)
      split
      · exact ⟨h, Nat.le_add_right _ _⟩
      · rename_i hc
        have hs2 := hs2 (by simpa using hc) h1
        obtain ⟨j1, j2⟩ := hs (cutS t nlS).1 st (by omega) h
        split
        · obtain ⟨i1, i2⟩ := lines_all hs f (cutS t nlS).2.1 (at_ + 1) (step (cutS t nlS).1 st).1 (by omega) j1
          exact ⟨i1, by omega⟩
        · exact ⟨j1, by show ms (step (cutS t nlS).1 st).1 ≤ _; omega⟩
theorem linesR_all {σ : Type} {step : ByteArray → σ → σ × Bool} {Q : σ → Prop} {ms : σ → Nat} {M : Nat} (hs : ∀ t st, t.size ≤ M → Q st → Q (step t st).1 ∧ ms (step t st).1 ≤ ms st + 1) {t : ByteArray} {st : σ} (ht : t.size ≤ M) (h : Q st) :
    Q (linesR step st t).2.2 ∧ ms (linesR step st t).2.2 ≤ ms st + t.size := lines_all hs _ _ _ _ ht h
theorem txt_law {w w1 wx : World} {sb : Nat} (h : TxtW w) (hg1 : w.grownBy w1 none) (hsb : w.heap.size ≤ sb) (hg : w1.grownBy wx (some sb)) : TxtO w1.heap.size (some sb) wx := by
  have ne : ∀ k, isG k → ¬ some sb = some k := fun k hk e => by
    have e2 : sb = k := by injection e
    have := h.lt hk
    omega
  have h1 := h.same fun k hk => hg1.block k (h.lt hk) (fun e => by cases e)
  exact ⟨h1.same fun k hk => hg.block k (h1.lt hk) (fun e => ne k hk e.symm), fun k hk => ⟨h1.lt hk, ne k hk⟩⟩
theorem TxtO.heap {N : Nat} {row : Option Nat} {w : World} (h : TxtO N row w) : TxtO w.heap.size row w := ⟨h.1, fun k hk => ⟨h.1.lt hk, (h.2 k hk).2⟩⟩
end Go.Proofs.YtempjmpfdniecaaGreatDoor
namespace Go.Proofs.YtempjmpfdniecaaGreatDoor
open Go.RowKit
theorem info_lg : (Tryz.prog.info? 135).map (·.size) = some 9 := by kernel_rfl
theorem rd_neq (at_ : Int) (st : ByteArray) (m f : Int) (w : World) :
    (binOp .neq 48 (.agg #[.int .i64 at_, .string st, .int .i64 m, .int .i64 f]) (.agg #[.int .i64 (-1), .string ⟨#[]⟩, .int .i64 0, .int .i64 0])).run Tryz.prog w = .ok (.bool (rdOut ⟨at_, st, m, f⟩)) w := by
  have hS : Tryz.prog.underlying 48 = some (.struct (Tryz.prog.fieldsOf 48)) := by kernel_rfl
  have hp : Tryz.prog.stoodInHeld 48 = false := by kernel_rfl
  rw [run_neq_struct, show (10000 : Nat) = 9999 + 1 from rfl, run_equalIn_agg w 9999 48 _ _ hS hp]
  simp only [Program.fieldsOf, Tryz.underlying48]
  have u3 := Tryz.underlying3
  have u9 := Tryz.underlying9
  go_simp
  by_cases h1 : at_ = -1 <;> by_cases h2 : st.toList = [] <;> by_cases h3 : m = 0 <;> by_cases h4 : f = 0 <;> simp [rdOut, h1, h2, h3, h4]
theorem firstE_zero (x : Int) : firstE [0, x] = x := by
  simp only [firstE]; split <;> simp_all
theorem legE_stop1 {fr : Int} {p : Option Lg} {last : Bool} {g : Lg} {e : Int} (h : firstE [whenE (!keyB g.veh) 5, readingE g.out] = e) (hne : e ≠ 0) : legE fr p last g = e := by
  unfold legE
  simp only [firstE] at h ⊢
  split
  · rename_i h1
    rw [if_pos h1] at h
    split
    · rename_i h2
      rw [if_pos h2] at h
      exact absurd h.symm hne
    · rename_i h2
      rw [if_neg h2] at h
      exact h
  · rename_i h1
    rw [if_neg h1] at h
    exact h
theorem legE_pass1 {fr : Int} {p : Option Lg} {last : Bool} {g : Lg} (h : firstE [whenE (!keyB g.veh) 5, readingE g.out] = 0) : legE fr p last g = firstE [legPrevE fr p g, legInE last g] := by
  have := firstE_two h
  unfold legE
  rw [this.1, this.2]
  rfl
set_option maxRecDepth 100000 in
set_option maxHeartbeats 1000000 in
theorem checkLeg_any (key driver : ByteArray) (fr to_ : Int) (l : List Lg) (A : Option Addr) (n c i : Nat) (g : Lg) (w : World) (hl : SlT lgEnc 9 135 w A n l) (hi : l[i]? = some g) (hok : ∀ g ∈ l, LgOk g) (hn : n ≤ 1000000) :
    Calls Tryz.prog 71 #[.agg #[.string key, .string driver, .int .i64 fr, .int .i64 to_, .slice A n c], .int .i64 (i : Int)] w (GotE w (legE fr (prevOf l i) (decide (i + 1 = n)) g)) := by
  have hin : i < n := by have := (List.getElem?_eq_some_iff.1 hi).1; have := hl.len; omega
  obtain ⟨b, off, rfl, hbl, hrg⟩ := hl.get (by omega)
  have hgo := hok g (List.mem_of_getElem? hi)
  have hpv : ∀ q, l[i - 1]? = some q → LgOk q := fun q hq => hok q (List.mem_of_getElem? hq)
  have hr0 := hrg i g hi
  obtain ⟨E1, hE1⟩ : ∃ E, E = firstE [whenE (!keyB g.veh) 5, readingE g.out] := ⟨_, rfl⟩
  have hstop := fun (h : E1 ≠ 0) => legE_stop1 (fr := fr) (p := prevOf l i) (last := decide (i + 1 = n)) hE1.symm h
  have hpass := fun (h : E1 = 0) => legE_pass1 (fr := fr) (p := prevOf l i) (last := decide (i + 1 = n)) (g := g) (hE1.symm.trans h)
  have Hstop := Lib.hid hstop
  have Hpass := Lib.hid hpass
  obtain ⟨R, hR⟩ : ∃ R, R = legE fr (prevOf l i) (decide (i + 1 = n)) g := ⟨_, rfl⟩
  rw [← hR] at Hstop Hpass ⊢
  obtain ⟨veh, ⟨a1, s1, m1, f1⟩, ⟨a2, s2, m2, f2⟩⟩ := g
  have cK : ∀ w, Calls Tryz.prog 69 #[.string veh] w fun e w' => e = .returned (.bool (keyB veh)) ∧ w' = w := fun w => flipw (isKey_any _ _ (by have := hgo.1; simp at this; omega))
  have hE1' : E1 = firstE [whenE (!keyB veh) 5, readingE ⟨a1, s1, m1, f1⟩] := hE1
  generalize keyB veh = K at cK hE1'
  have hr : w.rangeAt b (off + i * 9) [.string veh, .int .i64 a1, .string s1, .int .i64 m1, .int .i64 f1, .int .i64 a2, .string s2, .int .i64 m2, .int .i64 f2] := hr0
  have ho1 : RdOk ⟨a1, s1, m1, f1⟩ := hgo.2.1
  have ho2 : RdOk ⟨a2, s2, m2, f2⟩ := hgo.2.2
  have CK := Lib.hid cK
  have HE1 := Lib.hid hE1'
  have Hrg := Lib.hid hrg
  have Ho1 := Lib.hid ho1
  have Ho2 := Lib.hid ho2
  have hr' := fun (o : Obj) => (show (w.alloc o).rangeAt b (off + i * 9) [.string veh, .int .i64 a1, .string s1, .int .i64 m1, .int .i64 f1, .int .i64 a2, .string s2, .int .i64 m2, .int .i64 f2] from fun j v hv => (World.cell?_alloc_lt w o _ hbl).trans (hr j v hv))
  clear hstop hpass hE1 hE1' cK hrg ho1 ho2 hr0 hr hgo hR
  go_enter Tryz.func71, Tryz.ntmps71
  go_wp2_with (with_reducible refine wpList_load_rng rfl 135 (.tmp 11) rfl b (off + i * 9) rfl _ _ (hr' _) Tryz.underlying135 rfl 9 info_lg rfl ?_)
  refine wp_region_still_tail 7 (by kernel_rfl) (by kernel_rfl) ?_
  change wpStill _ _ (World.drew _) _ _ _
  simp only [List.take_succ_cons, List.take_zero, List.drop_succ_cons, List.drop_zero]
  repeat still_step
  still_call (CK.out _)
  repeat still_step
  still_call (flipw (when_any _ _ _))
  repeat still_step
  refine wpStill_nil ?_
  change wpList _ _ _ _ _ (World.drew _)
  go_wp2_with fail
  refine (checkReading_any ⟨a1, s1, m1, f1⟩ _ Ho1.out).mono ?_
  rintro e w1 ⟨rfl, hg1⟩
  obtain ⟨R1, hR1⟩ : ∃ R, R = readingE ⟨a1, s1, m1, f1⟩ := ⟨_, rfl⟩
  rw [← hR1] at HE1 ⊢
  clear hR1
  have hz := hg1.size
  simp at hz
  have hb0 : Blk w1 w.heap.size 30 [.string key, .string driver, .int .i64 fr, .int .i64 to_, .slice (some ⟨b, off, none⟩) n c] := (((Blk.at_ w rfl _ _).alloc _).drew).grown hg1 (by simp)
  have hb1 : Blk w1 (w.heap.size + 1) 135 [.string veh, .int .i64 a1, .string s1, .int .i64 m1, .int .i64 f1, .int .i64 a2, .string s2, .int .i64 m2, .int .i64 f2] := ((Blk.at_ (w.alloc _) (by simp) _ _).drew).grown hg1 (by simp)
  have hgw : w.grownBy w1 none := grow_trans (grow_drew (grow_alloc (grow_alloc (World.grownBy.refl _ _) _) _)) hg1
  clear hg1 hr'
  go_wp2_with fail
  refine (first_any [whenE (!K) 5, R1] _ _ _ _ (Blk.at_ _ rfl _ _) (by simp)).mono ?_
  rintro e w2 ⟨rfl, rfl⟩
  rw [← HE1.out]
  obtain ⟨w2, hw2⟩ : ∃ w2, w2 = w1.alloc (.cells (List.map (Value.int .i64) [whenE (!K) 5, R1]).toArray 33) := ⟨_, rfl⟩
  have hg2 : w1.grownBy w2 none := by rw [hw2]; exact grow_alloc (World.grownBy.refl _ _) _
  rw [← hw2]
  have hb0 := hb0.grown hg2 (by simp)
  have hb1 := hb1.grown hg2 (by simp)
  have hgw := grow_trans hgw hg2
  have hz := Nat.lt_of_lt_of_le (show w.heap.size + 1 < w1.heap.size by omega) hg2.size
  clear hw2 hg2
  by_cases hE0 : E1 = 0
  · have hpass := Hpass.out hE0
    have HP := Lib.hid hpass
    subst hE0
    clear hpass
    have h2 := hb0.cell_of (i := 2) (v := .int .i64 fr) rfl
    have h3 := hb0.cell_of (i := 3) (v := .int .i64 to_) rfl
    have h4 := hb0.cell_of (i := 4) (v := .slice (some ⟨b, off, none⟩) n c) rfl
    have g0 := hb1.cell_of (i := 0) (v := .string veh) rfl
    have g1 := hb1.cell_of (i := 1) (v := .int .i64 a1) rfl
    have g2 := hb1.cell_of (i := 2) (v := .string s1) rfl
    have g3 := hb1.cell_of (i := 3) (v := .int .i64 m1) rfl
    have g4 := hb1.cell_of (i := 4) (v := .int .i64 f1) rfl
    have g5 := hb1.cell_of (i := 5) (v := .int .i64 a2) rfl
    have g6 := hb1.cell_of (i := 6) (v := .string s2) rfl
    have g7 := hb1.cell_of (i := 7) (v := .int .i64 m2) rfl
    have g8 := hb1.cell_of (i := 8) (v := .int .i64 f2) rfl
    go_upto_if 27 with fail
    go_cut [] (fun wx => legPrevE fr (prevOf l i) ⟨veh, ⟨a1, s1, m1, f1⟩, ⟨a2, s2, m2, f2⟩⟩ = 0 ∧ w2.grownBy wx none)
    case first =>
      by_cases hi0 : i = 0
      · subst hi0
        have hq : (((0 : Nat) : Int) == 0) = true := rfl
        have hV : legPrevE fr (prevOf l 0) ⟨veh, ⟨a1, s1, m1, f1⟩, ⟨a2, s2, m2, f2⟩⟩ = if a1 = fr then 0 else 7 := rfl
        have HV := Lib.hid hV
        by_cases hf : a1 = fr
        · have hne : (a1 != fr) = false := by simpa using hf
          have HW := Lib.hid (show legPrevE fr (prevOf l 0) ⟨veh, ⟨a1, s1, m1, f1⟩, ⟨a2, s2, m2, f2⟩⟩ = 0 by rw [HV.out, if_pos hf])
          clear hV hf
          go_wp2_with fail
          go_meet
          exact ⟨HW.out, World.grownBy.refl _ _⟩
        · have hne : (a1 != fr) = true := by simpa using hf
          have HW := Lib.hid (show legPrevE fr (prevOf l 0) ⟨veh, ⟨a1, s1, m1, f1⟩, ⟨a2, s2, m2, f2⟩⟩ = 7 by rw [HV.out, if_neg hf])
          clear hV hf
          go_wp2_with fail
          go_ret
          exact ⟨ret_int (by rw [HP.out, HW.out]; rfl), hgw⟩
      · have hq : ((i : Int) == 0) = false := by simpa using hi0
        obtain ⟨⟨qveh, ⟨qa1, qs1, qm1, qf1⟩, ⟨qa2, qs2, qm2, qf2⟩⟩, hq1⟩ : ∃ q, l[i - 1]? = some q := ⟨_, List.getElem?_eq_getElem (by have := (List.getElem?_eq_some_iff.1 hi).1; omega)⟩
        have hpo : prevOf l i = some ⟨qveh, ⟨qa1, qs1, qm1, qf1⟩, ⟨qa2, qs2, qm2, qf2⟩⟩ := by simp [prevOf, hi0, hq1]
        have hrq0 := Hrg.out (i - 1) _ hq1
        have hrq : w.rangeAt b (off + (i - 1) * 9) [.string qveh, .int .i64 qa1, .string qs1, .int .i64 qm1, .int .i64 qf1, .int .i64 qa2, .string qs2, .int .i64 qm2, .int .i64 qf2] := hrq0
        have hki : (i : Int) - 1 = ((i - 1 : Nat) : Int) := by omega
        have hk1n : (i : Int) - 1 < (n : Int) := by omega
        have hr2 := rangeAt_grow hrq hbl hgw
        have hV : legPrevE fr (prevOf l i) ⟨veh, ⟨a1, s1, m1, f1⟩, ⟨a2, s2, m2, f2⟩⟩ = if a1 = qa2 then (if eqS veh qveh then 16 else if eqS s1 qs2 then 0 else 8) else 7 := by rw [hpo]; rfl
        have HV := Lib.hid hV
        clear hV hpo hrq hrq0 hq1 hi0
        go_wp2_with (with_reducible refine wpList_load_rng rfl 135 (.tmp 39) rfl b (off + (i - 1) * 9) rfl _ _ hr2 Tryz.underlying135 rfl 9 info_lg rfl ?_)
        · go_ret
          rename_i h1
          have h1' : ¬ a1 = qa2 := by simpa using h1
          exact ⟨ret_int (by rw [HP.out, HV.out, if_neg h1']; rfl), grow_alloc hgw _⟩
        · go_ret
          rename_i h1 h2
          have h1' : a1 = qa2 := by simpa using h1
          have h2' : eqS veh qveh = true := h2
          exact ⟨ret_int (by rw [HP.out, HV.out, if_pos h1', if_pos h2']; rfl), grow_alloc hgw _⟩
        · go_ret
          rename_i h1 h2 h3
          have h1' : a1 = qa2 := by simpa using h1
          have h2' : ¬ eqS veh qveh = true := by simpa [eqS] using h2
          have h3' : ¬ eqS s1 qs2 = true := by simpa [eqS] using h3
          exact ⟨ret_int (by rw [HP.out, HV.out, if_pos h1', if_neg h2', if_neg h3']; rfl), grow_alloc hgw _⟩
        · go_meet
          rename_i h1 h2 h3
          have h1' : a1 = qa2 := by simpa using h1
          have h2' : ¬ eqS veh qveh = true := by simpa [eqS] using h2
          have h3' : eqS s1 qs2 = true := by simpa [eqS] using h3
          exact ⟨by rw [HV.out, if_pos h1', if_neg h2', if_pos h3'], grow_alloc (World.grownBy.refl _ _) _⟩
    case rest =>
      obtain ⟨hp0, hg3⟩ := hcut
      obtain ⟨w3, hw3⟩ : ∃ w3 : World, w3 = wc := ⟨_, rfl⟩
      rw [← hw3] at hg3 ⊢
      clear hw3
      have hb0 := hb0.grown hg3 (by simp)
      have hb1 := hb1.grown hg3 (by simp)
      have hgw := grow_trans hgw hg3
      have HR := Lib.hid (show R = firstE [0, legInE (decide (i + 1 = n)) ⟨veh, ⟨a1, s1, m1, f1⟩, ⟨a2, s2, m2, f2⟩⟩] by rw [HP.out, hp0])
      have k4 := hb0.cell_of (i := 4) (v := .slice (some ⟨b, off, none⟩) n c) rfl
      have k1 := hb1.cell_of (i := 1) (v := .int .i64 a1) rfl
      have k5 := hb1.cell_of (i := 5) (v := .int .i64 a2) rfl
      have k6 := hb1.cell_of (i := 6) (v := .string s2) rfl
      have k7 := hb1.cell_of (i := 7) (v := .int .i64 m2) rfl
      have k8 := hb1.cell_of (i := 8) (v := .int .i64 f2) rfl
      clear hp0 HP h2 h3 h4 g0 g1 g2 g3 g4 g5 g6 g7 g8
      by_cases ha : a2 = -1
      · subst ha
        have hq := fun w => rd_neq (-1) s2 m2 f2 w
        obtain ⟨Z, hZ⟩ : ∃ Z, Z = rdOut ⟨-1, s2, m2, f2⟩ := ⟨_, rfl⟩
        rw [← hZ] at hq
        have HZ := Lib.hid hZ
        have hlt : decide ((i : Int) < (n : Int) - 1) = !decide (i + 1 = n) := by
          by_cases hl : i + 1 = n <;> simp [hl] <;> omega
        obtain ⟨L, hL⟩ : ∃ L, L = decide (i + 1 = n) := ⟨_, rfl⟩
        rw [← hL] at hlt HR
        clear hZ hL
        go_wp2_with fail
        refine wp_region_still_tail 12 (by kernel_rfl) (by kernel_rfl) ?_
        change wpStill _ _ (World.drew _) _ _ _
        simp only [List.take_succ_cons, List.take_zero, List.drop_succ_cons, List.drop_zero]
        repeat still_step
        still_call (flipw (when_any _ _ _))
        repeat still_step
        still_call (flipw (when_any _ _ _))
        repeat still_step
        refine wpStill_nil ?_
        change wpList _ _ _ _ _ (World.drew _)
        go_wp2_with fail
        refine (first_any [whenE Z 3, whenE (!L) 11] _ _ _ _ ((Blk.at_ _ rfl _ _).drew) (by simp)).mono ?_
        rintro e w4 ⟨rfl, rfl⟩
        go_wp2_with fail
        go_ret
        refine ⟨ret_int ?_, grow_drew (grow_alloc hgw _)⟩
        rw [HR.out, HZ.out]; simp [legInE, firstE_zero]
      · have hne : (a2 == -1) = false := by simpa using ha
        have hfin := fun (e : Int) (h : e = firstE [readingE ⟨a2, s2, m2, f2⟩, whenE (decide (a2 ≤ a1)) 7]) => (show e = R by rw [HR.out, h]; simp only [legInE, if_neg ha, firstE_zero])
        have Hfin := Lib.hid hfin
        clear hfin
        go_wp2_with fail
        go_region_held3 (fun wx => wx.cell? ⟨w.heap.size + 1, 1, none⟩ = some (.int .i64 a1) ∧ wx.cell? ⟨w.heap.size + 1, 5, none⟩ = some (.int .i64 a2) ∧ wx.cell? ⟨w.heap.size + 1, 6, none⟩ = some (.string s2) ∧ wx.cell? ⟨w.heap.size + 1, 7, none⟩ = some (.int .i64 m2) ∧ wx.cell? ⟨w.heap.size + 1, 8, none⟩ = some (.int .i64 f2))
          (first
            | exact ⟨k1, k5, k6, k7, k8⟩
            | exact q4
            | exact q5 _)
          (first
            | (go_at_call 174; refine (checkReading_any ⟨a2, s2, m2, f2⟩ _ Ho2.out).mono ?_; rintro e w4 ⟨rfl, hg4⟩; have hb2 : Blk w4 (w.heap.size + 1) 135 [.string veh, .int .i64 a1, .string s1, .int .i64 m1, .int .i64 f1, .int .i64 a2, .string s2, .int .i64 m2, .int .i64 f2] := (hb1.drewN 1).grown hg4 (by simp); have q5 := fun o => And.intro ((hb2.alloc o).cell_of (i := 1) (v := .int .i64 a1) rfl) (And.intro ((hb2.alloc o).cell_of (i := 5) (v := .int .i64 a2) rfl) (And.intro ((hb2.alloc o).cell_of (i := 6) (v := .string s2) rfl) (And.intro ((hb2.alloc o).cell_of (i := 7) (v := .int .i64 m2) rfl) ((hb2.alloc o).cell_of (i := 8) (v := .int .i64 f2) rfl)))); have q4 := And.intro (hb2.cell_of (i := 1) (v := .int .i64 a1) rfl) (And.intro (hb2.cell_of (i := 5) (v := .int .i64 a2) rfl) (And.intro (hb2.cell_of (i := 6) (v := .string s2) rfl) (And.intro (hb2.cell_of (i := 7) (v := .int .i64 m2) rfl) (hb2.cell_of (i := 8) (v := .int .i64 f2) rfl)))))
            | (go_at_call 68; refine (when_any _ _ _).mono ?_; rintro e w5 ⟨rfl, rfl⟩)
            | (go_at_call 67; refine (first_any [readingE ⟨a2, s2, m2, f2⟩, whenE (decide (a2 ≤ a1)) 7] _ _ _ _ (Blk.at_ _ rfl _ _) (by simp)).mono ?_; rintro e w6 ⟨rfl, rfl⟩))
        all_goals
          go_wp2_with fail
          go_ret
          exact ⟨ret_int (Hfin.out _ rfl), grow_alloc (grow_trans (grow_drew hgw) hg4) _⟩
  · have hne : (E1 != 0) = true := by simpa using hE0
    have HR := Lib.hid (Hstop.out hE0)
    clear hE0
    go_wp2_with fail
    go_ret
    exact ⟨ret_int HR.out.symm, hgw⟩
end Go.Proofs.YtempjmpfdniecaaGreatDoor
namespace Go.Proofs.YtempjmpfdniecaaGreatDoor
open Go.RowKit
set_option maxRecDepth 100000 in
set_option maxHeartbeats 1000000 in
theorem timeFault_any (a b : Int) (w : World) :
    Calls Tryz.prog 299 #[.agg #[.int .i64 a, .int .i64 b]] w (GotE w (timeE a b)) := by
  by_cases h : a < 0 ∨ b ≤ a ∨ 5761439 < b
  · have HE := Lib.hid (show timeE a b = 1 by unfold timeE; rw [if_pos h])
    by_cases h1 : a < 0
    · clear h
      go_enter Tryz.func299, Tryz.ntmps299
      go_wp2_with fail
      go_ret
      exact ⟨ret_int HE.out.symm, grow_alloc (World.grownBy.refl _ _) _⟩
    · by_cases h2 : b ≤ a
      · clear h
        have d1 : decide (a < 0) = false := by simp; omega
        go_enter Tryz.func299, Tryz.ntmps299
        go_wp2_with fail
        go_ret
        exact ⟨ret_int HE.out.symm, grow_alloc (World.grownBy.refl _ _) _⟩
      · have h3 : 5761439 < b := by omega
        have d1 : decide (a < 0) = false := by simp; omega
        have d2 : decide (b ≤ a) = false := by simp; omega
        clear h
        go_enter Tryz.func299, Tryz.ntmps299
        go_wp2_with fail
        go_ret
        exact ⟨ret_int HE.out.symm, grow_alloc (World.grownBy.refl _ _) _⟩
  · have hE : timeE a b = whenE (decide (120 < daysV a b)) 2 := by unfold timeE; rw [if_neg h]
    have h1 : 0 ≤ a := by omega
    have h2 : a < b := by omega
    have h3 : b ≤ 5761439 := by omega
    have d1 : decide (a < 0) = false := by simp; omega
    have d2 : decide (b ≤ a) = false := by simp; omega
    have d3 : decide (5761439 < b) = false := by simp; omega
    clear h
    by_cases h4 : 172800 < b - a
    · have HE := Lib.hid (show timeE a b = 2 by rw [hE, decide_eq_true (show 120 < daysV a b by unfold daysV; omega)]; rfl)
      clear hE
      go_enter Tryz.func299, Tryz.ntmps299
      go_wp2_with fail
      go_ret
      exact ⟨ret_int HE.out.symm, grow_alloc (World.grownBy.refl _ _) _⟩
    · have HE := Lib.hid (show timeE a b = 0 by rw [hE, decide_eq_false (show ¬ 120 < daysV a b by unfold daysV; omega)]; rfl)
      clear hE
      go_enter Tryz.func299, Tryz.ntmps299
      go_wp2_with fail
      go_ret
      exact ⟨ret_int HE.out.symm, grow_alloc (World.grownBy.refl _ _) _⟩
set_option maxRecDepth 100000 in
set_option maxHeartbeats 1000000 in
theorem readingFault_any (r : Rd) (w : World) (hok : RdOk r) :
    Calls Tryz.prog 333 #[.agg (rdCells r).toArray] w (GotE w (readingE r)) := by
  obtain ⟨at_, st, meter, fuel⟩ := r
  have hst : st.size ≤ 1000000 := hok
  obtain ⟨M, hM⟩ : ∃ M, inB at_ 0 5761439 = M := ⟨_, rfl⟩
  obtain ⟨K, hK⟩ : ∃ K, keyB st = K := ⟨_, rfl⟩
  obtain ⟨I, hI⟩ : ∃ I, inB meter 0 999999 = I := ⟨_, rfl⟩
  obtain ⟨J, hJ⟩ : ∃ J, inB fuel 0 8 = J := ⟨_, rfl⟩
  have HE := Lib.hid (show readingE ⟨at_, st, meter, fuel⟩ = firstE [whenE (!M) 1, whenE (!K) 5, whenE (!I || !J) 1] by rw [← hM, ← hK, ← hI, ← hJ]; rfl)
  have CM := Lib.hid (fun w => (by rw [← hM]; exact rmoment_any _ _ : Calls Tryz.prog 198 #[.int .i64 at_] w fun e w' => e = .returned (.bool M) ∧ w = w'))
  have CK := Lib.hid (fun w => (by rw [← hK]; exact key_any _ _ (by omega) : Calls Tryz.prog 197 #[.string st] w fun e w' => e = .returned (.bool K) ∧ w.grownBy w' none))
  have CI := Lib.hid (fun w => (by rw [← hI]; exact rin_any _ _ _ _ : Calls Tryz.prog 154 #[.int .i64 meter, .int .i64 0, .int .i64 999999] w fun e w' => e = .returned (.bool I) ∧ w = w'))
  have CJ := Lib.hid (fun w => (by rw [← hJ]; exact rin_any _ _ _ _ : Calls Tryz.prog 154 #[.int .i64 fuel, .int .i64 0, .int .i64 8] w fun e w' => e = .returned (.bool J) ∧ w = w'))
  clear hM hK hI hJ hok
  show Calls Tryz.prog 333 #[.agg #[.int .i64 at_, .string st, .int .i64 meter, .int .i64 fuel]] w _
  go_enter Tryz.func333, Tryz.ntmps333
  go_wp2_with fail
  refine (CM.out _).mono ?_
  rintro e w1 ⟨rfl, rfl⟩
  cases M
  · go_wp2_with fail
    go_ret
    exact ⟨ret_int (by rw [HE.out]; rfl), grow_alloc (World.grownBy.refl _ _) _⟩
  · go_wp2_with fail
    refine (CK.out _).mono ?_
    rintro e w1 ⟨rfl, hg1⟩
    cases K
    · go_wp2_with fail
      go_ret
      exact ⟨ret_int (by rw [HE.out]; rfl), grow_trans (grow_alloc (World.grownBy.refl _ _) _) hg1⟩
    · have hb := (Blk.at_ w rfl 48 [.int .i64 at_, .string st, .int .i64 meter, .int .i64 fuel]).grown hg1 (by simp)
      have c2 := hb.cell_of (i := 2) (v := .int .i64 meter) rfl
      have c3 := hb.cell_of (i := 3) (v := .int .i64 fuel) rfl
      go_wp2_with fail
      refine (CI.out _).mono ?_
      rintro e w2 ⟨rfl, rfl⟩
      cases I
      · go_wp2_with fail
        go_ret
        exact ⟨ret_int (by rw [HE.out]; rfl), grow_trans (grow_alloc (World.grownBy.refl _ _) _) hg1⟩
      · go_wp2_with fail
        refine (CJ.out _).mono ?_
        rintro e w2 ⟨rfl, rfl⟩
        cases J
        all_goals
          go_wp2_with fail
          go_ret
          exact ⟨ret_int (by rw [HE.out]; rfl), grow_trans (grow_alloc (World.grownBy.refl _ _) _) hg1⟩
end Go.Proofs.YtempjmpfdniecaaGreatDoor
namespace Go.Proofs.YtempjmpfdniecaaGreatDoor
open Go.RowKit
set_option maxRecDepth 100000 in
set_option maxHeartbeats 1000000 in
theorem legFault_any (key driver : ByteArray) (fr to_ : Int) (l : List Lg) (A : Option Addr) (n c i : Nat) (g : Lg) (w : World) (hl : SlT lgEnc 9 135 w A n l) (hi : l[i]? = some g) (hok : ∀ g ∈ l, LgOk g) (hn : n ≤ 1000000) :
    Calls Tryz.prog 300 #[.agg #[.string key, .string driver, .int .i64 fr, .int .i64 to_, .slice A n c], .int .i64 (i : Int)] w (GotE w (legE fr (prevOf l i) (decide (i + 1 = n)) g)) := by
  have hin : i < n := by have := (List.getElem?_eq_some_iff.1 hi).1; have := hl.len; omega
  obtain ⟨b, off, rfl, hbl, hrg⟩ := hl.get (by omega)
  have hgo := hok g (List.mem_of_getElem? hi)
  have hr0 := hrg i g hi
  obtain ⟨R, hR⟩ : ∃ R, R = legE fr (prevOf l i) (decide (i + 1 = n)) g := ⟨_, rfl⟩
  rw [← hR]
  obtain ⟨veh, ⟨a1, s1, m1, f1⟩, ⟨a2, s2, m2, f2⟩⟩ := g
  obtain ⟨K, hK⟩ : ∃ K, keyB veh = K := ⟨_, rfl⟩
  obtain ⟨R1, hR1⟩ : ∃ R1, readingE ⟨a1, s1, m1, f1⟩ = R1 := ⟨_, rfl⟩
  obtain ⟨R2, hR2⟩ : ∃ R2, readingE ⟨a2, s2, m2, f2⟩ = R2 := ⟨_, rfl⟩
  have HR0 := Lib.hid (show R = firstE [whenE (!K) 5, R1, legPrevE fr (prevOf l i) ⟨veh, ⟨a1, s1, m1, f1⟩, ⟨a2, s2, m2, f2⟩⟩, legInE (decide (i + 1 = n)) ⟨veh, ⟨a1, s1, m1, f1⟩, ⟨a2, s2, m2, f2⟩⟩] by rw [hR, ← hK, ← hR1]; rfl)
  have HIn := Lib.hid (show a2 ≠ -1 → legInE (decide (i + 1 = n)) ⟨veh, ⟨a1, s1, m1, f1⟩, ⟨a2, s2, m2, f2⟩⟩ = firstE [R2, whenE (decide (a2 ≤ a1)) 7] from fun h => by rw [← hR2]; simp only [legInE, if_neg h])
  have CK := Lib.hid (fun w => (by rw [← hK]; exact key_any _ _ (by have := hgo.1; simp at this; omega) : Calls Tryz.prog 197 #[.string veh] w fun e w' => e = .returned (.bool K) ∧ w.grownBy w' none))
  have C1 := Lib.hid (fun w => (by rw [← hR1]; exact readingFault_any ⟨a1, s1, m1, f1⟩ _ hgo.2.1 : Calls Tryz.prog 333 #[.agg #[.int .i64 a1, .string s1, .int .i64 m1, .int .i64 f1]] w (GotE w R1)))
  have C2 := Lib.hid (fun w => (by rw [← hR2]; exact readingFault_any ⟨a2, s2, m2, f2⟩ _ hgo.2.2 : Calls Tryz.prog 333 #[.agg #[.int .i64 a2, .string s2, .int .i64 m2, .int .i64 f2]] w (GotE w R2)))
  have hr : w.rangeAt b (off + i * 9) [.string veh, .int .i64 a1, .string s1, .int .i64 m1, .int .i64 f1, .int .i64 a2, .string s2, .int .i64 m2, .int .i64 f2] := hr0
  have Hrg := Lib.hid hrg
  have hr' := fun (o : Obj) => (show (w.alloc o).rangeAt b (off + i * 9) [.string veh, .int .i64 a1, .string s1, .int .i64 m1, .int .i64 f1, .int .i64 a2, .string s2, .int .i64 m2, .int .i64 f2] from fun j v hv => (World.cell?_alloc_lt w o _ hbl).trans (hr j v hv))
  clear hrg hr0 hr hgo hR hK hR1 hR2
  go_enter Tryz.func300, Tryz.ntmps300
  go_wp2_with (with_reducible refine wpList_load_rng rfl 135 (.tmp 12) rfl b (off + i * 9) rfl _ _ (hr' _) Tryz.underlying135 rfl 9 info_lg rfl ?_)
  refine (CK.out _).mono ?_
  rintro e w1 ⟨rfl, hg1⟩
  have hb0 : Blk w1 w.heap.size 30 [.string key, .string driver, .int .i64 fr, .int .i64 to_, .slice (some ⟨b, off, none⟩) n c] := ((Blk.at_ w rfl _ _).alloc _).grown hg1 (by simp)
  have hb1 : Blk w1 (w.heap.size + 1) 135 [.string veh, .int .i64 a1, .string s1, .int .i64 m1, .int .i64 f1, .int .i64 a2, .string s2, .int .i64 m2, .int .i64 f2] := (Blk.at_ (w.alloc _) (by simp) _ _).grown hg1 (by simp)
  have hgw : w.grownBy w1 none := grow_trans (grow_alloc (grow_alloc (World.grownBy.refl _ _) _) _) hg1
  clear hg1 hr'
  cases K
  · go_wp2_with fail
    go_ret
    exact ⟨ret_int (by rw [HR0.out]; rfl), hgw⟩
  have g1 := hb1.cell_of (i := 1) (v := .int .i64 a1) rfl
  have g2 := hb1.cell_of (i := 2) (v := .string s1) rfl
  have g3 := hb1.cell_of (i := 3) (v := .int .i64 m1) rfl
  have g4 := hb1.cell_of (i := 4) (v := .int .i64 f1) rfl
  go_wp2_with fail
  refine (C1.out _).mono ?_
  rintro e w2 ⟨rfl, hg2⟩
  have hb0 := hb0.grown hg2 (by simp)
  have hb1 := hb1.grown hg2 (by simp)
  have hgw := grow_trans hgw hg2
  clear hg2 g1 g2 g3 g4
  by_cases hE0 : R1 = 0
  · subst hE0
    have HP := Lib.hid (show R = firstE [legPrevE fr (prevOf l i) ⟨veh, ⟨a1, s1, m1, f1⟩, ⟨a2, s2, m2, f2⟩⟩, legInE (decide (i + 1 = n)) ⟨veh, ⟨a1, s1, m1, f1⟩, ⟨a2, s2, m2, f2⟩⟩] by rw [HR0.out]; rfl)
    have h2 := hb0.cell_of (i := 2) (v := .int .i64 fr) rfl
    have h3 := hb0.cell_of (i := 3) (v := .int .i64 to_) rfl
    have h4 := hb0.cell_of (i := 4) (v := .slice (some ⟨b, off, none⟩) n c) rfl
    have g0 := hb1.cell_of (i := 0) (v := .string veh) rfl
    have g1 := hb1.cell_of (i := 1) (v := .int .i64 a1) rfl
    have g2 := hb1.cell_of (i := 2) (v := .string s1) rfl
    have g3 := hb1.cell_of (i := 3) (v := .int .i64 m1) rfl
    have g4 := hb1.cell_of (i := 4) (v := .int .i64 f1) rfl
    have g5 := hb1.cell_of (i := 5) (v := .int .i64 a2) rfl
    have g6 := hb1.cell_of (i := 6) (v := .string s2) rfl
    have g7 := hb1.cell_of (i := 7) (v := .int .i64 m2) rfl
    have g8 := hb1.cell_of (i := 8) (v := .int .i64 f2) rfl
    have hz2 := hb1.lt
    go_upto_if 25 with fail
    go_cut [] (fun wx => legPrevE fr (prevOf l i) ⟨veh, ⟨a1, s1, m1, f1⟩, ⟨a2, s2, m2, f2⟩⟩ = 0 ∧ w2.grownBy wx none)
    case first =>
      by_cases hi0 : i = 0
      · subst hi0
        have hq : (((0 : Nat) : Int) == 0) = true := rfl
        have hV : legPrevE fr (prevOf l 0) ⟨veh, ⟨a1, s1, m1, f1⟩, ⟨a2, s2, m2, f2⟩⟩ = if a1 = fr then 0 else 7 := rfl
        have HV := Lib.hid hV
        by_cases hf : a1 = fr
        · have hne : (a1 != fr) = false := by simpa using hf
          have HW := Lib.hid (show legPrevE fr (prevOf l 0) ⟨veh, ⟨a1, s1, m1, f1⟩, ⟨a2, s2, m2, f2⟩⟩ = 0 by rw [HV.out, if_pos hf])
          clear hV hf
          go_wp2_with fail
          go_meet
          exact ⟨HW.out, World.grownBy.refl _ _⟩
        · have hne : (a1 != fr) = true := by simpa using hf
          have HW := Lib.hid (show legPrevE fr (prevOf l 0) ⟨veh, ⟨a1, s1, m1, f1⟩, ⟨a2, s2, m2, f2⟩⟩ = 7 by rw [HV.out, if_neg hf])
          clear hV hf
          go_wp2_with fail
          go_ret
          exact ⟨ret_int (by rw [HP.out, HW.out]; rfl), hgw⟩
      · have hq : ((i : Int) == 0) = false := by simpa using hi0
        obtain ⟨⟨qveh, ⟨qa1, qs1, qm1, qf1⟩, ⟨qa2, qs2, qm2, qf2⟩⟩, hq1⟩ : ∃ q, l[i - 1]? = some q := ⟨_, List.getElem?_eq_getElem (by have := (List.getElem?_eq_some_iff.1 hi).1; omega)⟩
        have hpo : prevOf l i = some ⟨qveh, ⟨qa1, qs1, qm1, qf1⟩, ⟨qa2, qs2, qm2, qf2⟩⟩ := by simp [prevOf, hi0, hq1]
        have hrq0 := Hrg.out (i - 1) _ hq1
        have hrq : w.rangeAt b (off + (i - 1) * 9) [.string qveh, .int .i64 qa1, .string qs1, .int .i64 qm1, .int .i64 qf1, .int .i64 qa2, .string qs2, .int .i64 qm2, .int .i64 qf2] := hrq0
        have hki : (i : Int) - 1 = ((i - 1 : Nat) : Int) := by omega
        have hk1n : (i : Int) - 1 < (n : Int) := by omega
        have hr2 := rangeAt_grow hrq hbl hgw
        have hV : legPrevE fr (prevOf l i) ⟨veh, ⟨a1, s1, m1, f1⟩, ⟨a2, s2, m2, f2⟩⟩ = if a1 = qa2 then (if eqS veh qveh then 16 else if eqS s1 qs2 then 0 else 8) else 7 := by rw [hpo]; rfl
        have HV := Lib.hid hV
        clear hV hpo hrq hrq0 hq1 hi0
        go_wp2_with (with_reducible refine wpList_load_rng rfl 135 (.tmp 37) rfl b (off + (i - 1) * 9) rfl _ _ hr2 Tryz.underlying135 rfl 9 info_lg rfl ?_)
        · go_ret
          rename_i h1
          have h1' : ¬ a1 = qa2 := by simpa using h1
          exact ⟨ret_int (by rw [HP.out, HV.out, if_neg h1']; rfl), grow_alloc hgw _⟩
        · go_ret
          rename_i h1 h2
          have h1' : a1 = qa2 := by simpa using h1
          have h2' : eqS veh qveh = true := h2
          exact ⟨ret_int (by rw [HP.out, HV.out, if_pos h1', if_pos h2']; rfl), grow_alloc hgw _⟩
        · go_ret
          rename_i h1 h2 h3
          have h1' : a1 = qa2 := by simpa using h1
          have h2' : ¬ eqS veh qveh = true := by simpa [eqS] using h2
          have h3' : ¬ eqS s1 qs2 = true := by simpa [eqS] using h3
          exact ⟨ret_int (by rw [HP.out, HV.out, if_pos h1', if_neg h2', if_neg h3']; rfl), grow_alloc hgw _⟩
        · go_meet
          rename_i h1 h2 h3
          have h1' : a1 = qa2 := by simpa using h1
          have h2' : ¬ eqS veh qveh = true := by simpa [eqS] using h2
          have h3' : eqS s1 qs2 = true := by simpa [eqS] using h3
          exact ⟨by rw [HV.out, if_pos h1', if_neg h2', if_pos h3'], grow_alloc (World.grownBy.refl _ _) _⟩
    case rest =>
      obtain ⟨hp0, hg3⟩ := hcut
      obtain ⟨w3, hw3⟩ : ∃ w3 : World, w3 = wc := ⟨_, rfl⟩
      rw [← hw3] at hg3 ⊢
      clear hw3
      have hb0 := hb0.grown hg3 (by simp)
      have hb1 := hb1.grown hg3 (by simp)
      have hgw := grow_trans hgw hg3
      have HR := Lib.hid (show R = firstE [0, legInE (decide (i + 1 = n)) ⟨veh, ⟨a1, s1, m1, f1⟩, ⟨a2, s2, m2, f2⟩⟩] by rw [HP.out, hp0])
      have k4 := hb0.cell_of (i := 4) (v := .slice (some ⟨b, off, none⟩) n c) rfl
      have k1 := hb1.cell_of (i := 1) (v := .int .i64 a1) rfl
      have k5 := hb1.cell_of (i := 5) (v := .int .i64 a2) rfl
      have k6 := hb1.cell_of (i := 6) (v := .string s2) rfl
      have k7 := hb1.cell_of (i := 7) (v := .int .i64 m2) rfl
      have k8 := hb1.cell_of (i := 8) (v := .int .i64 f2) rfl
      clear hp0 HP h2 h3 h4 g0 g1 g2 g3 g4 g5 g6 g7 g8
      by_cases ha : a2 = -1
      · subst ha
        have hq := fun w => rd_neq (-1) s2 m2 f2 w
        obtain ⟨Z, hZ⟩ : ∃ Z, Z = rdOut ⟨-1, s2, m2, f2⟩ := ⟨_, rfl⟩
        rw [← hZ] at hq
        have HZ := Lib.hid hZ
        have hlt : decide ((i : Int) < (n : Int) - 1) = !decide (i + 1 = n) := by
          by_cases hl : i + 1 = n <;> simp [hl] <;> omega
        obtain ⟨L, hL⟩ : ∃ L, L = decide (i + 1 = n) := ⟨_, rfl⟩
        rw [← hL] at hlt HR
        clear hZ hL
        cases Z
        · cases L
          all_goals
            go_wp2_with fail
            go_ret
            exact ⟨ret_int (by rw [HR.out]; simp [legInE, firstE_zero, ← HZ.out, whenE]), hgw⟩
        · go_wp2_with fail
          go_ret
          exact ⟨ret_int (by rw [HR.out]; simp [legInE, ← HZ.out, whenE, firstE]), hgw⟩
      · have hne : (a2 == -1) = false := by simpa using ha
        have hfin := HIn.out ha
        rw [hfin, firstE_zero] at HR
        clear hfin ha
        go_wp2_with fail
        refine (C2.out _).mono ?_
        rintro e w4 ⟨rfl, hg4⟩
        have hb4 := hb1.grown hg4 (by simp)
        have q1 := hb4.cell_of (i := 1) (v := .int .i64 a1) rfl
        have q5 := hb4.cell_of (i := 5) (v := .int .i64 a2) rfl
        by_cases h2 : R2 = 0
        · subst h2
          by_cases hle : a2 ≤ a1
          · have HF := Lib.hid (show R = 7 by rw [HR.out, decide_eq_true hle]; rfl)
            go_wp2_with fail
            go_ret
            exact ⟨ret_int HF.out.symm, grow_trans hgw hg4⟩
          · have HF := Lib.hid (show R = 0 by rw [HR.out, decide_eq_false hle]; rfl)
            go_wp2_with fail
            go_ret
            exact ⟨ret_int HF.out.symm, grow_trans hgw hg4⟩
        · have hne2 : (R2 != 0) = true := by simpa using h2
          have HF := Lib.hid (show R = R2 by rw [HR.out]; simp only [firstE]; rw [if_neg h2])
          clear h2
          go_wp2_with fail
          go_ret
          exact ⟨ret_int HF.out.symm, grow_trans hgw hg4⟩
  · have hne : (R1 != 0) = true := by simpa using hE0
    have HF := Lib.hid (show R = R1 by rw [HR0.out]; simp only [whenE, firstE]; simp [hE0])
    clear hE0
    go_wp2_with fail
    go_ret
    exact ⟨ret_int HF.out.symm, hgw⟩
end Go.Proofs.YtempjmpfdniecaaGreatDoor
namespace Go.Proofs.YtempjmpfdniecaaGreatDoor
open Go.RowKit
theorem legs_at {fr : Int} {l : List Lg} {k : Nat} {g : Lg} (h : l[k]? = some g) :
    legsE fr l (l.length - k) = if legE fr (prevOf l k) (decide (k + 1 = l.length)) g = 0 then legsE fr l (l.length - (k + 1)) else legE fr (prevOf l k) (decide (k + 1 = l.length)) g := by
  have hk := (List.getElem?_eq_some_iff.1 h).1
  obtain ⟨m, hm⟩ : ∃ m, l.length - k = m + 1 := ⟨l.length - k - 1, by omega⟩
  have hm2 : l.length - (k + 1) = m := by omega
  have hm3 : l.length - (m + 1) = k := by omega
  rw [hm, hm2]
  simp only [legsE, hm3, h]
  have : decide (m = 0) = decide (k + 1 = l.length) := by
    by_cases h : k + 1 = l.length <;> simp [h] <;> omega
  rw [this]
def HrOk (key driver : ByteArray) (l : List Lg) : Prop := key.size ≤ 1000000 ∧ driver.size ≤ 1000000 ∧ ∀ g ∈ l, LgOk g
theorem hireE_stop {key driver : ByteArray} {fr to_ : Int} {l : List Lg} {e : Int} (h : e = firstE [whenE (!keyB key || !keyB driver) 5, timeE fr to_]) (hne : e ≠ 0) : hireE ⟨key, driver, fr, to_, l⟩ = e := by
  unfold hireE
  simp only [firstE] at h ⊢
  split
  · rename_i h1
    rw [if_pos h1] at h
    split
    · rename_i h2
      rw [if_pos h2] at h
      exact absurd h hne
    · rename_i h2
      rw [if_neg h2] at h
      exact h.symm
  · rename_i h1
    rw [if_neg h1] at h
    exact h.symm
theorem firstE_pad (X : Int) : firstE [0, 0, X] = X := by
  show firstE [X] = X
  by_cases h : X = 0
  · rw [h]; rfl
  · simp [firstE, h]
theorem hireE_pass {key driver : ByteArray} {fr to_ : Int} {l : List Lg} (h : 0 = firstE [whenE (!keyB key || !keyB driver) 5, timeE fr to_]) : hireE ⟨key, driver, fr, to_, l⟩ = if l.length = 0 then 3 else if 20 < l.length then 2 else legsE fr l l.length := by
  have := firstE_two h.symm
  unfold hireE
  simp only [this.1, this.2]
  exact firstE_pad _
set_option maxRecDepth 100000 in
set_option maxHeartbeats 4000000 in
theorem hcheck_any (key driver : ByteArray) (fr to_ : Int) (l : List Lg) (A : Option Addr) (n c : Nat) (w : World) (hl : SlT lgEnc 9 135 w A n l) (hok : HrOk key driver l) (hn : n ≤ 1000000) :
    Calls Tryz.prog 12 #[.agg #[.string key, .string driver, .int .i64 fr, .int .i64 to_, .slice A n c]] w (GotE w (hireE ⟨key, driver, fr, to_, l⟩)) := by
  obtain ⟨E1, hE1⟩ : ∃ E, E = firstE [whenE (!keyB key || !keyB driver) 5, timeE fr to_] := ⟨_, rfl⟩
  have Hstop := Lib.hid (fun (h : E1 ≠ 0) => hireE_stop (l := l) hE1 h)
  have Hpass := Lib.hid (fun (h : E1 = 0) => hireE_pass (l := l) (h.symm.trans hE1))
  have Hl := Lib.hid hl.len
  have cK : ∀ w, Calls Tryz.prog 69 #[.string key] w fun e w' => e = .returned (.bool (keyB key)) ∧ w' = w := fun w => flipw (isKey_any _ _ (by have := hok.1; omega))
  have cD : ∀ w, Calls Tryz.prog 69 #[.string driver] w fun e w' => e = .returned (.bool (keyB driver)) ∧ w' = w := fun w => flipw (isKey_any _ _ (by have := hok.2.1; omega))
  have Hok := Lib.hid hok.2.2
  generalize keyB key = K at cK hE1
  generalize keyB driver = D at cD hE1
  obtain ⟨R, hR⟩ : ∃ R, R = hireE ⟨key, driver, fr, to_, l⟩ := ⟨_, rfl⟩
  rw [← hR] at Hstop Hpass ⊢
  have CK := Lib.hid cK
  have CD := Lib.hid cD
  have HE1 := Lib.hid hE1
  clear cK cD hE1 hR hok
  obtain ⟨T, hT⟩ : ∃ T, T = timeE fr to_ := ⟨_, rfl⟩
  have cT : ∀ w, Calls Tryz.prog 70 #[.agg #[.int .i64 fr, .int .i64 to_]] w (GotE w T) := fun w => by rw [hT]; exact time_any _ _ _
  have CT := Lib.hid cT
  rw [← hT] at HE1
  clear cT hT
  go_enter Tryz.func12, Tryz.ntmps12
  go_wp2_with fail
  have hB : Blk (w.alloc (.cells #[.string key, .string driver, .int .i64 fr, .int .i64 to_, .slice A n c] 30)) w.heap.size 30 [.string key, .string driver, .int .i64 fr, .int .i64 to_, .slice A n c] := Blk.at_ w rfl _ _
  have k0 := hB.cell_of (i := 0) (v := .string key) rfl
  have k1 := hB.cell_of (i := 1) (v := .string driver) rfl
  have k2 := hB.cell_of (i := 2) (v := .int .i64 fr) rfl
  have k3 := hB.cell_of (i := 3) (v := .int .i64 to_) rfl
  go_upto_region 1 with fail
  go_cut [3] (fun v wx => v = .int .i64 E1 ∧ (w.alloc (.cells #[.string key, .string driver, .int .i64 fr, .int .i64 to_, .slice A n c] 30)).grownBy wx none)
  case first =>
    cases K
    · first | go_region_with (first
        | (go_at_call 70; refine (CT.out _).mono ?_; rintro e w4 ⟨rfl, hg4⟩)
        | (go_at_call 69; with_reducible refine (CK.out _).mono ?_; rintro e w3 ⟨rfl, rfl⟩)
        | (go_at_call 69; with_reducible refine (CD.out _).mono ?_; rintro e w3 ⟨rfl, rfl⟩)
        | (go_at_call 68; refine (when_any _ _ _).mono ?_; rintro e w5 ⟨rfl, rfl⟩)
        | (go_at_call 67; refine (first_any [whenE true 5, T] _ _ _ _ (Blk.at_ _ rfl _ _) (by simp)).mono ?_; rintro e w6 ⟨rfl, rfl⟩)) | fail
      all_goals
        go_wp2_with fail
        go_meet
        exact ⟨ret_val (by rw [HE1.out]; rfl), grow_alloc (grow_trans (grow_drew (World.grownBy.refl _ _)) hg4) _⟩
    · go_region_held3 (fun wx => wx.cell? ⟨w.heap.size, 0, none⟩ = some (.string key) ∧ wx.cell? ⟨w.heap.size, 1, none⟩ = some (.string driver) ∧ wx.cell? ⟨w.heap.size, 2, none⟩ = some (.int .i64 fr) ∧ wx.cell? ⟨w.heap.size, 3, none⟩ = some (.int .i64 to_))
        (first
          | exact ⟨k0, k1, k2, k3⟩
          | exact q4
          | exact q5 _)
        (first
          | (go_at_call 70; refine (CT.out _).mono ?_; rintro e w4 ⟨rfl, hg4⟩; have hb2 := (hB.drewN 1).grown hg4 (by simp); have q5 := fun o => And.intro ((hb2.alloc o).cell_of (i := 0) (v := .string key) rfl) (And.intro ((hb2.alloc o).cell_of (i := 1) (v := .string driver) rfl) (And.intro ((hb2.alloc o).cell_of (i := 2) (v := .int .i64 fr) rfl) ((hb2.alloc o).cell_of (i := 3) (v := .int .i64 to_) rfl))); have q4 := And.intro (hb2.cell_of (i := 0) (v := .string key) rfl) (And.intro (hb2.cell_of (i := 1) (v := .string driver) rfl) (And.intro (hb2.cell_of (i := 2) (v := .int .i64 fr) rfl) (hb2.cell_of (i := 3) (v := .int .i64 to_) rfl))))
          | (go_at_call 69; with_reducible refine (CK.out _).mono ?_; rintro e w3 ⟨rfl, rfl⟩)
          | (go_at_call 69; with_reducible refine (CD.out _).mono ?_; rintro e w3 ⟨rfl, rfl⟩)
          | (go_at_call 68; refine (when_any _ _ _).mono ?_; rintro e w5 ⟨rfl, rfl⟩)
          | (go_at_call 67; refine (first_any [whenE (!D) 5, T] _ _ _ _ (Blk.at_ _ rfl _ _) (by simp)).mono ?_; rintro e w6 ⟨rfl, rfl⟩))
      all_goals
        go_wp2_with fail
        go_meet
        exact ⟨ret_val (by rw [HE1.out]; rfl), grow_alloc (grow_trans (grow_drew (World.grownBy.refl _ _)) hg4) _⟩
  case rest =>
    obtain ⟨rfl, hg1⟩ := hcut
    obtain ⟨w1, hw1⟩ : ∃ w1 : World, w1 = wc := ⟨_, rfl⟩
    rw [← hw1] at hg1 ⊢
    clear hw1 k0 k1 k2 k3
    have hb := hB.grown hg1 (by simp)
    have hgw : w.grownBy w1 none := grow_trans (grow_alloc (World.grownBy.refl _ _) _) hg1
    clear hg1 hB
    by_cases h0 : E1 = 0
    · have HP := Lib.hid (Hpass.out h0)
      subst h0
      have k4 := hb.cell_of (i := 4) (v := .slice A n c) rfl
      by_cases hn0 : n = 0
      · have hq : ((n : Int) == 0) = true := by simpa using hn0
        have HF := Lib.hid (show R = 3 by rw [HP.out, if_pos (by rw [Hl.out]; exact hn0)])
        clear hn0
        go_wp2_with fail
        go_ret
        exact ⟨ret_int HF.out.symm, hgw⟩
      · have hq : ((n : Int) == 0) = false := by simpa using hn0
        by_cases h20 : 20 < n
        · have hq2 : decide ((20 : Int) < (n : Int)) = true := by simp; omega
          have hq3 : decide (20 < n) = true := by simpa using h20
          have HF := Lib.hid (show R = 2 by rw [HP.out, if_neg (by rw [Hl.out]; exact hn0), if_pos (by rw [Hl.out]; exact h20)])
          clear hn0
          go_wp2_with fail
          go_ret
          exact ⟨ret_int HF.out.symm, hgw⟩
        · have hq2 : decide ((20 : Int) < (n : Int)) = false := by simp; omega
          have hq3 : decide (20 < n) = false := by simpa using h20
          have HF := Lib.hid (show R = legsE fr l (l.length - 0) by rw [HP.out, if_neg (by rw [Hl.out]; exact hn0), if_neg (by rw [Hl.out]; exact h20)]; rfl)
          clear hn0 HP
          have hn20 : n ≤ 20 := by omega
          go_wp2_with fail
          go_loopw [38] (fun i wr => ∃ k : Nat, k ≤ n ∧ i = .int .i64 k ∧ R = legsE fr l (l.length - k) ∧ w1.grownBy wr none) (fun i _ => n - (intOf i).toNat)
          case atStart => exact ⟨0, Nat.zero_le _, rfl, HF.out, World.grownBy.refl _ _⟩
          case round =>
            obtain ⟨k, hk, rfl, hE, hgr⟩ := hrel
            have HE := Lib.hid hE; clear hE
            by_cases hlt : k < n
            · have hlr := hl.grow0 (grow_trans hgw hgr)
              obtain ⟨g, hg⟩ : ∃ g, l[k]? = some g := ⟨_, List.getElem?_eq_getElem (by have := Hl.out; omega)⟩
              have hat := legs_at (fr := fr) hg
              obtain ⟨E, hEE⟩ : ∃ E, E = legE fr (prevOf l k) (decide (k + 1 = n)) g := ⟨_, rfl⟩
              rw [Hl.out, ← hEE] at hat
              rw [Hl.out] at HE
              have Hat := Lib.hid hat; clear hat
              have HEE := Lib.hid hEE; clear hEE
              have hbr := hb.grown hgr (by simp)
              have c0 := hbr.cell_of (i := 0) (v := .string key) rfl
              have c1 := hbr.cell_of (i := 1) (v := .string driver) rfl
              have c2 := hbr.cell_of (i := 2) (v := .int .i64 fr) rfl
              have c3 := hbr.cell_of (i := 3) (v := .int .i64 to_) rfl
              have c4 := hbr.cell_of (i := 4) (v := .slice A n c) rfl
              have Hg := Lib.hid hg
              clear hg
              go_wp2_with fail
              refine (checkLeg_any key driver fr to_ l A n c k g wr hlr Hg.out Hok.out hn).mono ?_
              rintro e w2 ⟨rfl, hg2⟩
              rw [← HEE.out]
              by_cases hE0 : E = 0
              · have HN := Lib.hid (show R = legsE fr l (n - (k + 1)) by rw [HE.out, Hat.out, if_pos hE0])
                subst hE0
                go_wp2_with fail
                go_roundw
                case rel => exact ⟨k + 1, by omega, by go_num, by rw [HN.out, Hl.out], grow_trans hgr hg2⟩
                case measure => simp [intOf]; omega
              · have hne : (E != 0) = true := by simpa using hE0
                have HN := Lib.hid (show R = E by rw [HE.out, Hat.out, if_neg hE0])
                clear hE0
                go_wp2_with fail
                go_ret
                exact ⟨ret_int HN.out.symm, grow_trans hgw (grow_trans hgr hg2)⟩
            · have HN := Lib.hid (show R = 0 by rw [HE.out, Hl.out, show n - k = 0 by omega]; rfl)
              go_wp2_with fail
              go_ret
              exact ⟨ret_int HN.out.symm, grow_trans hgw hgr⟩
    · have hne : (E1 != 0) = true := by simpa using h0
      have HR := Lib.hid (Hstop.out h0)
      clear h0
      go_wp2_with fail
      go_ret
      exact ⟨ret_int HR.out.symm, hgw⟩
end Go.Proofs.YtempjmpfdniecaaGreatDoor
namespace Go.Proofs.YtempjmpfdniecaaGreatDoor
open Go.RowKit
theorem firstE5 (T : Int) : firstE [5, T] = 5 := rfl
set_option maxRecDepth 100000 in
set_option maxHeartbeats 2000000 in
theorem hireFault_any (key driver : ByteArray) (fr to_ : Int) (l : List Lg) (A : Option Addr) (n c : Nat) (w : World) (hl : SlT lgEnc 9 135 w A n l) (hok : HrOk key driver l) (hn : n ≤ 1000000) :
    Calls Tryz.prog 244 #[.agg #[.string key, .string driver, .int .i64 fr, .int .i64 to_, .slice A n c]] w (GotE w (hireE ⟨key, driver, fr, to_, l⟩)) := by
  obtain ⟨K, hK⟩ : ∃ K, keyB key = K := ⟨_, rfl⟩
  obtain ⟨D, hD⟩ : ∃ D, keyB driver = D := ⟨_, rfl⟩
  obtain ⟨T, hT⟩ : ∃ T, timeE fr to_ = T := ⟨_, rfl⟩
  have HS1 := Lib.hid (fun (h : firstE [whenE (!K || !D) 5, T] ≠ 0) => hireE_stop (l := l) (key := key) (driver := driver) (fr := fr) (to_ := to_) (e := firstE [whenE (!K || !D) 5, T]) (by rw [hK, hD, hT]) h)
  have HP1 := Lib.hid (fun (h : firstE [whenE (!K || !D) 5, T] = 0) => hireE_pass (l := l) (key := key) (driver := driver) (fr := fr) (to_ := to_) (by rw [hK, hD, hT]; exact h.symm))
  have Hl := Lib.hid hl.len
  have CK := Lib.hid (fun w => (by rw [← hK]; exact key_any _ _ (by have := hok.1; omega) : Calls Tryz.prog 197 #[.string key] w fun e w' => e = .returned (.bool K) ∧ w.grownBy w' none))
  have CD := Lib.hid (fun w => (by rw [← hD]; exact key_any _ _ (by have := hok.2.1; omega) : Calls Tryz.prog 197 #[.string driver] w fun e w' => e = .returned (.bool D) ∧ w.grownBy w' none))
  have CT := Lib.hid (fun w => (by rw [← hT]; exact timeFault_any _ _ _ : Calls Tryz.prog 299 #[.agg #[.int .i64 fr, .int .i64 to_]] w (GotE w T)))
  have Hok := Lib.hid hok.2.2
  obtain ⟨R, hR⟩ : ∃ R, R = hireE ⟨key, driver, fr, to_, l⟩ := ⟨_, rfl⟩
  rw [← hR] at HS1 HP1 ⊢
  clear hK hD hT hR hok
  go_enter Tryz.func244, Tryz.ntmps244
  go_wp2_with fail
  refine (CK.out _).mono ?_
  rintro e w0 ⟨rfl, hg0⟩
  have hb : Blk w0 w.heap.size 30 [.string key, .string driver, .int .i64 fr, .int .i64 to_, .slice A n c] := (Blk.at_ w rfl _ _).grown hg0 (by simp)
  have hgw : w.grownBy w0 none := grow_trans (grow_alloc (World.grownBy.refl _ _) _) hg0
  clear hg0
  cases K
  · have HF := Lib.hid (HS1.out (by show firstE [5, T] ≠ 0; rw [firstE5]; decide))
    go_wp2_with fail
    go_ret
    exact ⟨ret_int (by rw [HF.out]; rfl), hgw⟩
  have k1 := hb.cell_of (i := 1) (v := .string driver) rfl
  go_wp2_with fail
  refine (CD.out _).mono ?_
  rintro e w00 ⟨rfl, hg0⟩
  have hb := hb.grown hg0 (by simp)
  have hgw := grow_trans hgw hg0
  clear hg0 k1
  cases D
  · have HF := Lib.hid (HS1.out (by show firstE [5, T] ≠ 0; rw [firstE5]; decide))
    go_wp2_with fail
    go_ret
    exact ⟨ret_int (by rw [HF.out]; rfl), hgw⟩
  have k2 := hb.cell_of (i := 2) (v := .int .i64 fr) rfl
  have k3 := hb.cell_of (i := 3) (v := .int .i64 to_) rfl
  go_wp2_with fail
  refine (CT.out _).mono ?_
  rintro e w1 ⟨rfl, hg0⟩
  have hb := hb.grown hg0 (by simp)
  have hgw := grow_trans hgw hg0
  clear hg0 k2 k3
  by_cases h0 : T = 0
  · subst h0
    have HP := Lib.hid (HP1.out rfl)
    have k4 := hb.cell_of (i := 4) (v := .slice A n c) rfl
    by_cases hn0 : n = 0
    · have hq : ((n : Int) == 0) = true := by simpa using hn0
      have HF := Lib.hid (show R = 3 by rw [HP.out, if_pos (by rw [Hl.out]; exact hn0)])
      clear hn0
      go_wp2_with fail
      go_ret
      exact ⟨ret_int HF.out.symm, hgw⟩
    · have hq : ((n : Int) == 0) = false := by simpa using hn0
      by_cases h20 : 20 < n
      · have hq2 : decide ((20 : Int) < (n : Int)) = true := by simp; omega
        have hq3 : decide (20 < n) = true := by simpa using h20
        have HF := Lib.hid (show R = 2 by rw [HP.out, if_neg (by rw [Hl.out]; exact hn0), if_pos (by rw [Hl.out]; exact h20)])
        clear hn0
        go_wp2_with fail
        go_ret
        exact ⟨ret_int HF.out.symm, hgw⟩
      · have hq2 : decide ((20 : Int) < (n : Int)) = false := by simp; omega
        have hq3 : decide (20 < n) = false := by simpa using h20
        have HF := Lib.hid (show R = legsE fr l (l.length - 0) by rw [HP.out, if_neg (by rw [Hl.out]; exact hn0), if_neg (by rw [Hl.out]; exact h20)]; rfl)
        clear hn0 HP
        have hn20 : n ≤ 20 := by omega
        go_wp2_with fail
        go_loopw [35] (fun i wr => ∃ k : Nat, k ≤ n ∧ i = .int .i64 k ∧ R = legsE fr l (l.length - k) ∧ w1.grownBy wr none) (fun i _ => n - (intOf i).toNat)
        case atStart => exact ⟨0, Nat.zero_le _, rfl, HF.out, World.grownBy.refl _ _⟩
        case round =>
          obtain ⟨k, hk, rfl, hE, hgr⟩ := hrel
          have HE := Lib.hid hE; clear hE
          by_cases hlt : k < n
          · have hlr := hl.grow0 (grow_trans hgw hgr)
            obtain ⟨g, hg⟩ : ∃ g, l[k]? = some g := ⟨_, List.getElem?_eq_getElem (by have := Hl.out; omega)⟩
            have hat := legs_at (fr := fr) hg
            obtain ⟨E, hEE⟩ : ∃ E, E = legE fr (prevOf l k) (decide (k + 1 = n)) g := ⟨_, rfl⟩
            rw [Hl.out, ← hEE] at hat
            rw [Hl.out] at HE
            have Hat := Lib.hid hat; clear hat
            have HEE := Lib.hid hEE; clear hEE
            have hbr := hb.grown hgr (by simp)
            have c0 := hbr.cell_of (i := 0) (v := .string key) rfl
            have c1 := hbr.cell_of (i := 1) (v := .string driver) rfl
            have c2 := hbr.cell_of (i := 2) (v := .int .i64 fr) rfl
            have c3 := hbr.cell_of (i := 3) (v := .int .i64 to_) rfl
            have c4 := hbr.cell_of (i := 4) (v := .slice A n c) rfl
            have Hg := Lib.hid hg
            clear hg
            go_wp2_with fail
            refine (legFault_any key driver fr to_ l A n c k g wr hlr Hg.out Hok.out hn).mono ?_
            rintro e w2 ⟨rfl, hg2⟩
            rw [← HEE.out]
            by_cases hE0 : E = 0
            · have HN := Lib.hid (show R = legsE fr l (n - (k + 1)) by rw [HE.out, Hat.out, if_pos hE0])
              subst hE0
              go_wp2_with fail
              go_roundw
              case rel => exact ⟨k + 1, by omega, by go_num, by rw [HN.out, Hl.out], grow_trans hgr hg2⟩
              case measure => simp [intOf]; omega
            · have hne : (E != 0) = true := by simpa using hE0
              have HN := Lib.hid (show R = E by rw [HE.out, Hat.out, if_neg hE0])
              clear hE0
              go_wp2_with fail
              go_ret
              exact ⟨ret_int HN.out.symm, grow_trans hgw (grow_trans hgr hg2)⟩
          · have HN := Lib.hid (show R = 0 by rw [HE.out, Hl.out, show n - k = 0 by omega]; rfl)
            go_wp2_with fail
            go_ret
            exact ⟨ret_int HN.out.symm, grow_trans hgw hgr⟩
  · have hne : (T != 0) = true := by simpa using h0
    have HF := Lib.hid (HS1.out (by rw [show whenE (!true || !true) 5 = 0 from rfl, firstE_zero]; exact h0))
    have HF2 := Lib.hid (show R = T by rw [HF.out, show whenE (!true || !true) 5 = 0 from rfl, firstE_zero])
    clear h0
    go_wp2_with fail
    go_ret
    exact ⟨ret_int HF2.out.symm, hgw⟩
end Go.Proofs.YtempjmpfdniecaaGreatDoor
namespace Go.Proofs.YtempjmpfdniecaaGreatDoor
open Go.RowKit
/-- What hire.made gives: the hire if it is right, else nothing. -/
def madeV (key driver : ByteArray) (fr to_ : Int) (A : Option Addr) (n c : Nat) (e : Int) : Value :=
  if e = 0 then .agg #[.string key, .string driver, .int .i64 fr, .int .i64 to_, .slice A n c] else .agg #[.string ⟨#[]⟩, .string ⟨#[]⟩, .int .i64 0, .int .i64 0, .slice none 0 0]
def GotVE (w : World) (v : Value) (e : Int) (d : Ending) (w' : World) : Prop := d = .returned (.tuple #[v, .int .i64 e]) ∧ w.grownBy w' none
theorem info_hr : (Tryz.prog.info? 30).map (·.size) = some 5 := by kernel_rfl
/-- Two results: a struct in a known block, and a number. -/
theorem ret_blk_tmp {P : Program} {fn : Func} {R : Ending → World → Prop} {a : Act} {w : World} {p u : Tmp} {ty : TypeId} (h : fn.results = #[.cell p ty, .tmp u]) (g : Nat) (t : TypeId) (cs : List Value) (d : TypeDesc) (hb : Blk w g t cs)
    (hp : a.tmps.getD p undef = .pointer (some ⟨g, 0, none⟩)) (v : Value) (hv : a.tmps.getD u undef = v) (hu : P.underlying ty = some d) (hd : d.isRow = true) (n : Nat) (hi : (P.info? ty).map (·.size) = some n) (hn : cs.length = n) (hdf : a.defers = [])
    (hR : R (.returned (.tuple #[.agg cs.toArray, v])) w) : bodyPost P fn R .ret a w := by
  refine bodyPost_ret (?_ : (results fn a.tmps).run P w = .ok (.tuple #[.agg cs.toArray, v]) w) hdf hR
  have hl := run_loadVar_row (P := P) w g t ty cs.toArray (0, 0) d hb hu (by cases d <;> simp_all [TypeDesc.isRow]) (by simpa [hn] using hi)
  rw [results_cell_tmp h]
  simp only [hp, hv]
  simp only [asAddr, Sem.run_pure, Result.andThen_ok]
  rw [hl]
  rfl
set_option maxRecDepth 100000 in
set_option maxHeartbeats 1000000 in
theorem made_any (key driver : ByteArray) (fr to_ : Int) (l : List Lg) (A : Option Addr) (n c : Nat) (w : World) (hl : SlT lgEnc 9 135 w A n l) (hok : HrOk key driver l) (hn : n ≤ 1000000) :
    Calls Tryz.prog 90 #[.agg #[.string key, .string driver, .int .i64 fr, .int .i64 to_, .slice A n c]] w (GotVE w (madeV key driver fr to_ A n c (hireE ⟨key, driver, fr, to_, l⟩)) (hireE ⟨key, driver, fr, to_, l⟩)) := by
  obtain ⟨E, hE⟩ : ∃ E, E = hireE ⟨key, driver, fr, to_, l⟩ := ⟨_, rfl⟩
  rw [← hE]
  have HE := Lib.hid hE
  clear hE
  go_enter Tryz.func90, Tryz.ntmps90
  go_wp2_with fail
  refine (hcheck_any key driver fr to_ l A n c _ ((hl.alloc _).alloc _) hok hn).mono ?_
  rintro e w1 ⟨rfl, hg1⟩
  rw [← HE.out]
  have hb1 : Blk w1 (w.heap.size + 1) 30 [.string ⟨#[]⟩, .string ⟨#[]⟩, .int .i64 0, .int .i64 0, .slice none 0 0] := (Blk.at_ (w.alloc _) (by simp) _ _).grown hg1 (by simp)
  have hb0 : Blk w1 w.heap.size 30 [.string key, .string driver, .int .i64 fr, .int .i64 to_, .slice A n c] := ((Blk.at_ w rfl _ _).alloc _).grown hg1 (by simp)
  have hgw : w.grownBy w1 none := grow_trans (grow_alloc (grow_alloc (World.grownBy.refl _ _) _) _) hg1
  have hz : ∀ k, some (w.heap.size + 1) = some k → w.heap.size ≤ k := fun k h => by cases h; omega
  clear hg1
  by_cases h0 : E = 0
  · have HV := Lib.hid (show madeV key driver fr to_ A n c E = .agg #[.string key, .string driver, .int .i64 fr, .int .i64 to_, .slice A n c] by rw [h0]; rfl)
    subst h0
    go_wp2_with (first
      | (with_reducible refine wpList_load_all rfl 30 (.tmp 1) rfl w.heap.size _ _ _ hb0 rfl Tryz.underlying30 rfl 5 info_hr rfl ?_)
      | (with_reducible refine wpList_store_all rfl 30 (.tmp 2) (.tmp 11) rfl (w.heap.size + 1) _ _ [.string key, .string driver, .int .i64 fr, .int .i64 to_, .slice A n c] hb1 rfl rfl 5 info_hr rfl rfl (by simp [Value.oneCell']) ?_
         intro w2 hb2 hg2))
    refine ret_blk_tmp (p := 2) (u := 3) (ty := 30) rfl (w.heap.size + 1) _ _ _ hb2 rfl (.int .i64 0) rfl Tryz.underlying30 rfl 5 info_hr rfl rfl ?_
    exact ⟨by rw [HV.out], grow_own hgw hg2 hz⟩
  · have hne : (E != 0) = true := by simpa using h0
    have HV := Lib.hid (show madeV key driver fr to_ A n c E = .agg #[.string ⟨#[]⟩, .string ⟨#[]⟩, .int .i64 0, .int .i64 0, .slice none 0 0] by unfold madeV; rw [if_neg h0])
    clear h0
    go_wp2_with (first
      | (with_reducible refine wpList_store_all rfl 30 (.tmp 2) (.tmp 9) rfl (w.heap.size + 1) _ _ [.string ⟨#[]⟩, .string ⟨#[]⟩, .int .i64 0, .int .i64 0, .slice none 0 0] hb1 rfl rfl 5 info_hr rfl rfl (by simp [Value.oneCell']) ?_
         intro w2 hb2 hg2))
    refine ret_blk_tmp (p := 2) (u := 3) (ty := 30) rfl (w.heap.size + 1) _ _ _ hb2 rfl (.int .i64 E) rfl Tryz.underlying30 rfl 5 info_hr rfl rfl ?_
    exact ⟨by rw [HV.out], grow_own hgw hg2 hz⟩
def startLeg (veh : ByteArray) (r : Rd) : Lg := ⟨veh, r, ⟨-1, ⟨#[]⟩, 0, 0⟩⟩
set_option maxRecDepth 100000 in
set_option maxHeartbeats 1000000 in
theorem start_any (key driver : ByteArray) (fr to_ : Int) (veh : ByteArray) (r : Rd) (w : World) (hk : key.size ≤ 1000000) (hd : driver.size ≤ 1000000) (hv : veh.size ≤ 1000000) (hr : RdOk r) :
    Calls Tryz.prog 96 #[.string key, .string driver, .agg #[.int .i64 fr, .int .i64 to_], .string veh, .agg (rdCells r).toArray] w (fun e w' => ∃ A,
      e = .returned (.tuple #[madeV key driver fr to_ A 1 1 (hireE ⟨key, driver, fr, to_, [startLeg veh r]⟩), .int .i64 (hireE ⟨key, driver, fr, to_, [startLeg veh r]⟩)]) ∧ SlT lgEnc 9 135 w' A 1 [startLeg veh r] ∧ w.grownBy w' none) := by
  obtain ⟨a1, s1, m1, f1⟩ := r
  have hok : HrOk key driver [startLeg veh ⟨a1, s1, m1, f1⟩] := ⟨hk, hd, fun g hg => by
    simp only [List.mem_singleton] at hg
    subst hg
    exact ⟨hv, hr, (by decide : (⟨#[]⟩ : ByteArray).size ≤ 1000000)⟩⟩
  show Calls Tryz.prog 96 #[.string key, .string driver, .agg #[.int .i64 fr, .int .i64 to_], .string veh, .agg #[.int .i64 a1, .string s1, .int .i64 m1, .int .i64 f1]] w _
  have Hok := Lib.hid hok
  clear hok
  obtain ⟨E, hE⟩ : ∃ E, E = hireE ⟨key, driver, fr, to_, [startLeg veh ⟨a1, s1, m1, f1⟩]⟩ := ⟨_, rfl⟩
  rw [← hE]
  have HE := Lib.hid hE
  clear hE
  go_enter Tryz.func96, Tryz.ntmps96
  go_wp2_with fail
  refine (made_any key driver fr to_ [startLeg veh ⟨a1, s1, m1, f1⟩] (some ⟨w.heap.size + 3, 0, none⟩) 1 1 _ (SlT.ofBlk (l := [startLeg veh ⟨a1, s1, m1, f1⟩]) lg_len (Blk.at_ _ (by simp) _ _)) Hok.out (by omega)).mono ?_
  rintro e w1 ⟨rfl, hg1⟩
  rw [← HE.out]
  clear HE Hok
  have hb1 : Blk w1 (w.heap.size + 2) 30 [.string ⟨#[]⟩, .string ⟨#[]⟩, .int .i64 0, .int .i64 0, .slice none 0 0] := ((Blk.at_ ((w.alloc _).alloc _) (by simp) _ _).alloc _).grown hg1 (by simp)
  have hl1 : SlT lgEnc 9 135 w1 (some ⟨w.heap.size + 3, 0, none⟩) 1 [startLeg veh ⟨a1, s1, m1, f1⟩] := (SlT.ofBlk (l := [startLeg veh ⟨a1, s1, m1, f1⟩]) lg_len (Blk.at_ (((w.alloc _).alloc _).alloc _) (by simp) _ _)).grow0 hg1
  have hgw : w.grownBy w1 none := grow_trans (grow_alloc (grow_alloc (grow_alloc (grow_alloc (World.grownBy.refl _ _) _) _) _) _) hg1
  have hz : ∀ k, some (w.heap.size + 2) = some k → w.heap.size ≤ k := fun k h => by cases h; omega
  clear hg1
  by_cases h0 : E = 0
  · have hV : madeV key driver fr to_ (some ⟨w.heap.size + 3, 0, none⟩) 1 1 E = .agg #[.string key, .string driver, .int .i64 fr, .int .i64 to_, .slice (some ⟨w.heap.size + 3, 0, none⟩) 1 1] := by rw [h0]; rfl
    rw [hV]
    have HV := Lib.hid hV
    clear h0 hV
    go_wp2_with (first
      | (with_reducible refine wpList_store_all rfl 30 (.tmp 10) (.tmp 22) rfl (w.heap.size + 2) _ _ [.string key, .string driver, .int .i64 fr, .int .i64 to_, .slice (some ⟨w.heap.size + 3, 0, none⟩) 1 1] hb1 rfl rfl 5 info_hr rfl rfl (by simp [Value.oneCell']) ?_
         intro w2 hb2 hg2))
    refine ret_blk_tmp (p := 10) (u := 11) (ty := 30) rfl (w.heap.size + 2) _ _ _ hb2 rfl (.int .i64 E) rfl Tryz.underlying30 rfl 5 info_hr rfl rfl ?_
    exact ⟨some ⟨w.heap.size + 3, 0, none⟩, by rw [HV.out], hl1.grown hg2 hb1 (by decide), grow_own hgw hg2 hz⟩
  · have hV : madeV key driver fr to_ (some ⟨w.heap.size + 3, 0, none⟩) 1 1 E = .agg #[.string ⟨#[]⟩, .string ⟨#[]⟩, .int .i64 0, .int .i64 0, .slice none 0 0] := by unfold madeV; rw [if_neg h0]
    rw [hV]
    have HV := Lib.hid hV
    clear h0 hV
    go_wp2_with (first
      | (with_reducible refine wpList_store_all rfl 30 (.tmp 10) (.tmp 22) rfl (w.heap.size + 2) _ _ [.string ⟨#[]⟩, .string ⟨#[]⟩, .int .i64 0, .int .i64 0, .slice none 0 0] hb1 rfl rfl 5 info_hr rfl rfl (by simp [Value.oneCell']) ?_
         intro w2 hb2 hg2))
    refine ret_blk_tmp (p := 10) (u := 11) (ty := 30) rfl (w.heap.size + 2) _ _ _ hb2 rfl (.int .i64 E) rfl Tryz.underlying30 rfl 5 info_hr rfl rfl ?_
    exact ⟨some ⟨w.heap.size + 3, 0, none⟩, by rw [HV.out], hl1.grown hg2 hb1 (by decide), grow_own hgw hg2 hz⟩
end Go.Proofs.YtempjmpfdniecaaGreatDoor
namespace Go.Proofs.YtempjmpfdniecaaGreatDoor
open Go.RowKit
set_option maxRecDepth 100000 in
set_option maxHeartbeats 1000000 in
theorem rmade_any (key driver : ByteArray) (fr to_ : Int) (l : List Lg) (A : Option Addr) (n c : Nat) (w : World) (hl : SlT lgEnc 9 135 w A n l) (hok : HrOk key driver l) (hn : n ≤ 1000000) :
    Calls Tryz.prog 167 #[.agg #[.string key, .string driver, .int .i64 fr, .int .i64 to_, .slice A n c]] w (GotVE w (madeV key driver fr to_ A n c (hireE ⟨key, driver, fr, to_, l⟩)) (hireE ⟨key, driver, fr, to_, l⟩)) := by
  obtain ⟨E, hE⟩ : ∃ E, E = hireE ⟨key, driver, fr, to_, l⟩ := ⟨_, rfl⟩
  rw [← hE]
  have HE := Lib.hid hE
  clear hE
  go_enter Tryz.func167, Tryz.ntmps167
  go_wp2_with fail
  refine (hireFault_any key driver fr to_ l A n c _ ((hl.alloc _).alloc _) hok hn).mono ?_
  rintro e w1 ⟨rfl, hg1⟩
  rw [← HE.out]
  have hb1 : Blk w1 (w.heap.size + 1) 30 [.string ⟨#[]⟩, .string ⟨#[]⟩, .int .i64 0, .int .i64 0, .slice none 0 0] := (Blk.at_ (w.alloc _) (by simp) _ _).grown hg1 (by simp)
  have hb0 : Blk w1 w.heap.size 30 [.string key, .string driver, .int .i64 fr, .int .i64 to_, .slice A n c] := ((Blk.at_ w rfl _ _).alloc _).grown hg1 (by simp)
  have hgw : w.grownBy w1 none := grow_trans (grow_alloc (grow_alloc (World.grownBy.refl _ _) _) _) hg1
  have hz : ∀ k, some (w.heap.size + 1) = some k → w.heap.size ≤ k := fun k h => by cases h; omega
  clear hg1
  by_cases h0 : E = 0
  · have HV := Lib.hid (show madeV key driver fr to_ A n c E = .agg #[.string key, .string driver, .int .i64 fr, .int .i64 to_, .slice A n c] by rw [h0]; rfl)
    subst h0
    go_wp2_with (first
      | (with_reducible refine wpList_load_all rfl 30 (.tmp 1) rfl w.heap.size _ _ _ hb0 rfl Tryz.underlying30 rfl 5 info_hr rfl ?_)
      | (with_reducible refine wpList_store_all rfl 30 (.tmp 2) (.tmp 11) rfl (w.heap.size + 1) _ _ [.string key, .string driver, .int .i64 fr, .int .i64 to_, .slice A n c] hb1 rfl rfl 5 info_hr rfl rfl (by simp [Value.oneCell']) ?_
         intro w2 hb2 hg2))
    refine ret_blk_tmp (p := 2) (u := 3) (ty := 30) rfl (w.heap.size + 1) _ _ _ hb2 rfl (.int .i64 0) rfl Tryz.underlying30 rfl 5 info_hr rfl rfl ?_
    exact ⟨by rw [HV.out], grow_own hgw hg2 hz⟩
  · have hne : (E != 0) = true := by simpa using h0
    have HV := Lib.hid (show madeV key driver fr to_ A n c E = .agg #[.string ⟨#[]⟩, .string ⟨#[]⟩, .int .i64 0, .int .i64 0, .slice none 0 0] by unfold madeV; rw [if_neg h0])
    clear h0
    go_wp2_with (first
      | (with_reducible refine wpList_store_all rfl 30 (.tmp 2) (.tmp 9) rfl (w.heap.size + 1) _ _ [.string ⟨#[]⟩, .string ⟨#[]⟩, .int .i64 0, .int .i64 0, .slice none 0 0] hb1 rfl rfl 5 info_hr rfl rfl (by simp [Value.oneCell']) ?_
         intro w2 hb2 hg2))
    refine ret_blk_tmp (p := 2) (u := 3) (ty := 30) rfl (w.heap.size + 1) _ _ _ hb2 rfl (.int .i64 E) rfl Tryz.underlying30 rfl 5 info_hr rfl rfl ?_
    exact ⟨by rw [HV.out], grow_own hgw hg2 hz⟩
set_option maxRecDepth 100000 in
set_option maxHeartbeats 1000000 in
theorem startOf_any (key driver : ByteArray) (fr to_ : Int) (veh : ByteArray) (r : Rd) (w : World) (hk : key.size ≤ 1000000) (hd : driver.size ≤ 1000000) (hv : veh.size ≤ 1000000) (hr : RdOk r) :
    Calls Tryz.prog 62 #[.string key, .string driver, .agg #[.int .i64 fr, .int .i64 to_], .string veh, .agg (rdCells r).toArray] w (fun e w' => ∃ A,
      e = .returned (.tuple #[madeV key driver fr to_ A 1 1 (hireE ⟨key, driver, fr, to_, [startLeg veh r]⟩), .int .i64 (hireE ⟨key, driver, fr, to_, [startLeg veh r]⟩)]) ∧ SlT lgEnc 9 135 w' A 1 [startLeg veh r] ∧ w.grownBy w' none) := by
  obtain ⟨a1, s1, m1, f1⟩ := r
  have hok : HrOk key driver [startLeg veh ⟨a1, s1, m1, f1⟩] := ⟨hk, hd, fun g hg => by
    simp only [List.mem_singleton] at hg
    subst hg
    exact ⟨hv, hr, (by decide : (⟨#[]⟩ : ByteArray).size ≤ 1000000)⟩⟩
  show Calls Tryz.prog 62 #[.string key, .string driver, .agg #[.int .i64 fr, .int .i64 to_], .string veh, .agg #[.int .i64 a1, .string s1, .int .i64 m1, .int .i64 f1]] w _
  have Hok := Lib.hid hok
  clear hok
  obtain ⟨E, hE⟩ : ∃ E, E = hireE ⟨key, driver, fr, to_, [startLeg veh ⟨a1, s1, m1, f1⟩]⟩ := ⟨_, rfl⟩
  rw [← hE]
  have HE := Lib.hid hE
  clear hE
  go_enter Tryz.func62, Tryz.ntmps62
  go_wp2_with fail
  refine (rmade_any key driver fr to_ [startLeg veh ⟨a1, s1, m1, f1⟩] (some ⟨w.heap.size + 3, 0, none⟩) 1 1 _ (SlT.ofBlk (l := [startLeg veh ⟨a1, s1, m1, f1⟩]) lg_len (Blk.at_ _ (by simp) _ _)) Hok.out (by omega)).mono ?_
  rintro e w1 ⟨rfl, hg1⟩
  rw [← HE.out]
  clear HE Hok
  have hb1 : Blk w1 (w.heap.size + 2) 30 [.string ⟨#[]⟩, .string ⟨#[]⟩, .int .i64 0, .int .i64 0, .slice none 0 0] := ((Blk.at_ ((w.alloc _).alloc _) (by simp) _ _).alloc _).grown hg1 (by simp)
  have hl1 : SlT lgEnc 9 135 w1 (some ⟨w.heap.size + 3, 0, none⟩) 1 [startLeg veh ⟨a1, s1, m1, f1⟩] := (SlT.ofBlk (l := [startLeg veh ⟨a1, s1, m1, f1⟩]) lg_len (Blk.at_ (((w.alloc _).alloc _).alloc _) (by simp) _ _)).grow0 hg1
  have hgw : w.grownBy w1 none := grow_trans (grow_alloc (grow_alloc (grow_alloc (grow_alloc (World.grownBy.refl _ _) _) _) _) _) hg1
  have hz : ∀ k, some (w.heap.size + 2) = some k → w.heap.size ≤ k := fun k h => by cases h; omega
  clear hg1
  by_cases h0 : E = 0
  · have hV : madeV key driver fr to_ (some ⟨w.heap.size + 3, 0, none⟩) 1 1 E = .agg #[.string key, .string driver, .int .i64 fr, .int .i64 to_, .slice (some ⟨w.heap.size + 3, 0, none⟩) 1 1] := by rw [h0]; rfl
    rw [hV]
    have HV := Lib.hid hV
    clear h0 hV
    go_wp2_with (first
      | (with_reducible refine wpList_store_all rfl 30 (.tmp 10) (.tmp 22) rfl (w.heap.size + 2) _ _ [.string key, .string driver, .int .i64 fr, .int .i64 to_, .slice (some ⟨w.heap.size + 3, 0, none⟩) 1 1] hb1 rfl rfl 5 info_hr rfl rfl (by simp [Value.oneCell']) ?_
         intro w2 hb2 hg2))
    refine ret_blk_tmp (p := 10) (u := 11) (ty := 30) rfl (w.heap.size + 2) _ _ _ hb2 rfl (.int .i64 E) rfl Tryz.underlying30 rfl 5 info_hr rfl rfl ?_
    exact ⟨some ⟨w.heap.size + 3, 0, none⟩, by rw [HV.out], hl1.grown hg2 hb1 (by decide), grow_own hgw hg2 hz⟩
  · have hV : madeV key driver fr to_ (some ⟨w.heap.size + 3, 0, none⟩) 1 1 E = .agg #[.string ⟨#[]⟩, .string ⟨#[]⟩, .int .i64 0, .int .i64 0, .slice none 0 0] := by unfold madeV; rw [if_neg h0]
    rw [hV]
    have HV := Lib.hid hV
    clear h0 hV
    go_wp2_with (first
      | (with_reducible refine wpList_store_all rfl 30 (.tmp 10) (.tmp 22) rfl (w.heap.size + 2) _ _ [.string ⟨#[]⟩, .string ⟨#[]⟩, .int .i64 0, .int .i64 0, .slice none 0 0] hb1 rfl rfl 5 info_hr rfl rfl (by simp [Value.oneCell']) ?_
         intro w2 hb2 hg2))
    refine ret_blk_tmp (p := 10) (u := 11) (ty := 30) rfl (w.heap.size + 2) _ _ _ hb2 rfl (.int .i64 E) rfl Tryz.underlying30 rfl 5 info_hr rfl rfl ?_
    exact ⟨some ⟨w.heap.size + 3, 0, none⟩, by rw [HV.out], hl1.grown hg2 hb1 (by decide), grow_own hgw hg2 hz⟩
end Go.Proofs.YtempjmpfdniecaaGreatDoor
namespace Go.Proofs.YtempjmpfdniecaaGreatDoor
open Go.RowKit
theorem lg_one (g : Lg) : ∀ v ∈ lgEnc g, v.oneCell' = true := by
  intro v hv
  simp [lgEnc, rdCells] at hv
  rcases hv with rfl | rfl | rfl | rfl | rfl | rfl | rfl | rfl | rfl <;> rfl
/-- A hire goes on. -/
def openB (l : List Lg) : Bool :=
  match l[l.length - 1]? with
  | some g => g.inn.at_ == -1
  | none => false
set_option maxRecDepth 100000 in
set_option maxHeartbeats 400000 in
theorem open_any (key driver : ByteArray) (fr to_ : Int) (l : List Lg) (A : Option Addr) (n c : Nat) (w : World) (hl : SlT lgEnc 9 135 w A n l) (hn0 : 0 < n) (hn : n ≤ 1000000) :
    Calls Tryz.prog 186 #[.agg #[.string key, .string driver, .int .i64 fr, .int .i64 to_, .slice A n c]] w (fun e w' => e = .returned (.bool (openB l)) ∧ w.grownBy w' none) := by
  have hlen := hl.len
  obtain ⟨g, hg⟩ : ∃ g, l[n - 1]? = some g := ⟨_, List.getElem?_eq_getElem (by omega)⟩
  obtain ⟨b, off, rfl, hbl, hrg⟩ := hl.get hn0
  have HO := Lib.hid (show openB l = (g.inn.at_ == -1) by unfold openB; rw [hlen, hg])
  obtain ⟨veh, ⟨a1, s1, m1, f1⟩, ⟨a2, s2, m2, f2⟩⟩ := g
  have hr0 := hrg (n - 1) _ hg
  have hc : w.cell? ⟨b, off + (n - 1) * 9 + 5, none⟩ = some (.int .i64 a2) := hr0 5 _ rfl
  have hc2 := fun o => (World.cell?_of_block (a := ⟨b, off + (n - 1) * 9 + 5, none⟩) (Below.heap_alloc w o b hbl)).trans hc
  have hki : (n : Int) - 1 = ((n - 1 : Nat) : Int) := by omega
  have hk1 : (n : Int) - 1 < (n : Int) := by omega
  have hk0 : (0 : Int) ≤ (n : Int) - 1 := by omega
  clear hr0 hrg hc hg hlen hl
  go_enter Tryz.func186, Tryz.ntmps186
  go_wp2_with fail
  go_ret
  exact ⟨ret_bool HO.out.symm, grow_alloc (World.grownBy.refl _ _) _⟩
theorem leg_info : ∃ i z, Tryz.prog.info? 135 = some i ∧ i.zero = some z ∧ i.size = 9 ∧ i.bytes = 96 ∧ z.cells.size = 9 := info_parts (by kernel_rfl)
set_option maxRecDepth 100000 in
set_option maxHeartbeats 400000 in
theorem cloneLegs_any (l : List Lg) (A : Option Addr) (n c : Nat) (w : World) (hl : SlT lgEnc 9 135 w A n l) (hn0 : 0 < n) (hn : n ≤ 1000000) :
    Calls Tryz.prog 187 #[.slice A n c] w (fun e w' => ∃ g c', e = .returned (.slice (some ⟨g, 0, none⟩) n c') ∧ OwnT lgEnc 9 135 w' w.heap.size g n c' l ∧ w.grownBy w' none) := by
  obtain ⟨b, off, rfl, hbl, hfl⟩ := hl.flat lg_len hn0
  have hlen := hl.len
  obtain ⟨i0, z0, hi, hz, hsz, hby, hzs⟩ := leg_info
  have hnews : ∀ (o : Obj) j u, (l.flatMap lgEnc)[j]? = some u → (w.alloc o).cell? ((⟨b, off, none⟩ : Addr).add j) = some u := fun o j u hj =>
    (World.cell?_of_block (Below.heap_alloc w o _ (by unfold Addr.add; split <;> exact hbl))).trans (hfl j u hj)
  have hone := flat_one lgEnc lg_one l
  have hll := flat_len lgEnc 9 lg_len l
  rw [hlen] at hll
  clear hfl hl
  have Hnews := Lib.hid hnews
  clear hnews
  have he : ∀ w : World, (binOp .eql 28 (.slice (some ⟨b, off, none⟩) n c) (.slice none 0 0)).run Tryz.prog w = .ok (.bool false) w := fun _ => rfl
  go_enter Tryz.func187, Tryz.ntmps187
  go_wp2_with (at_builtin; refine wpList_append_own_at _ rfl _ _ 28 rfl w.heap.size 135 i0 z0 9 96 Tryz.underlying28 hi hz hsz hby hzs (by decide) (.slice (some ⟨w.heap.size, 0, none⟩) 0 0) 0 [] rfl ⟨rfl, .inr ⟨w.heap.size, 0, #[], rfl, Nat.le_refl _, heap_alloc_new w _, Nat.le_refl _, by decide, rfl, rfl⟩⟩ ⟨b, off, none⟩ n c (l.flatMap lgEnc) rfl hll (Hnews.out _) hone (by unfold maxLen; omega) (by omega) (by simp) ?_; intro v' w' hown hgrow hnil hat)
  rw [Nat.zero_add, List.nil_append] at hown
  have hown2 := hown
  obtain ⟨_, ho⟩ := hown2
  rcases ho with ⟨_, h0⟩ | ⟨g, cap, cur, rfl, hg, _⟩
  · omega
  · go_ret
    exact ⟨g, cap, rfl, ⟨hg, hown⟩, grow_own (grow_alloc (World.grownBy.refl _ _) _) hgrow (fun k h => by cases h; exact Nat.le_refl _)⟩
/-- What goes on of a hire: its error. -/
def goingE (h : Hr) : Int := if hireE h = 0 then (if openB h.legs then 0 else 11) else hireE h
def noHire : Value := .agg #[.string ⟨#[]⟩, .string ⟨#[]⟩, .int .i64 0, .int .i64 0, .slice none 0 0]
theorem hireE_legs {h : Hr} (hh : hireE h = 0) : 0 < h.legs.length ∧ h.legs.length ≤ 20 := by
  obtain ⟨key, driver, fr, to_, l⟩ := h
  unfold hireE at hh
  by_cases h1 : l.length = 0
  · exfalso
    simp only [h1, if_true] at hh
    revert hh
    generalize whenE (!keyB key || !keyB driver) 5 = x
    generalize timeE fr to_ = y
    intro hh
    by_cases hx : x = 0 <;> by_cases hy : y = 0 <;> simp [firstE, hx, hy] at hh
  · by_cases h2 : 20 < l.length
    · exfalso
      simp only [h1, h2, if_true, if_false] at hh
      revert hh
      generalize whenE (!keyB key || !keyB driver) 5 = x
      generalize timeE fr to_ = y
      intro hh
      by_cases hx : x = 0 <;> by_cases hy : y = 0 <;> simp [firstE, hx, hy] at hh
    · show 0 < l.length ∧ l.length ≤ 20
      omega
set_option maxRecDepth 100000 in
set_option maxHeartbeats 1000000 in
theorem going_any (key driver : ByteArray) (fr to_ : Int) (l : List Lg) (A : Option Addr) (n c : Nat) (w : World) (hl : SlT lgEnc 9 135 w A n l) (hok : HrOk key driver l) (hn : n ≤ 1000000) :
    Calls Tryz.prog 89 #[.agg #[.string key, .string driver, .int .i64 fr, .int .i64 to_, .slice A n c]] w (fun e w' => w.grownBy w' none ∧
      ((goingE ⟨key, driver, fr, to_, l⟩ = 0 ∧ ∃ g c', e = .returned (.tuple #[.agg #[.string key, .string driver, .int .i64 fr, .int .i64 to_, .slice (some ⟨g, 0, none⟩) n c'], .int .i64 0]) ∧ OwnT lgEnc 9 135 w' w.heap.size g n c' l) ∨
       (goingE ⟨key, driver, fr, to_, l⟩ ≠ 0 ∧ e = .returned (.tuple #[noHire, .int .i64 (goingE ⟨key, driver, fr, to_, l⟩)])))) := by
  obtain ⟨E, hE⟩ : ∃ E, E = hireE ⟨key, driver, fr, to_, l⟩ := ⟨_, rfl⟩
  obtain ⟨G, hG⟩ : ∃ G, G = goingE ⟨key, driver, fr, to_, l⟩ := ⟨_, rfl⟩
  rw [← hG]
  have HE := Lib.hid hE
  have HG := Lib.hid hG
  clear hE hG
  go_enter Tryz.func89, Tryz.ntmps89
  go_wp2_with fail
  refine (hcheck_any key driver fr to_ l A n c _ ((hl.alloc _).alloc _) hok hn).mono ?_
  rintro e w1 ⟨rfl, hg1⟩
  rw [← HE.out]
  have hb1 : Blk w1 (w.heap.size + 1) 30 [.string ⟨#[]⟩, .string ⟨#[]⟩, .int .i64 0, .int .i64 0, .slice none 0 0] := (Blk.at_ (w.alloc _) (by simp) _ _).grown hg1 (by simp)
  have hb0 : Blk w1 w.heap.size 30 [.string key, .string driver, .int .i64 fr, .int .i64 to_, .slice A n c] := ((Blk.at_ w rfl _ _).alloc _).grown hg1 (by simp)
  have hgw : w.grownBy w1 none := grow_trans (grow_alloc (grow_alloc (World.grownBy.refl _ _) _) _) hg1
  have hz : ∀ k, some (w.heap.size + 1) = some k → w.heap.size ≤ k := fun k h => by cases h; omega
  clear hg1
  by_cases h0 : E = 0
  · have hlen := hireE_legs (HE.out.symm.trans h0)
    have hn0 : 0 < n := by have := hl.len; exact this ▸ hlen.1
    obtain ⟨O, hO⟩ : ∃ O, O = openB l := ⟨_, rfl⟩
    have HGO := Lib.hid (show G = if O then 0 else 11 by rw [HG.out]; unfold goingE; rw [if_pos (HE.out.symm.trans h0), hO])
    have cO : ∀ w' : World, w.grownBy w' none → Calls Tryz.prog 186 #[.agg #[.string key, .string driver, .int .i64 fr, .int .i64 to_, .slice A n c]] w' (fun e w'' => e = .returned (.bool O) ∧ w'.grownBy w'' none) := fun w' hg => by
      rw [hO]
      exact open_any key driver fr to_ l A n c w' (hl.grow0 hg) hn0 hn
    have CO := Lib.hid cO
    clear hlen hO cO
    subst h0
    go_wp2_with (with_reducible refine wpList_load_all rfl 30 (.tmp 1) rfl w.heap.size _ _ _ hb0 rfl Tryz.underlying30 rfl 5 info_hr rfl ?_)
    refine (CO.out _ hgw).mono ?_
    rintro e w2 ⟨rfl, hg2⟩
    have hb0 := hb0.grown hg2 (by simp)
    have hb1 := hb1.grown hg2 (by simp)
    have hgw := grow_trans hgw hg2
    clear hg2
    cases O
    · have HF := Lib.hid (show G = 11 from HGO.out)
      go_wp2_with (first
        | (with_reducible refine wpList_store_all rfl 30 (.tmp 2) (.tmp 14) rfl (w.heap.size + 1) _ _ [.string ⟨#[]⟩, .string ⟨#[]⟩, .int .i64 0, .int .i64 0, .slice none 0 0] hb1 rfl rfl 5 info_hr rfl rfl (by simp [Value.oneCell']) ?_
           intro w3 hb3 hg3))
      refine ret_blk_tmp (p := 2) (u := 3) (ty := 30) rfl (w.heap.size + 1) _ _ _ hb3 rfl (.int .i64 11) rfl Tryz.underlying30 rfl 5 info_hr rfl rfl ?_
      exact ⟨grow_own hgw hg3 hz, .inr ⟨by rw [HF.out]; decide, by rw [HF.out]; rfl⟩⟩
    · have HF := Lib.hid (show G = 0 from HGO.out)
      have c3 := hb0.cell_of (i := 4) (v := .slice A n c) rfl
      have f3 := hb0.frozen 4
      go_wp2_with fail
      refine (cloneLegs_any l A n c _ (hl.grow0 hgw) hn0 hn).mono ?_
      rintro e w3 ⟨g, c', rfl, hown, hg3⟩
      have hz2 := hb1.lt
      have hz3 := hown.1
      have hl3 := hown.lt
      have hb0 := hb0.grown hg3 (by simp)
      have hb1 := hb1.grown hg3 (by simp)
      have hgw := grow_trans hgw hg3
      have c4 := hb0.cell_of (i := 4) (v := .slice A n c) rfl
      have f4 := hb0.frozen 4
      have hbS : Blk (w3.setCell ⟨w.heap.size, 4, none⟩ (.slice (some ⟨g, 0, none⟩) n c')) w.heap.size 30 [.string key, .string driver, .int .i64 fr, .int .i64 to_, .slice (some ⟨g, 0, none⟩) n c'] := hb0.set_ 4 _
      have hb1S : Blk (w3.setCell ⟨w.heap.size, 4, none⟩ (.slice (some ⟨g, 0, none⟩) n c')) (w.heap.size + 1) 30 [.string ⟨#[]⟩, .string ⟨#[]⟩, .int .i64 0, .int .i64 0, .slice none 0 0] := hb1.far (by simp) _
      have hgS : w.grownBy (w3.setCell ⟨w.heap.size, 4, none⟩ (.slice (some ⟨g, 0, none⟩) n c')) none := grow_setCell hgw (.inr (Nat.le_refl _)) _
      have hkeep : (w3.setCell ⟨w.heap.size, 4, none⟩ (.slice (some ⟨g, 0, none⟩) n c')).heap[g]? = w3.heap[g]? := Below.heap_setCell w3 _ _ g (by simp; omega)
      have hlS : g < (w3.setCell ⟨w.heap.size, 4, none⟩ (.slice (some ⟨g, 0, none⟩) n c')).heap.size := by simpa [World.setCell] using hl3
      clear c3 f3 hg3
      go_wp2_with (first
        | (with_reducible refine wpList_load_all rfl 30 (.tmp 1) rfl w.heap.size _ _ _ hbS rfl Tryz.underlying30 rfl 5 info_hr rfl ?_)
        | (with_reducible refine wpList_store_all rfl 30 (.tmp 2) (.tmp 19) rfl (w.heap.size + 1) _ _ [.string key, .string driver, .int .i64 fr, .int .i64 to_, .slice (some ⟨g, 0, none⟩) n c'] hb1S rfl rfl 5 info_hr rfl rfl (by simp [Value.oneCell']) ?_
           intro w4 hb4 hg4))
      refine ret_blk_tmp (p := 2) (u := 3) (ty := 30) rfl (w.heap.size + 1) _ _ _ hb4 rfl (.int .i64 0) rfl Tryz.underlying30 rfl 5 info_hr rfl rfl ?_
      exact ⟨grow_own hgS hg4 hz, .inl ⟨HF.out, g, c', rfl, hown.kept ((hg4.block g hlS (fun h => absurd (Option.some.inj h) (by omega))).trans hkeep) (by omega)⟩⟩
  · have hne : (E != 0) = true := by simpa using h0
    have HF := Lib.hid (show G = E by rw [HG.out]; unfold goingE; rw [if_neg (fun h => h0 (HE.out.trans h)), HE.out])
    have HN := Lib.hid h0
    clear h0
    go_wp2_with (first
      | (with_reducible refine wpList_store_all rfl 30 (.tmp 2) (.tmp 9) rfl (w.heap.size + 1) _ _ [.string ⟨#[]⟩, .string ⟨#[]⟩, .int .i64 0, .int .i64 0, .slice none 0 0] hb1 rfl rfl 5 info_hr rfl rfl (by simp [Value.oneCell']) ?_
         intro w2 hb2 hg2))
    refine ret_blk_tmp (p := 2) (u := 3) (ty := 30) rfl (w.heap.size + 1) _ _ _ hb2 rfl (.int .i64 E) rfl Tryz.underlying30 rfl 5 info_hr rfl rfl ?_
    exact ⟨grow_own hgw hg2 hz, .inr ⟨by rw [HF.out]; exact HN.out, by rw [HF.out]; rfl⟩⟩
end Go.Proofs.YtempjmpfdniecaaGreatDoor
namespace Go.Proofs.YtempjmpfdniecaaGreatDoor
open Go.RowKit
/-- The legs of a hire whose last one ends. -/
def endLegs (l : List Lg) (r : Rd) : List Lg :=
  match l[l.length - 1]? with
  | some g => l.set (l.length - 1) ⟨g.veh, g.out, r⟩
  | none => l
def closeE (h : Hr) (r : Rd) : Int := if goingE h = 0 then hireE ⟨h.key, h.driver, h.fr, h.to_, endLegs h.legs r⟩ else goingE h
theorem info_rd : (Tryz.prog.info? 48).map (·.size) = some 4 := by kernel_rfl
theorem goingE_ok {h : Hr} (hg : goingE h = 0) : hireE h = 0 ∧ openB h.legs = true := by
  unfold goingE at hg
  by_cases h0 : hireE h = 0
  · rw [if_pos h0] at hg
    refine ⟨h0, ?_⟩
    by_cases ho : openB h.legs = true
    · exact ho
    · rw [if_neg ho] at hg; cases hg
  · rw [if_neg h0] at hg; exact absurd hg h0
theorem end_ok {l : List Lg} {r : Rd} (h : ∀ g ∈ l, LgOk g) (hr : RdOk r) : ∀ g ∈ endLegs l r, LgOk g := by
  unfold endLegs
  cases hl : l[l.length - 1]? with
  | none => exact h
  | some g =>
    intro x hx
    rcases List.mem_or_eq_of_mem_set hx with hx | rfl
    · exact h x hx
    · have := h g (List.mem_of_getElem? hl)
      exact ⟨this.1, this.2.1, hr⟩
set_option maxRecDepth 100000 in
set_option maxHeartbeats 1000000 in
theorem close_any (key driver : ByteArray) (fr to_ : Int) (l : List Lg) (A : Option Addr) (n c : Nat) (r : Rd) (w : World) (hl : SlT lgEnc 9 135 w A n l) (hok : HrOk key driver l) (hr : RdOk r) (hn : n ≤ 1000000) :
    Calls Tryz.prog 20 #[.agg #[.string key, .string driver, .int .i64 fr, .int .i64 to_, .slice A n c], .agg (rdCells r).toArray] w (fun e w' => w.grownBy w' none ∧
      ∃ A' c', e = .returned (.tuple #[madeV key driver fr to_ A' n c' (closeE ⟨key, driver, fr, to_, l⟩ r), .int .i64 (closeE ⟨key, driver, fr, to_, l⟩ r)]) ∧ (closeE ⟨key, driver, fr, to_, l⟩ r = 0 → SlT lgEnc 9 135 w' A' n (endLegs l r))) := by
  obtain ⟨E, hE⟩ : ∃ E, E = closeE ⟨key, driver, fr, to_, l⟩ r := ⟨_, rfl⟩
  obtain ⟨G, hG⟩ : ∃ G, G = goingE ⟨key, driver, fr, to_, l⟩ := ⟨_, rfl⟩
  rw [← hE]
  have HE := Lib.hid hE
  have HG := Lib.hid hG
  have Hok := Lib.hid hok
  have Hend := Lib.hid (end_ok hok.2.2 hr)
  have hlen := hl.len
  clear hE hG hok
  obtain ⟨at_, st, me, fu⟩ := r
  show Calls Tryz.prog 20 #[.agg #[.string key, .string driver, .int .i64 fr, .int .i64 to_, .slice A n c], .agg #[.int .i64 at_, .string st, .int .i64 me, .int .i64 fu]] w _
  go_enter Tryz.func20, Tryz.ntmps20
  go_wp2_with fail
  refine (going_any key driver fr to_ l A n c _ (((hl.alloc _).alloc _).alloc _) Hok.out hn).mono ?_
  rintro e w1 ⟨hg1, hcase⟩
  have hbA : Blk w1 w.heap.size 30 [.string key, .string driver, .int .i64 fr, .int .i64 to_, .slice A n c] := (((Blk.at_ w rfl _ _).alloc _).alloc _).grown hg1 (by simp)
  have hbB : Blk w1 (w.heap.size + 1) 48 [.int .i64 at_, .string st, .int .i64 me, .int .i64 fu] := ((Blk.at_ (w.alloc _) (by simp) _ _).alloc _).grown hg1 (by simp)
  have hbC : Blk w1 (w.heap.size + 2) 30 [.string ⟨#[]⟩, .string ⟨#[]⟩, .int .i64 0, .int .i64 0, .slice none 0 0] := (Blk.at_ ((w.alloc _).alloc _) (by simp) _ _).grown hg1 (by simp)
  have hgw : w.grownBy w1 none := grow_trans (grow_alloc (grow_alloc (grow_alloc (World.grownBy.refl _ _) _) _) _) hg1
  have hzA : ∀ k, some w.heap.size = some k → w.heap.size ≤ k := fun k h => by cases h; omega
  have hzC : ∀ k, some (w.heap.size + 2) = some k → w.heap.size ≤ k := fun k h => by cases h; omega
  clear hg1
  rw [← HG.out] at hcase
  rcases hcase with ⟨hG0, g, c', rfl, hown⟩ | ⟨hG0, rfl⟩
  · have hgo := goingE_ok (HG.out.symm.trans hG0)
    have hn0 : 0 < n := by have := (hireE_legs hgo.1).1; exact hlen ▸ this
    have HEE := Lib.hid (show E = hireE ⟨key, driver, fr, to_, endLegs l ⟨at_, st, me, fu⟩⟩ by rw [HE.out]; unfold closeE; rw [if_pos (HG.out.symm.trans hG0)])
    subst hG0
    clear hgo
    have hgz : w.heap.size + 3 ≤ g := by have := hown.1; simp at this; omega
    have hgl := hown.lt
    obtain ⟨cs, hbg, hcs, htk⟩ := hown.blk
    have Htk := Lib.hid htk
    clear htk hown
    obtain ⟨x, hx⟩ : ∃ x, l[n - 1]? = some x := ⟨_, List.getElem?_eq_getElem (by omega)⟩
    have Hx := Lib.hid hx
    have HL := Lib.hid (show endLegs l ⟨at_, st, me, fu⟩ = l.set (n - 1) ⟨x.veh, x.out, ⟨at_, st, me, fu⟩⟩ by unfold endLegs; rw [hlen, hx])
    have hfit : (n - 1) * 9 + 5 + 4 ≤ cs.length := by omega
    have hki : (n : Int) - 1 = ((n - 1 : Nat) : Int) := by omega
    have hk1 : (n : Int) - 1 < (n : Int) := by omega
    clear hx
    go_wp2_with (first
      | (with_reducible refine wpList_store_all rfl 30 (.tmp 2) (.tmp 10) rfl w.heap.size _ _ [.string key, .string driver, .int .i64 fr, .int .i64 to_, .slice (some ⟨g, 0, none⟩) n c'] hbA rfl rfl 5 info_hr rfl rfl (by simp [Value.oneCell']) ?_
         intro w2 hbA2 hg2
         have k4 := hbA2.cell_of (i := 4) (v := .slice (some ⟨g, 0, none⟩) n c') rfl
         have hbB2 := hbB.grown hg2 (fun h => absurd (Option.some.inj h) (by omega))
         have b0 := hbB2.cell_of (i := 0) (v := .int .i64 at_) rfl
         have b1 := hbB2.cell_of (i := 1) (v := .string st) rfl
         have b2 := hbB2.cell_of (i := 2) (v := .int .i64 me) rfl
         have b3 := hbB2.cell_of (i := 3) (v := .int .i64 fu) rfl
         have hbg2 := hbg.grown hg2 (fun h => absurd (Option.some.inj h) (by omega)))
      | (with_reducible refine wpList_store_blk rfl 48 (.tmp 24) (.tmp 22) rfl g ((n - 1) * 9 + 5) _ cs [.int .i64 at_, .string st, .int .i64 me, .int .i64 fu] hbg2 rfl rfl 4 info_rd rfl hfit (by simp [Value.oneCell']) ?_
         intro w3 hbg3 hg3
         have hbA3 := hbA2.grown hg3 (fun h => absurd (Option.some.inj h) (by omega)))
      | (with_reducible refine wpList_load_all rfl 30 (.tmp 2) rfl w.heap.size _ _ _ hbA3 rfl Tryz.underlying30 rfl 5 info_hr rfl ?_))
    have hsl : SlT lgEnc 9 135 w3 (some ⟨g, 0, none⟩) n (endLegs l ⟨at_, st, me, fu⟩) := by
      rw [HL.out]
      exact SlT.spliced lg_len hcs Htk.out hlen (r := 5) (vs := [.int .i64 at_, .string st, .int .i64 me, .int .i64 fu]) Hx.out rfl (by simp) hbg3
    have hz2 := hbC.lt
    have hgw2 := grow_own hgw hg2 hzA
    have hgw3 := grow_own hgw2 hg3 (fun k h => by cases h; omega)
    have hbC3 := (hbC.grown hg2 (fun h => absurd (Option.some.inj h) (by omega))).grown hg3 (fun h => absurd (Option.some.inj h) (by omega))
    clear hbA hbB hbC hbg hg2 hg3 hgw hgw2 hbA2 hbA3 hbB2 b0 b1 b2 b3 k4 hbg2 hbg3
    refine (made_any key driver fr to_ (endLegs l ⟨at_, st, me, fu⟩) (some ⟨g, 0, none⟩) n c' w3 hsl ⟨Hok.out.1, Hok.out.2.1, Hend.out⟩ hn).mono ?_
    rintro e w4 ⟨rfl, hg4⟩
    rw [← HEE.out]
    have hsl4 := hsl.grow0 hg4
    have hbC4 := hbC3.grown hg4 (by simp)
    have hgw4 := grow_trans hgw3 hg4
    clear hsl hbC3 hgw3 hg4
    by_cases h0 : E = 0
    · have hV : madeV key driver fr to_ (some ⟨g, 0, none⟩) n c' E = .agg #[.string key, .string driver, .int .i64 fr, .int .i64 to_, .slice (some ⟨g, 0, none⟩) n c'] := by rw [h0]; rfl
      rw [hV]
      have HV := Lib.hid hV
      clear h0 hV
      go_wp2_with (first
        | (with_reducible refine wpList_store_all rfl 30 (.tmp 4) (.tmp 27) rfl (w.heap.size + 2) _ _ [.string key, .string driver, .int .i64 fr, .int .i64 to_, .slice (some ⟨g, 0, none⟩) n c'] hbC4 rfl rfl 5 info_hr rfl rfl (by simp [Value.oneCell']) ?_
           intro w5 hb5 hg5))
      refine ret_blk_tmp (p := 4) (u := 5) (ty := 30) rfl (w.heap.size + 2) _ _ _ hb5 rfl (.int .i64 E) rfl Tryz.underlying30 rfl 5 info_hr rfl rfl ?_
      exact ⟨grow_own hgw4 hg5 hzC, some ⟨g, 0, none⟩, c', by rw [HV.out], fun _ => hsl4.grown hg5 hbC4 (by decide)⟩
    · have hV : madeV key driver fr to_ (some ⟨g, 0, none⟩) n c' E = .agg #[.string ⟨#[]⟩, .string ⟨#[]⟩, .int .i64 0, .int .i64 0, .slice none 0 0] := by unfold madeV; rw [if_neg h0]
      rw [hV]
      have HV := Lib.hid hV
      have H0 := Lib.hid h0
      clear h0 hV
      go_wp2_with (first
        | (with_reducible refine wpList_store_all rfl 30 (.tmp 4) (.tmp 27) rfl (w.heap.size + 2) _ _ [.string ⟨#[]⟩, .string ⟨#[]⟩, .int .i64 0, .int .i64 0, .slice none 0 0] hbC4 rfl rfl 5 info_hr rfl rfl (by simp [Value.oneCell']) ?_
           intro w5 hb5 hg5))
      refine ret_blk_tmp (p := 4) (u := 5) (ty := 30) rfl (w.heap.size + 2) _ _ _ hb5 rfl (.int .i64 E) rfl Tryz.underlying30 rfl 5 info_hr rfl rfl ?_
      exact ⟨grow_own hgw4 hg5 hzC, some ⟨g, 0, none⟩, c', by rw [HV.out], fun h => absurd h H0.out⟩
  · have hne : (G != 0) = true := by simpa using hG0
    have HEE := Lib.hid (show E = G by rw [HE.out]; unfold closeE; rw [if_neg (fun h => hG0 (HG.out.trans h)), HG.out])
    rw [show noHire = .agg #[.string ⟨#[]⟩, .string ⟨#[]⟩, .int .i64 0, .int .i64 0, .slice none 0 0] from rfl]
    have hN := Lib.hid hG0
    have HV := Lib.hid (show madeV key driver fr to_ none n 0 E = .agg #[.string ⟨#[]⟩, .string ⟨#[]⟩, .int .i64 0, .int .i64 0, .slice none 0 0] by unfold madeV; rw [if_neg (by rw [HEE.out]; exact hG0)])
    clear hG0
    go_wp2_with (first
      | (with_reducible refine wpList_store_all rfl 30 (.tmp 2) (.tmp 10) rfl w.heap.size _ _ [.string ⟨#[]⟩, .string ⟨#[]⟩, .int .i64 0, .int .i64 0, .slice none 0 0] hbA rfl rfl 5 info_hr rfl rfl (by simp [Value.oneCell']) ?_
         intro w2 hbA2 hg2
         have hbC2 := hbC.grown hg2 (fun h => absurd (Option.some.inj h) (by omega)))
      | (with_reducible refine wpList_store_all rfl 30 (.tmp 4) (.tmp 14) rfl (w.heap.size + 2) _ _ [.string ⟨#[]⟩, .string ⟨#[]⟩, .int .i64 0, .int .i64 0, .slice none 0 0] hbC2 rfl rfl 5 info_hr rfl rfl (by simp [Value.oneCell']) ?_
         intro w3 hb3 hg3))
    refine ret_blk_tmp (p := 4) (u := 5) (ty := 30) rfl (w.heap.size + 2) _ _ _ hb3 rfl (.int .i64 G) rfl Tryz.underlying30 rfl 5 info_hr rfl rfl ?_
    exact ⟨grow_own (grow_own hgw hg2 hzA) hg3 hzC, none, 0, by rw [HV.out, HEE.out], fun h => absurd (HEE.out.symm.trans h) hN.out⟩
end Go.Proofs.YtempjmpfdniecaaGreatDoor
namespace Go.Proofs.YtempjmpfdniecaaGreatDoor
open Go.RowKit
set_option maxRecDepth 100000 in
set_option maxHeartbeats 1000000 in
theorem isOpen_any (key driver : ByteArray) (fr to_ : Int) (l : List Lg) (A : Option Addr) (n c : Nat) (w : World) (hl : SlT lgEnc 9 135 w A n l) (hn : n ≤ 1000000) :
    Calls Tryz.prog 21 #[.agg #[.string key, .string driver, .int .i64 fr, .int .i64 to_, .slice A n c]] w (fun e w' => e = .returned (.bool (openB l)) ∧ w.grownBy w' none) := by
  have hlen := hl.len
  by_cases hn0 : n = 0
  · have HO := Lib.hid (show openB l = false by
      have : l = [] := List.length_eq_zero_iff.1 (by omega)
      rw [this]; rfl)
    subst hn0
    clear hlen
    go_enter Tryz.func21, Tryz.ntmps21
    go_wp2_with fail
    go_ret
    exact ⟨ret_bool HO.out.symm, grow_alloc (World.grownBy.refl _ _) _⟩
  · have hp : 0 < n := by omega
    obtain ⟨g, hg⟩ : ∃ g, l[n - 1]? = some g := ⟨_, List.getElem?_eq_getElem (by omega)⟩
    obtain ⟨b, off, rfl, hbl, hrg⟩ := hl.get hp
    have HO := Lib.hid (show openB l = (g.inn.at_ == -1) by unfold openB; rw [hlen, hg])
    obtain ⟨veh, ⟨a1, s1, m1, f1⟩, ⟨a2, s2, m2, f2⟩⟩ := g
    have hr0 := hrg (n - 1) _ hg
    have hc : w.cell? ⟨b, off + (n - 1) * 9 + 5, none⟩ = some (.int .i64 a2) := hr0 5 _ rfl
    have hc2 := fun o => (World.cell?_of_block (a := ⟨b, off + (n - 1) * 9 + 5, none⟩) (Below.heap_alloc w o b hbl)).trans hc
    have hki : (n : Int) - 1 = ((n - 1 : Nat) : Int) := by omega
    have hk1 : (n : Int) - 1 < (n : Int) := by omega
    have hk0 : (0 : Int) ≤ (n : Int) - 1 := by omega
    have hpos : decide (0 < n) = true := by simpa using hp
    clear hr0 hrg hc hg hlen hl hn0
    go_enter Tryz.func21, Tryz.ntmps21
    go_wp2_with fail
    go_ret
    exact ⟨ret_bool HO.out.symm, grow_alloc (World.grownBy.refl _ _) _⟩
set_option maxRecDepth 100000 in
set_option maxHeartbeats 1000000 in
theorem closeFn_any (hb rb g : Nat) (key driver : ByteArray) (fr to_ : Int) (n c : Nat) (r : Rd) (cs : List Value) (w : World) (hH : Blk w hb 30 [.string key, .string driver, .int .i64 fr, .int .i64 to_, .slice (some ⟨g, 0, none⟩) n c]) (hR : Blk w rb 48 (rdCells r))
    (hG : Blk w g 135 cs) (hn0 : 0 < n) (hn : n ≤ 1000000) (hfit : n * 9 ≤ cs.length) :
    Calls Tryz.prog 170 #[.pointer (some ⟨hb, 0, none⟩), .pointer (some ⟨rb, 0, none⟩)] w (fun e w' => (∃ r, e = .returned r) ∧ Blk w' g 135 (splice cs ((n - 1) * 9 + 5) (rdCells r)) ∧ w.grownBy w' (some g)) := by
  have c4 := hH.cell_of (i := 4) (v := .slice (some ⟨g, 0, none⟩) n c) rfl
  obtain ⟨a1, s1, m1, f1⟩ := r
  have r0 := hR.cell_of (i := 0) (v := .int .i64 a1) rfl
  have r1 := hR.cell_of (i := 1) (v := .string s1) rfl
  have r2 := hR.cell_of (i := 2) (v := .int .i64 m1) rfl
  have r3 := hR.cell_of (i := 3) (v := .int .i64 f1) rfl
  have hki : (n : Int) - 1 = ((n - 1 : Nat) : Int) := by omega
  have hk1 : (n : Int) - 1 < (n : Int) := by omega
  have hk0 : (0 : Int) ≤ (n : Int) - 1 := by omega
  have hf : (n - 1) * 9 + 5 + 4 ≤ cs.length := by omega
  have w1 : IntKind.i64.wrap ((n - 1 : Nat) : Int) = ((n - 1 : Nat) : Int) := IntWalk.i64_in _ (by omega)
  have hix : ((n - 1 : Nat) : Int) < (n : Int) := by omega
  have hix2 : n - 1 < n := by omega
  go_enter Tryz.func170, Tryz.ntmps170
  go_wp2_with fail
  refine wp_region_still_tail 13 (by kernel_rfl) (by kernel_rfl) ?_
  change wpStill _ _ (World.drew _) _ _ _
  simp only [List.take_succ_cons, List.take_zero, List.drop_succ_cons, List.drop_zero]
  repeat still_step
  refine wpStill_nil ?_
  change wpList _ _ _ _ _ (World.drew _)
  go_wp2_with (with_reducible refine wpList_store_blk rfl 48 (.tmp 15) (.tmp 13) rfl g ((n - 1) * 9 + 5) _ cs [.int .i64 a1, .string s1, .int .i64 m1, .int .i64 f1] hG.drew rfl rfl 4 info_rd rfl hf (by simp [Value.oneCell']) ?_
               intro w3 hG3 hg3)
  go_end0
  exact ⟨⟨_, rfl⟩, hG3, grow_trans (grow_drew (World.grownBy.refl _ _)) hg3⟩
end Go.Proofs.YtempjmpfdniecaaGreatDoor
namespace Go.Proofs.YtempjmpfdniecaaGreatDoor
open Go.RowKit
theorem splice_app_right {α : Type} (a b : List α) (o : Nat) (vs : List α) : splice (a ++ b) (a.length + o) vs = a ++ splice b o vs := by
  simp [splice, List.take_append, List.drop_append, Nat.add_assoc, List.take_of_length_le, List.drop_of_length_le]
theorem splice_app_left {α : Type} (a b : List α) (o : Nat) (vs : List α) (h : o + vs.length ≤ a.length) : splice (a ++ b) o vs = splice a o vs ++ b := by
  have h1 : o - a.length = 0 := by omega
  have h2 : o + vs.length - a.length = 0 := by omega
  simp [splice, List.take_append, List.drop_append, h1, h2]
theorem flat_set {α : Type} (enc : α → List Value) (k : Nat) (hk : ∀ x, (enc x).length = k) {x y : α} {r : Nat} {vs : List Value} (hy : enc y = splice (enc x) r vs) (hr : r + vs.length ≤ k) :
    ∀ (l : List α) (i : Nat), l[i]? = some x → splice (l.flatMap enc) (i * k + r) vs = (l.set i y).flatMap enc
  | [], i, h => by simp at h
  | z :: t, 0, h => by
    simp at h; subst h
    rw [List.flatMap_cons, Nat.zero_mul, Nat.zero_add, splice_app_left _ _ _ _ (by rw [hk]; exact hr), ← hy, List.set_cons_zero, List.flatMap_cons]
  | z :: t, i + 1, h => by
    have ih := flat_set enc k hk hy hr t i (by simpa using h)
    rw [List.flatMap_cons, show (i + 1) * k + r = (enc z).length + (i * k + r) by rw [hk, Nat.add_mul]; omega, splice_app_right, ih, List.set_cons_succ, List.flatMap_cons]
theorem take_splice {α : Type} (cs : List α) (o m : Nat) (vs : List α) (h : o + vs.length ≤ m) (hm : m ≤ cs.length) : (splice cs o vs).take m = splice (cs.take m) o vs := by
  obtain ⟨a, b, rfl, hl⟩ : ∃ a b, cs = a ++ b ∧ a.length = m := ⟨cs.take m, cs.drop m, (List.take_append_drop m cs).symm, by simp; omega⟩
  have h2 : (splice a o vs).length = m := by rw [splice_length _ _ _ (by rw [hl]; exact h), hl]
  rw [splice_app_left _ _ _ _ (by rw [hl]; exact h), List.take_append_of_le_length (by omega), List.take_of_length_le (by omega), List.take_append_of_le_length (by omega), List.take_of_length_le (by omega)]
/-- One element's cells of an owned row are stored anew: it is owned still, with that element set. -/
theorem OwnT.spliced {α : Type} {enc : α → List Value} {k : Nat} {T : TypeId} {w w' : World} {base g n c : Nat} {l : List α} {cs : List Value} (h : OwnT enc k T w base g n c l) (hk : ∀ x, (enc x).length = k) (hcs : Blk w g T cs)
    {i0 r : Nat} {x y : α} {vs : List Value} (hx : l[i0]? = some x) (hy : enc y = splice (enc x) r vs) (hr : r + vs.length ≤ k) (hn : l.length = n) (hb : Blk w' g T (splice cs (i0 * k + r) vs)) : OwnT enc k T w' base g n c (l.set i0 y) := by
  obtain ⟨h0, h1, h2⟩ := h
  refine ⟨h0, by rw [flat_len enc k hk, List.length_set, hn], ?_⟩
  have hi0 : i0 < n := by have := (List.getElem?_eq_some_iff.1 hx).1; omega
  have hik : i0 * k + k ≤ n * k := by
    have := Nat.mul_le_mul_right k (show i0 + 1 ≤ n by omega)
    rw [Nat.add_mul] at this; omega
  rcases h2 with ⟨h2, _⟩ | ⟨g', cap, cur, hv, hbase, hh, hle2, hcap, hsz, htk⟩
  · cases h2
  · have hv' := hv
    injection hv with hA hn' hc'
    injection hA with hA
    injection hA with hg _ _
    subst hg
    unfold Blk at hcs
    rw [hcs] at hh
    injection hh with hh
    injection hh with hh _ _
    have hcur : cur.toList = cs := by rw [← hh]
    have hlen : n * k ≤ cs.length := by
      have := Nat.mul_le_mul_right k hle2
      rw [← hcur, Array.length_toList]; simp [hsz]; omega
    refine .inr ⟨g, cap, (splice cs (i0 * k + r) vs).toArray, hv', hbase, hb, hle2, hcap, ?_, ?_⟩
    · have : (splice cs (i0 * k + r) vs).length = cs.length := splice_length _ _ _ (by omega)
      rw [List.size_toArray, this, ← hcur, Array.length_toList]; exact hsz
    · show ((splice cs (i0 * k + r) vs).toArray).toList.take (n * k) = _
      rw [hcur] at htk
      rw [List.toList_toArray, take_splice _ _ _ _ (by omega) hlen, htk]
      exact flat_set enc k hk hy hr l i0 hx
end Go.Proofs.YtempjmpfdniecaaGreatDoor
namespace Go.Proofs.YtempjmpfdniecaaGreatDoor
open Go.RowKit
/-- A leg is appended to an owned row of legs, in a region that draws its order. -/
theorem step_app_leg {ops : Array Oper} {o : Oper} {a : Act} {w : World} {K : Act → World → Prop} {Q : Exit → Act → World → Prop} {E : Prop} (hgd : o.guard = none) (s x : Operand)
    (ho : o.op = .call { callee := .builtin .append, args := #[s, x], argTypes := #[28, 28] }) (base g n c b : Nat) (l : List Lg) (y : Lg) (hs : a.eval s = .slice (some ⟨g, 0, none⟩) n c) (hown : w.ownsRow base 135 9 (.slice (some ⟨g, 0, none⟩) n c) n (l.flatMap lgEnc))
    (hx : a.eval x = .slice (some ⟨b, 0, none⟩) 1 1) (hnews : ∀ j u, (lgEnc y)[j]? = some u → w.cell? ((⟨b, 0, none⟩ : Addr).add j) = some u) (hn : n ≤ 1000000) (hbase : base ≤ w.heap.size)
    (h : ∀ g4 cap4 w4, w4.ownsRow base 135 9 (.slice (some ⟨g4, 0, none⟩) (n + 1) cap4) (n + 1) (l.flatMap lgEnc ++ lgEnc y) → w.grownBy w4 (some g) → (g4 = g ∨ g4 = w.heap.size) → g4 < w4.heap.size → K (a.put o.dst (.slice (some ⟨g4, 0, none⟩) (n + 1) cap4)) w4) :
    if Region.wanted o (yielded ops a.tmps) = true then Oper.wp Tryz.prog o a w K Q else E := by
  obtain ⟨i0, z0, hi, hz, hsz, hby, hzs⟩ := leg_info
  exact step_append_lies w hgd s x _ ho base 135 i0 z0 9 96 Tryz.underlying28 hi hz hsz hby hzs (by decide) _ n _ hs hown ⟨b, 0, none⟩ 1 1 (lgEnc y) hx (lg_len y) hnews (lg_one y) (by decide) (by unfold maxLen; omega) (by omega) hbase _ rfl
    (fun g4 cap4 w4 h1 h2 h3 h4 => h g4 cap4 w4 h1 h2 (by
      rcases h3 with h3 | h3
      · cases h3; exact .inl rfl
      · exact .inr h3) h4)
set_option maxRecDepth 100000 in
set_option maxHeartbeats 4000000 in
theorem exchangeFn_any (base hb ib vb ob g : Nat) (key driver veh : ByteArray) (fr to_ : Int) (n c : Nat) (r q : Rd) (l : List Lg) (x : Lg) (w : World) (hH : Blk w hb 30 [.string key, .string driver, .int .i64 fr, .int .i64 to_, .slice (some ⟨g, 0, none⟩) n c]) (hI : Blk w ib 48 (rdCells r))
    (hV : Blk w vb 9 [.string veh]) (hO : Blk w ob 48 (rdCells q)) (hG : OwnT lgEnc 9 135 w base g n c l) (hn0 : 0 < n) (hn : n ≤ 1000000) (hx : l[n - 1]? = some x) (hl : l.length = n) (hne : vb ≠ g ∧ ob ≠ g ∧ hb ≠ g) (hbase : hb < base) :
    Calls Tryz.prog 169 #[.pointer (some ⟨hb, 0, none⟩), .pointer (some ⟨ib, 0, none⟩), .pointer (some ⟨vb, 0, none⟩), .pointer (some ⟨ob, 0, none⟩)] w (fun e w' => (∃ r, e = .returned r) ∧
      ∃ g' c', Blk w' hb 30 [.string key, .string driver, .int .i64 fr, .int .i64 to_, .slice (some ⟨g', 0, none⟩) (n + 1) c'] ∧ OwnT lgEnc 9 135 w' base g' (n + 1) c' (l.set (n - 1) ⟨x.veh, x.out, r⟩ ++ [startLeg veh q]) ∧
        (∀ k, k < base → k ≠ hb → w'.heap[k]? = w.heap[k]?) ∧ w'.os = w.os ∧ w'.tape = w.tape ∧ w'.output = w.output ∧ w.heap.size ≤ w'.heap.size) := by
  obtain ⟨cs, hC, hfit, htk⟩ := hG.blk
  have hgl := hG.lt
  have hg0 : base ≤ g := hG.1
  have c4 := hH.cell_of (i := 4) (v := .slice (some ⟨g, 0, none⟩) n c) rfl
  have fz := hH.frozen 4
  obtain ⟨a1, s1, m1, f1⟩ := r
  obtain ⟨a2, s2, m2, f2⟩ := q
  have r0 := hI.cell_of (i := 0) (v := .int .i64 a1) rfl
  have r1 := hI.cell_of (i := 1) (v := .string s1) rfl
  have r2 := hI.cell_of (i := 2) (v := .int .i64 m1) rfl
  have r3 := hI.cell_of (i := 3) (v := .int .i64 f1) rfl
  have hki : (n : Int) - 1 = ((n - 1 : Nat) : Int) := by omega
  have hk1 : (n : Int) - 1 < (n : Int) := by omega
  have hk0 : (0 : Int) ≤ (n : Int) - 1 := by omega
  have hf : (n - 1) * 9 + 5 + 4 ≤ cs.length := by omega
  have w1 : IntKind.i64.wrap ((n - 1 : Nat) : Int) = ((n - 1 : Nat) : Int) := IntWalk.i64_in _ (by omega)
  have hix : ((n - 1 : Nat) : Int) < (n : Int) := by omega
  have hix2 : n - 1 < n := by omega
  obtain ⟨L, hL⟩ : ∃ L, L = l.set (n - 1) ⟨x.veh, x.out, ⟨a1, s1, m1, f1⟩⟩ := ⟨_, rfl⟩
  rw [← hL]
  have HL := Lib.hid hL
  clear hL
  go_enter Tryz.func169, Tryz.ntmps169
  go_wp2_with fail
  refine wp_region_still_tail 13 (by kernel_rfl) (by kernel_rfl) ?_
  change wpStill _ _ (World.drew _) _ _ _
  simp only [List.take_succ_cons, List.take_zero, List.drop_succ_cons, List.drop_zero]
  repeat still_step
  refine wpStill_nil ?_
  change wpList _ _ _ _ _ (World.drew _)
  go_wp2_with (with_reducible refine wpList_store_blk rfl 48 (.tmp 17) (.tmp 15) rfl g ((n - 1) * 9 + 5) _ cs [.int .i64 a1, .string s1, .int .i64 m1, .int .i64 f1] hC.drew rfl rfl 4 info_rd rfl hf (by simp [Value.oneCell']) ?_
               intro w3 hC3 hg3)
  have hg3' : w.grownBy w3 (some g) := grow_trans (grow_drew (World.grownBy.refl _ _)) hg3
  have hH3 := hH.grown hg3' (fun h => absurd (Option.some.inj h) hne.2.2)
  have hV3 := hV.grown hg3' (fun h => absurd (Option.some.inj h) hne.1)
  have hO3 := hO.grown hg3' (fun h => absurd (Option.some.inj h) hne.2.1)
  have hG3 : OwnT lgEnc 9 135 w3 base g n c (l.set (n - 1) ⟨x.veh, x.out, ⟨a1, s1, m1, f1⟩⟩) := hG.spliced lg_len hC hx (r := 5) (vs := [.int .i64 a1, .string s1, .int .i64 m1, .int .i64 f1]) rfl (by simp) hl hC3
  rw [← HL.out] at hG3
  have hlt3 := hG3.lt
  have HG3 := Lib.hid hG3
  have hgl3 : hb < w3.heap.size := hH3.lt
  have hvl3 := hV3.lt
  have hol3 := hO3.lt
  clear hH hI hV hO hG hC hC3 htk hg3 c4 fz r0 r1 r2 r3 hki hk1 hk0 hf w1 hix hix2 hx hl hG3
  have c4 := hH3.cell_of (i := 4) (v := .slice (some ⟨g, 0, none⟩) n c) rfl
  have fz := hH3.frozen 4
  have hnews : ∀ j u, (lgEnc (startLeg veh ⟨a2, s2, m2, f2⟩))[j]? = some u → (w3.alloc (.cells #[.string veh, .int .i64 a2, .string s2, .int .i64 m2, .int .i64 f2, .int .i64 (-1), .string ⟨#[]⟩, .int .i64 0, .int .i64 0] 135)).drew.cell? ((⟨w3.heap.size, 0, none⟩ : Addr).add j) = some u := fun j u hj => by
    have hb := Blk.at_ w3 rfl 135 (lgEnc (startLeg veh ⟨a2, s2, m2, f2⟩))
    have := hb.cell_of hj
    have ha : (⟨w3.heap.size, 0, none⟩ : Addr).add j = ⟨w3.heap.size, j, none⟩ := by
      unfold Addr.add
      split
      · rename_i h; subst h; rfl
      · simp
    rw [ha]; exact this
  have Hnews := Lib.hid hnews
  clear hnews
  go_wp2_with fail
  have p0 := hV3.cell_of (i := 0) (v := .string veh) rfl
  have o0 := hO3.cell_of (i := 0) (v := .int .i64 a2) rfl
  have o1 := hO3.cell_of (i := 1) (v := .string s2) rfl
  have o2 := hO3.cell_of (i := 2) (v := .int .i64 m2) rfl
  have o3 := hO3.cell_of (i := 3) (v := .int .i64 f2) rfl
  have hbs : base ≤ ((w3.alloc (.cells #[.string veh, .int .i64 a2, .string s2, .int .i64 m2, .int .i64 f2, .int .i64 (-1), .string ⟨#[]⟩, .int .i64 0, .int .i64 0] 135)).drew).heap.size := by
    show base ≤ (w3.alloc _).heap.size
    simp; omega
  have Hown3 := Lib.hid (show World.ownsRow ((w3.alloc (.cells #[.string veh, .int .i64 a2, .string s2, .int .i64 m2, .int .i64 f2, .int .i64 (-1), .string ⟨#[]⟩, .int .i64 0, .int .i64 0] 135)).drew) base 135 9 (.slice (some ⟨g, 0, none⟩) n c) n (L.flatMap lgEnc) from (HG3.out.kept (Below.heap_alloc w3 _ g hlt3) (Nat.le_refl _)).2)
  go_region_law (first
      | (refine step_app_leg rfl _ _ rfl base g n c w3.heap.size L (startLeg veh ⟨a2, s2, m2, f2⟩) rfl Hown3.out rfl Hnews.out hn hbs ?_; intro g4 cap4 w4 hown4 hgrow4 hat4 hlt4; have hV4 := ((hV3.alloc _).drew).grown hgrow4 (fun h => absurd (Option.some.inj h) hne.1); have hO4 := ((hO3.alloc _).drew).grown hgrow4 (fun h => absurd (Option.some.inj h) hne.2.1); have hH4 := ((hH3.alloc _).drew).grown hgrow4 (fun h => absurd (Option.some.inj h) hne.2.2); have c4' := hH4.cell_of (i := 4) (v := .slice (some ⟨g, 0, none⟩) n c) rfl; have fz4 := hH4.frozen 4))
  all_goals
    go_wp2_with fail
    go_end0
    have hg4 : base ≤ g4 := by
      rcases hat4 with h | h
      · rw [h]; exact hg0
      · rw [h]; simp; omega
    have hne4 : (Value.slice (some ⟨g4, 0, none⟩) (n + 1) cap4).ownBlock ≠ some hb := fun h => by have e : g4 = hb := Option.some.inj h; omega
    have hgr : w.grownBy w4 (some g) := grow_trans hg3' (grow_trans (grow_drew (grow_alloc (World.grownBy.refl _ _) _)) hgrow4)
    refine ⟨⟨_, rfl⟩, g4, cap4, hH4.set_ 4 _, ⟨hg4, ?_⟩, fun k hk hkb => ?_, hgr.os, hgr.tape, hgr.output, by simpa [World.setCell] using hgr.size⟩
    · have := ownsRow_setCell_other hown4 (a := ⟨hb, 4, none⟩) hne4 (.slice (some ⟨g4, 0, none⟩) (n + 1) cap4)
      rw [List.flatMap_append, show [startLeg veh ⟨a2, s2, m2, f2⟩].flatMap lgEnc = lgEnc (startLeg veh ⟨a2, s2, m2, f2⟩) from by simp]
      exact this
    · exact (Below.heap_setCell w4 _ _ k hkb).trans (hgr.block k (by omega) (fun h => by have e : g = k := (Option.some.inj h).symm; omega))
end Go.Proofs.YtempjmpfdniecaaGreatDoor
namespace Go.Proofs.YtempjmpfdniecaaGreatDoor
open Go.RowKit
/-- The error of what changed makes of a right hire. -/
def chE (l : List Lg) (x : Int) : Int := bif openB l then x else 11
def exchLegs (l : List Lg) (r : Rd) (veh : ByteArray) (q : Rd) : List Lg := endLegs l r ++ [startLeg veh q]
theorem exch_ok {l : List Lg} {r : Rd} {veh : ByteArray} {q : Rd} (h : ∀ g ∈ l, LgOk g) (hr : RdOk r) (hv : veh.size ≤ 1000000) (hq : RdOk q) : ∀ g ∈ exchLegs l r veh q, LgOk g := by
  intro g hg
  rcases List.mem_append.1 hg with hg | hg
  · exact end_ok h hr g hg
  · rw [List.mem_singleton.1 hg]
    exact ⟨hv, hq, (by decide : (⟨#[]⟩ : ByteArray).size ≤ 1000000)⟩
set_option maxRecDepth 100000 in
set_option maxHeartbeats 2000000 in
theorem changedClose_any (key driver : ByteArray) (fr to_ : Int) (l : List Lg) (A : Option Addr) (n c : Nat) (w : World) (hl : SlT lgEnc 9 135 w A n l) (hok : HrOk key driver l) (hn : n ≤ 1000) (rb : Nat) (r : Rd) (hr : RdOk r) (hR : Blk w rb 48 (rdCells r)) :
    Calls Tryz.prog 168 #[.agg #[.string key, .string driver, .int .i64 fr, .int .i64 to_, .slice A n c], .func (.func 170) #[] #[.pointer (some ⟨rb, 0, none⟩)]] w (fun e w' => w.grownBy w' none ∧
      ∃ A' c', e = .returned (.tuple #[madeV key driver fr to_ A' n c' (chE l (hireE ⟨key, driver, fr, to_, endLegs l r⟩)), .int .i64 (chE l (hireE ⟨key, driver, fr, to_, endLegs l r⟩))]) ∧ (chE l (hireE ⟨key, driver, fr, to_, endLegs l r⟩) = 0 → SlT lgEnc 9 135 w' A' n (endLegs l r))) := by
  obtain ⟨E, hE⟩ : ∃ E, E = chE l (hireE ⟨key, driver, fr, to_, endLegs l r⟩) := ⟨_, rfl⟩
  rw [← hE]
  have HE := Lib.hid hE
  have hlen := hl.len
  have Hok := Lib.hid hok
  have hrl := hR.lt
  have Hr := Lib.hid hr
  clear hr
  clear hE hok
  have hz1 : ∀ k, some (w.heap.size + 1) = some k → w.heap.size ≤ k := fun k h => by cases h; omega
  go_enter Tryz.func168, Tryz.ntmps168
  go_wp2_with fail
  refine (isOpen_any key driver fr to_ l A n c _ ((hl.alloc _).alloc _) (by omega)).mono ?_
  rintro e w1 ⟨rfl, hg1⟩
  have hA1 : Blk w1 w.heap.size 30 [.string key, .string driver, .int .i64 fr, .int .i64 to_, .slice A n c] := ((Blk.at_ w rfl _ _).alloc _).grown hg1 (by simp)
  have hC1 : Blk w1 (w.heap.size + 1) 30 [.string ⟨#[]⟩, .string ⟨#[]⟩, .int .i64 0, .int .i64 0, .slice none 0 0] := (Blk.at_ (w.alloc _) (by simp) _ _).grown hg1 (by simp)
  have hw1 : w.grownBy w1 none := grow_trans (grow_alloc (grow_alloc (World.grownBy.refl _ _) _) _) hg1
  clear hg1
  obtain ⟨O, hO⟩ : ∃ O, openB l = O := ⟨_, rfl⟩
  rw [hO]
  have HO := Lib.hid hO
  clear hO
  cases O
  · have HF := Lib.hid (show E = 11 by rw [HE.out]; unfold chE; rw [HO.out]; rfl)
    have HV := Lib.hid (show madeV key driver fr to_ none n 0 E = .agg #[.string ⟨#[]⟩, .string ⟨#[]⟩, .int .i64 0, .int .i64 0, .slice none 0 0] by unfold madeV; rw [if_neg (by rw [HF.out]; decide)])
    go_wp2_with (with_reducible refine wpList_store_all rfl 30 (.tmp 4) (.tmp 9) rfl (w.heap.size + 1) _ _ [.string ⟨#[]⟩, .string ⟨#[]⟩, .int .i64 0, .int .i64 0, .slice none 0 0] hC1 rfl rfl 5 info_hr rfl rfl (by simp [Value.oneCell']) ?_
                 intro w3 hb3 hg3)
    refine ret_blk_tmp (p := 4) (u := 5) (ty := 30) rfl (w.heap.size + 1) _ _ _ hb3 rfl (.int .i64 11) rfl Tryz.underlying30 rfl 5 info_hr rfl rfl ?_
    exact ⟨grow_own hw1 hg3 hz1, none, 0, by rw [HV.out, HF.out], fun h => by rw [HF.out] at h; cases h⟩
  · have HF := Lib.hid (show E = hireE ⟨key, driver, fr, to_, endLegs l r⟩ by rw [HE.out]; unfold chE; rw [HO.out]; rfl)
    have hn0 : 0 < n := by
      rcases Nat.eq_zero_or_pos n with h | h
      · exfalso
        have h1 : l = [] := List.length_eq_zero_iff.1 (by omega)
        have h2 := HO.out
        rw [h1] at h2
        cases h2
      · exact h
    have k4 := hA1.cell_of (i := 4) (v := .slice A n c) rfl
    go_wp2_with fail
    refine (cloneLegs_any l A n c w1 (hl.own hw1 (fun g h => by cases h)) hn0 (by omega)).mono ?_
    rintro e w2 ⟨g, c2, rfl, hown, hg2⟩
    have hA2 := hA1.grown hg2 (by simp)
    have hC2 := hC1.grown hg2 (by simp)
    have hw2 := grow_trans hw1 hg2
    have hgz : w1.heap.size ≤ g := hown.1
    have hz2 := hC1.lt
    have hgl := hown.lt
    clear hA1 hC1 k4 hw1
    have k4 := hA2.cell_of (i := 4) (v := .slice A n c) rfl
    have f4 := hA2.frozen 4
    have hA3 : Blk (w2.setCell ⟨w.heap.size, 4, none⟩ (.slice (some ⟨g, 0, none⟩) n c2)) w.heap.size 30 [.string key, .string driver, .int .i64 fr, .int .i64 to_, .slice (some ⟨g, 0, none⟩) n c2] := hA2.set_ 4 _
    have hC3 := hC2.far (p := ⟨w.heap.size, 4, none⟩) (by simp) (.slice (some ⟨g, 0, none⟩) n c2)
    have hw3 : w.grownBy (w2.setCell ⟨w.heap.size, 4, none⟩ (.slice (some ⟨g, 0, none⟩) n c2)) none := grow_setCell hw2 (.inr (by simp)) _
    have hown3 : OwnT lgEnc 9 135 (w2.setCell ⟨w.heap.size, 4, none⟩ (.slice (some ⟨g, 0, none⟩) n c2)) w1.heap.size g n c2 l := hown.kept (Below.heap_setCell w2 _ _ g (by simp; omega)) (Nat.le_refl _)
    go_wp2_with fail
    obtain ⟨cs, hb, hfit, htk⟩ := hown3.blk
    have hR3 : Blk (w2.setCell ⟨w.heap.size, 4, none⟩ (.slice (some ⟨g, 0, none⟩) n c2)) rb 48 (rdCells r) := hR.grown hw3 (by simp)
    obtain ⟨x, hx⟩ : ∃ x, l[n - 1]? = some x := ⟨_, List.getElem?_eq_getElem (by omega)⟩
    have Hx := Lib.hid hx
    have HL := Lib.hid (show endLegs l r = l.set (n - 1) ⟨x.veh, x.out, r⟩ by unfold endLegs; rw [hlen, hx])
    clear hx
    refine (closeFn_any w.heap.size rb g key driver fr to_ n c2 r cs _ hA3 hR3 hb hn0 (by omega) hfit).mono ?_
    rintro e w4 ⟨⟨r4, rfl⟩, hb4, hg4⟩
    have hA4 := hA3.grown hg4 (fun h => absurd (Option.some.inj h) (by omega))
    have hC4 := hC3.grown hg4 (fun h => absurd (Option.some.inj h) (by omega))
    have hw4 : w.grownBy w4 none := grow_own hw3 hg4 (fun k h => by cases h; omega)
    obtain ⟨g4, hg4e⟩ : ∃ g4, g4 = g := ⟨_, rfl⟩
    obtain ⟨c4, hc4e⟩ : ∃ c4, c4 = c2 := ⟨_, rfl⟩
    rw [← hg4e, ← hc4e] at hA4
    have HG4 := Lib.hid hg4e
    clear hg4e hc4e
    have hsl := (by rw [HL.out, HG4.out]; exact SlT.spliced lg_len hfit htk hlen (r := 5) (vs := rdCells r) Hx.out rfl (by simp [rdCells]) hb4 : SlT lgEnc 9 135 w4 (some ⟨g4, 0, none⟩) n (endLegs l r))
    have HokL : HrOk key driver (endLegs l r) := ⟨Hok.out.1, Hok.out.2.1, end_ok Hok.out.2.2 Hr.out⟩
    clear hA2 hC2 hw2 hown k4 f4 hA3 hC3 hw3 hown3 hg2
    go_wp2_with (with_reducible refine wpList_load_all rfl 30 (.tmp 2) rfl w.heap.size _ _ _ hA4 rfl Tryz.underlying30 rfl 5 info_hr rfl ?_)
    refine (rmade_any key driver fr to_ (endLegs l r) _ _ _ w4 hsl HokL (by omega)).mono ?_
    rintro e w5 ⟨rfl, hg5⟩
    rw [← HF.out]
    have hsl5 := hsl.grow0 hg5
    have hC5 := hC4.grown hg5 (by simp)
    have hw5 := grow_trans hw4 hg5
    obtain ⟨A4, hA4e⟩ : ∃ A4 : Option Addr, A4 = some ⟨g4, 0, none⟩ := ⟨_, rfl⟩
    rw [← hA4e] at hsl5 ⊢
    clear hsl hA4 hC4 hw4 hg5 hA4e
    by_cases h0 : E = 0
    · have hV : madeV key driver fr to_ A4 (n) c4 E = .agg #[.string key, .string driver, .int .i64 fr, .int .i64 (to_), .slice A4 (n) c4] := by rw [h0]; rfl
      rw [hV]
      have HV := Lib.hid hV
      clear h0 hV
      go_wp2_with (with_reducible refine wpList_store_all rfl 30 (.tmp 4) (.tmp 18) rfl (w.heap.size + 1) _ _ [.string key, .string driver, .int .i64 fr, .int .i64 (to_), .slice A4 (n) c4] hC5 rfl rfl 5 info_hr rfl rfl (by simp [Value.oneCell']) ?_
                   intro w6 hb6 hg6)
      refine ret_blk_tmp (p := 4) (u := 5) (ty := 30) rfl (w.heap.size + 1) _ _ _ hb6 rfl (.int .i64 E) rfl Tryz.underlying30 rfl 5 info_hr rfl rfl ?_
      exact ⟨grow_own hw5 hg6 hz1, A4, c4, by rw [HV.out], fun _ => hsl5.grown hg6 hC5 (by decide)⟩
    · have hV : madeV key driver fr to_ A4 (n) c4 E = .agg #[.string ⟨#[]⟩, .string ⟨#[]⟩, .int .i64 0, .int .i64 0, .slice none 0 0] := by unfold madeV; rw [if_neg h0]
      rw [hV]
      have HV := Lib.hid hV
      have H0 := Lib.hid h0
      clear h0 hV
      go_wp2_with (with_reducible refine wpList_store_all rfl 30 (.tmp 4) (.tmp 18) rfl (w.heap.size + 1) _ _ [.string ⟨#[]⟩, .string ⟨#[]⟩, .int .i64 0, .int .i64 0, .slice none 0 0] hC5 rfl rfl 5 info_hr rfl rfl (by simp [Value.oneCell']) ?_
                   intro w6 hb6 hg6)
      refine ret_blk_tmp (p := 4) (u := 5) (ty := 30) rfl (w.heap.size + 1) _ _ _ hb6 rfl (.int .i64 E) rfl Tryz.underlying30 rfl 5 info_hr rfl rfl ?_
      exact ⟨grow_own hw5 hg6 hz1, A4, c4, by rw [HV.out], fun h => absurd h H0.out⟩
set_option maxRecDepth 100000 in
set_option maxHeartbeats 2000000 in
theorem changedExchange_any (key driver : ByteArray) (fr to_ : Int) (l : List Lg) (A : Option Addr) (n c : Nat) (w : World) (hl : SlT lgEnc 9 135 w A n l) (hok : HrOk key driver l) (hn : n ≤ 1000) (ib vb ob : Nat) (veh : ByteArray) (r q : Rd) (hv : veh.size ≤ 1000000) (hr : RdOk r) (hq : RdOk q) (hI : Blk w ib 48 (rdCells r)) (hV0 : Blk w vb 9 [.string veh]) (hO0 : Blk w ob 48 (rdCells q)) :
    Calls Tryz.prog 168 #[.agg #[.string key, .string driver, .int .i64 fr, .int .i64 to_, .slice A n c], .func (.func 169) #[] #[.pointer (some ⟨ib, 0, none⟩), .pointer (some ⟨vb, 0, none⟩), .pointer (some ⟨ob, 0, none⟩)]] w (fun e w' => w.grownBy w' none ∧
      ∃ A' c', e = .returned (.tuple #[madeV key driver fr to_ A' (n + 1) c' (chE l (hireE ⟨key, driver, fr, to_, exchLegs l r veh q⟩)), .int .i64 (chE l (hireE ⟨key, driver, fr, to_, exchLegs l r veh q⟩))]) ∧ (chE l (hireE ⟨key, driver, fr, to_, exchLegs l r veh q⟩) = 0 → SlT lgEnc 9 135 w' A' (n + 1) (exchLegs l r veh q))) := by
  obtain ⟨E, hE⟩ : ∃ E, E = chE l (hireE ⟨key, driver, fr, to_, exchLegs l r veh q⟩) := ⟨_, rfl⟩
  rw [← hE]
  have HE := Lib.hid hE
  have hlen := hl.len
  have Hok := Lib.hid hok
  have hil := hI.lt
  have hvl := hV0.lt
  have hol := hO0.lt
  have Hr := Lib.hid hr
  have Hq := Lib.hid hq
  have Hv := Lib.hid hv
  clear hr hq hv
  clear hE hok
  have hz1 : ∀ k, some (w.heap.size + 1) = some k → w.heap.size ≤ k := fun k h => by cases h; omega
  go_enter Tryz.func168, Tryz.ntmps168
  go_wp2_with fail
  refine (isOpen_any key driver fr to_ l A n c _ ((hl.alloc _).alloc _) (by omega)).mono ?_
  rintro e w1 ⟨rfl, hg1⟩
  have hA1 : Blk w1 w.heap.size 30 [.string key, .string driver, .int .i64 fr, .int .i64 to_, .slice A n c] := ((Blk.at_ w rfl _ _).alloc _).grown hg1 (by simp)
  have hC1 : Blk w1 (w.heap.size + 1) 30 [.string ⟨#[]⟩, .string ⟨#[]⟩, .int .i64 0, .int .i64 0, .slice none 0 0] := (Blk.at_ (w.alloc _) (by simp) _ _).grown hg1 (by simp)
  have hw1 : w.grownBy w1 none := grow_trans (grow_alloc (grow_alloc (World.grownBy.refl _ _) _) _) hg1
  clear hg1
  obtain ⟨O, hO⟩ : ∃ O, openB l = O := ⟨_, rfl⟩
  rw [hO]
  have HO := Lib.hid hO
  clear hO
  cases O
  · have HF := Lib.hid (show E = 11 by rw [HE.out]; unfold chE; rw [HO.out]; rfl)
    have HV := Lib.hid (show madeV key driver fr to_ none (n + 1) 0 E = .agg #[.string ⟨#[]⟩, .string ⟨#[]⟩, .int .i64 0, .int .i64 0, .slice none 0 0] by unfold madeV; rw [if_neg (by rw [HF.out]; decide)])
    go_wp2_with (with_reducible refine wpList_store_all rfl 30 (.tmp 4) (.tmp 9) rfl (w.heap.size + 1) _ _ [.string ⟨#[]⟩, .string ⟨#[]⟩, .int .i64 0, .int .i64 0, .slice none 0 0] hC1 rfl rfl 5 info_hr rfl rfl (by simp [Value.oneCell']) ?_
                 intro w3 hb3 hg3)
    refine ret_blk_tmp (p := 4) (u := 5) (ty := 30) rfl (w.heap.size + 1) _ _ _ hb3 rfl (.int .i64 11) rfl Tryz.underlying30 rfl 5 info_hr rfl rfl ?_
    exact ⟨grow_own hw1 hg3 hz1, none, 0, by rw [HV.out, HF.out], fun h => by rw [HF.out] at h; cases h⟩
  · have HF := Lib.hid (show E = hireE ⟨key, driver, fr, to_, exchLegs l r veh q⟩ by rw [HE.out]; unfold chE; rw [HO.out]; rfl)
    have hn0 : 0 < n := by
      rcases Nat.eq_zero_or_pos n with h | h
      · exfalso
        have h1 : l = [] := List.length_eq_zero_iff.1 (by omega)
        have h2 := HO.out
        rw [h1] at h2
        cases h2
      · exact h
    have k4 := hA1.cell_of (i := 4) (v := .slice A n c) rfl
    go_wp2_with fail
    refine (cloneLegs_any l A n c w1 (hl.own hw1 (fun g h => by cases h)) hn0 (by omega)).mono ?_
    rintro e w2 ⟨g, c2, rfl, hown, hg2⟩
    have hA2 := hA1.grown hg2 (by simp)
    have hC2 := hC1.grown hg2 (by simp)
    have hw2 := grow_trans hw1 hg2
    have hgz : w1.heap.size ≤ g := hown.1
    have hz2 := hC1.lt
    have hgl := hown.lt
    clear hA1 hC1 k4 hw1
    have k4 := hA2.cell_of (i := 4) (v := .slice A n c) rfl
    have f4 := hA2.frozen 4
    have hA3 : Blk (w2.setCell ⟨w.heap.size, 4, none⟩ (.slice (some ⟨g, 0, none⟩) n c2)) w.heap.size 30 [.string key, .string driver, .int .i64 fr, .int .i64 to_, .slice (some ⟨g, 0, none⟩) n c2] := hA2.set_ 4 _
    have hC3 := hC2.far (p := ⟨w.heap.size, 4, none⟩) (by simp) (.slice (some ⟨g, 0, none⟩) n c2)
    have hw3 : w.grownBy (w2.setCell ⟨w.heap.size, 4, none⟩ (.slice (some ⟨g, 0, none⟩) n c2)) none := grow_setCell hw2 (.inr (by simp)) _
    have hown3 : OwnT lgEnc 9 135 (w2.setCell ⟨w.heap.size, 4, none⟩ (.slice (some ⟨g, 0, none⟩) n c2)) w1.heap.size g n c2 l := hown.kept (Below.heap_setCell w2 _ _ g (by simp; omega)) (Nat.le_refl _)
    go_wp2_with fail
    have hI3 : Blk (w2.setCell ⟨w.heap.size, 4, none⟩ (.slice (some ⟨g, 0, none⟩) n c2)) ib 48 (rdCells r) := hI.grown hw3 (by simp)
    have hV3 : Blk (w2.setCell ⟨w.heap.size, 4, none⟩ (.slice (some ⟨g, 0, none⟩) n c2)) vb 9 [.string veh] := hV0.grown hw3 (by simp)
    have hO3 : Blk (w2.setCell ⟨w.heap.size, 4, none⟩ (.slice (some ⟨g, 0, none⟩) n c2)) ob 48 (rdCells q) := hO0.grown hw3 (by simp)
    obtain ⟨x, hx⟩ : ∃ x, l[n - 1]? = some x := ⟨_, List.getElem?_eq_getElem (by omega)⟩
    have Hx := Lib.hid hx
    have HL := Lib.hid (show exchLegs l r veh q = l.set (n - 1) ⟨x.veh, x.out, r⟩ ++ [startLeg veh q] by unfold exchLegs endLegs; rw [hlen, hx])
    clear hx
    refine (exchangeFn_any w1.heap.size w.heap.size ib vb ob g key driver veh fr to_ n c2 r q l x _ hA3 hI3 hV3 hO3 hown3 hn0 (by omega) Hx.out hlen ⟨by omega, by omega, by omega⟩ (by omega)).mono ?_
    rintro e w4 ⟨⟨r4, rfl⟩, g4, c4, hA4, hown4, hbk, hos, htp, hout, hsz⟩
    have hC4 : Blk w4 (w.heap.size + 1) 30 [.string ⟨#[]⟩, .string ⟨#[]⟩, .int .i64 0, .int .i64 0, .slice none 0 0] := hC3.kept (hbk _ (by omega) (by omega))
    have hw4 : w.grownBy w4 none := ⟨hos.trans hw3.os, htp.trans hw3.tape, hout.trans hw3.output, Nat.le_trans hw3.size hsz, fun i hi hne => (hbk i (by omega) (by omega)).trans (hw3.block i hi hne)⟩
    have hsl := (by rw [HL.out]; exact hown4.slt lg_len (by simp; omega) : SlT lgEnc 9 135 w4 (some ⟨g4, 0, none⟩) (n + 1) (exchLegs l r veh q))
    have HokL : HrOk key driver (exchLegs l r veh q) := ⟨Hok.out.1, Hok.out.2.1, exch_ok Hok.out.2.2 Hr.out Hv.out Hq.out⟩
    clear hA2 hC2 hw2 hown k4 f4 hA3 hC3 hw3 hown3 hg2
    go_wp2_with (with_reducible refine wpList_load_all rfl 30 (.tmp 2) rfl w.heap.size _ _ _ hA4 rfl Tryz.underlying30 rfl 5 info_hr rfl ?_)
    refine (rmade_any key driver fr to_ (exchLegs l r veh q) _ _ _ w4 hsl HokL (by omega)).mono ?_
    rintro e w5 ⟨rfl, hg5⟩
    rw [← HF.out]
    have hsl5 := hsl.grow0 hg5
    have hC5 := hC4.grown hg5 (by simp)
    have hw5 := grow_trans hw4 hg5
    obtain ⟨A4, hA4e⟩ : ∃ A4 : Option Addr, A4 = some ⟨g4, 0, none⟩ := ⟨_, rfl⟩
    rw [← hA4e] at hsl5 ⊢
    clear hsl hA4 hC4 hw4 hg5 hA4e
    by_cases h0 : E = 0
    · have hV : madeV key driver fr to_ A4 ((n + 1)) c4 E = .agg #[.string key, .string driver, .int .i64 fr, .int .i64 (to_), .slice A4 ((n + 1)) c4] := by rw [h0]; rfl
      rw [hV]
      have HV := Lib.hid hV
      clear h0 hV
      go_wp2_with (with_reducible refine wpList_store_all rfl 30 (.tmp 4) (.tmp 18) rfl (w.heap.size + 1) _ _ [.string key, .string driver, .int .i64 fr, .int .i64 (to_), .slice A4 ((n + 1)) c4] hC5 rfl rfl 5 info_hr rfl rfl (by simp [Value.oneCell']) ?_
                   intro w6 hb6 hg6)
      refine ret_blk_tmp (p := 4) (u := 5) (ty := 30) rfl (w.heap.size + 1) _ _ _ hb6 rfl (.int .i64 E) rfl Tryz.underlying30 rfl 5 info_hr rfl rfl ?_
      exact ⟨grow_own hw5 hg6 hz1, A4, c4, by rw [HV.out], fun _ => hsl5.grown hg6 hC5 (by decide)⟩
    · have hV : madeV key driver fr to_ A4 ((n + 1)) c4 E = .agg #[.string ⟨#[]⟩, .string ⟨#[]⟩, .int .i64 0, .int .i64 0, .slice none 0 0] := by unfold madeV; rw [if_neg h0]
      rw [hV]
      have HV := Lib.hid hV
      have H0 := Lib.hid h0
      clear h0 hV
      go_wp2_with (with_reducible refine wpList_store_all rfl 30 (.tmp 4) (.tmp 18) rfl (w.heap.size + 1) _ _ [.string ⟨#[]⟩, .string ⟨#[]⟩, .int .i64 0, .int .i64 0, .slice none 0 0] hC5 rfl rfl 5 info_hr rfl rfl (by simp [Value.oneCell']) ?_
                   intro w6 hb6 hg6)
      refine ret_blk_tmp (p := 4) (u := 5) (ty := 30) rfl (w.heap.size + 1) _ _ _ hb6 rfl (.int .i64 E) rfl Tryz.underlying30 rfl 5 info_hr rfl rfl ?_
      exact ⟨grow_own hw5 hg6 hz1, A4, c4, by rw [HV.out], fun h => absurd h H0.out⟩
end Go.Proofs.YtempjmpfdniecaaGreatDoor
namespace Go.Proofs.YtempjmpfdniecaaGreatDoor
open Go.RowKit
set_option maxRecDepth 100000 in
set_option maxHeartbeats 1000000 in
theorem closeOf_any (key driver : ByteArray) (fr to_ : Int) (l : List Lg) (A : Option Addr) (n c : Nat) (w : World) (hl : SlT lgEnc 9 135 w A n l) (hok : HrOk key driver l) (hn : n ≤ 1000) (r : Rd) (hr : RdOk r) :
    Calls Tryz.prog 65 #[.agg #[.string key, .string driver, .int .i64 fr, .int .i64 to_, .slice A n c], .agg (rdCells r).toArray] w (fun e w' => w.grownBy w' none ∧
      ∃ A' c', e = .returned (.tuple #[madeV key driver fr to_ A' n c' (chE l (hireE ⟨key, driver, fr, to_, endLegs l r⟩)), .int .i64 (chE l (hireE ⟨key, driver, fr, to_, endLegs l r⟩))]) ∧ (chE l (hireE ⟨key, driver, fr, to_, endLegs l r⟩) = 0 → SlT lgEnc 9 135 w' A' n (endLegs l r))) := by
  have HC := Lib.hid (fun w hl rb hR => changedClose_any key driver fr to_ l A n c w hl hok hn rb r hr hR)
  obtain ⟨E, hE⟩ : ∃ E, E = chE l (hireE ⟨key, driver, fr, to_, endLegs l r⟩) := ⟨_, rfl⟩
  rw [← hE] at HC ⊢
  clear hE hok
  obtain ⟨ra, rs, rm, rf⟩ := r
  show Calls Tryz.prog 65 #[.agg #[.string key, .string driver, .int .i64 fr, .int .i64 to_, .slice A n c], .agg #[.int .i64 ra, .string rs, .int .i64 rm, .int .i64 rf]] w _
  go_enter Tryz.func65, Tryz.ntmps65
  go_wp2_with fail
  refine (HC.out _ (((hl.alloc _).alloc _).alloc _) (w.heap.size + 1) ((Blk.at_ (w.alloc _) (by simp) _ _).alloc _)).mono ?_
  rintro e w1 ⟨hg1, A1, c1, rfl, hs1⟩
  have hC1 : Blk w1 (w.heap.size + 2) 30 [.string ⟨#[]⟩, .string ⟨#[]⟩, .int .i64 0, .int .i64 0, .slice none 0 0] := (Blk.at_ ((w.alloc _).alloc _) (by simp) _ _).grown hg1 (by simp)
  have hw1 : w.grownBy w1 none := grow_trans (grow_alloc (grow_alloc (grow_alloc (World.grownBy.refl _ _) _) _) _) hg1
  have hz : ∀ k, some (w.heap.size + 2) = some k → w.heap.size ≤ k := fun k h => by cases h; omega
  clear hg1
  by_cases h0 : E = 0
  · have hV : madeV key driver fr to_ A1 n c1 E = .agg #[.string key, .string driver, .int .i64 fr, .int .i64 (to_), .slice A1 (n) c1] := by rw [h0]; rfl
    have hsl := hs1 h0
    rw [hV]
    have HV := Lib.hid hV
    clear h0 hV hs1
    go_wp2_with (with_reducible refine wpList_store_all rfl 30 (.tmp 4) (.tmp 9) rfl (w.heap.size + 2) _ _ [.string key, .string driver, .int .i64 fr, .int .i64 (to_), .slice A1 (n) c1] hC1 rfl rfl 5 info_hr rfl rfl (by simp [Value.oneCell']) ?_
                 intro w6 hb6 hg6)
    refine ret_blk_tmp (p := 4) (u := 5) (ty := 30) rfl (w.heap.size + 2) _ _ _ hb6 rfl (.int .i64 E) rfl Tryz.underlying30 rfl 5 info_hr rfl rfl ?_
    exact ⟨grow_own hw1 hg6 hz, A1, c1, by rw [HV.out], fun _ => hsl.grown hg6 hC1 (by decide)⟩
  · have hV : madeV key driver fr to_ A1 n c1 E = .agg #[.string ⟨#[]⟩, .string ⟨#[]⟩, .int .i64 0, .int .i64 0, .slice none 0 0] := by unfold madeV; rw [if_neg h0]
    rw [hV]
    have HV := Lib.hid hV
    have H0 := Lib.hid h0
    clear h0 hV hs1
    go_wp2_with (with_reducible refine wpList_store_all rfl 30 (.tmp 4) (.tmp 9) rfl (w.heap.size + 2) _ _ [.string ⟨#[]⟩, .string ⟨#[]⟩, .int .i64 0, .int .i64 0, .slice none 0 0] hC1 rfl rfl 5 info_hr rfl rfl (by simp [Value.oneCell']) ?_
                 intro w6 hb6 hg6)
    refine ret_blk_tmp (p := 4) (u := 5) (ty := 30) rfl (w.heap.size + 2) _ _ _ hb6 rfl (.int .i64 E) rfl Tryz.underlying30 rfl 5 info_hr rfl rfl ?_
    exact ⟨grow_own hw1 hg6 hz, A1, c1, by rw [HV.out], fun h => absurd h H0.out⟩
set_option maxRecDepth 100000 in
set_option maxHeartbeats 1000000 in
theorem exchangeOf_any (key driver : ByteArray) (fr to_ : Int) (l : List Lg) (A : Option Addr) (n c : Nat) (w : World) (hl : SlT lgEnc 9 135 w A n l) (hok : HrOk key driver l) (hn : n ≤ 1000) (veh : ByteArray) (r q : Rd) (hv : veh.size ≤ 1000000) (hr : RdOk r) (hq : RdOk q) :
    Calls Tryz.prog 63 #[.agg #[.string key, .string driver, .int .i64 fr, .int .i64 to_, .slice A n c], .agg (rdCells r).toArray, .string veh, .agg (rdCells q).toArray] w (fun e w' => w.grownBy w' none ∧
      ∃ A' c', e = .returned (.tuple #[madeV key driver fr to_ A' (n + 1) c' (chE l (hireE ⟨key, driver, fr, to_, exchLegs l r veh q⟩)), .int .i64 (chE l (hireE ⟨key, driver, fr, to_, exchLegs l r veh q⟩))]) ∧ (chE l (hireE ⟨key, driver, fr, to_, exchLegs l r veh q⟩) = 0 → SlT lgEnc 9 135 w' A' (n + 1) (exchLegs l r veh q))) := by
  have HC := Lib.hid (fun w hl ib vb ob hI hV hO => changedExchange_any key driver fr to_ l A n c w hl hok hn ib vb ob veh r q hv hr hq hI hV hO)
  obtain ⟨E, hE⟩ : ∃ E, E = chE l (hireE ⟨key, driver, fr, to_, exchLegs l r veh q⟩) := ⟨_, rfl⟩
  rw [← hE] at HC ⊢
  clear hE hok
  obtain ⟨ra, rs, rm, rf⟩ := r
  obtain ⟨qa, qs, qm, qf⟩ := q
  show Calls Tryz.prog 63 #[.agg #[.string key, .string driver, .int .i64 fr, .int .i64 to_, .slice A n c], .agg #[.int .i64 ra, .string rs, .int .i64 rm, .int .i64 rf], .string veh, .agg #[.int .i64 qa, .string qs, .int .i64 qm, .int .i64 qf]] w _
  go_enter Tryz.func63, Tryz.ntmps63
  go_wp2_with fail
  refine (HC.out _ (((((hl.alloc _).alloc _).alloc _).alloc _).alloc _) (w.heap.size + 1) (w.heap.size + 2) (w.heap.size + 3) ((((Blk.at_ (w.alloc _) (by simp) _ _).alloc _).alloc _).alloc _) (((Blk.at_ ((w.alloc _).alloc _) (by simp) _ _).alloc _).alloc _) ((Blk.at_ (((w.alloc _).alloc _).alloc _) (by simp) _ _).alloc _)).mono ?_
  rintro e w1 ⟨hg1, A1, c1, rfl, hs1⟩
  have hC1 : Blk w1 (w.heap.size + 4) 30 [.string ⟨#[]⟩, .string ⟨#[]⟩, .int .i64 0, .int .i64 0, .slice none 0 0] := (Blk.at_ ((((w.alloc _).alloc _).alloc _).alloc _) (by simp) _ _).grown hg1 (by simp)
  have hw1 : w.grownBy w1 none := grow_trans (grow_alloc (grow_alloc (grow_alloc (grow_alloc (grow_alloc (World.grownBy.refl _ _) _) _) _) _) _) hg1
  have hz : ∀ k, some (w.heap.size + 4) = some k → w.heap.size ≤ k := fun k h => by cases h; omega
  clear hg1
  by_cases h0 : E = 0
  · have hV : madeV key driver fr to_ A1 (n + 1) c1 E = .agg #[.string key, .string driver, .int .i64 fr, .int .i64 (to_), .slice A1 ((n + 1)) c1] := by rw [h0]; rfl
    have hsl := hs1 h0
    rw [hV]
    have HV := Lib.hid hV
    clear h0 hV hs1
    go_wp2_with (with_reducible refine wpList_store_all rfl 30 (.tmp 8) (.tmp 13) rfl (w.heap.size + 4) _ _ [.string key, .string driver, .int .i64 fr, .int .i64 (to_), .slice A1 ((n + 1)) c1] hC1 rfl rfl 5 info_hr rfl rfl (by simp [Value.oneCell']) ?_
                 intro w6 hb6 hg6)
    refine ret_blk_tmp (p := 8) (u := 9) (ty := 30) rfl (w.heap.size + 4) _ _ _ hb6 rfl (.int .i64 E) rfl Tryz.underlying30 rfl 5 info_hr rfl rfl ?_
    exact ⟨grow_own hw1 hg6 hz, A1, c1, by rw [HV.out], fun _ => hsl.grown hg6 hC1 (by decide)⟩
  · have hV : madeV key driver fr to_ A1 (n + 1) c1 E = .agg #[.string ⟨#[]⟩, .string ⟨#[]⟩, .int .i64 0, .int .i64 0, .slice none 0 0] := by unfold madeV; rw [if_neg h0]
    rw [hV]
    have HV := Lib.hid hV
    have H0 := Lib.hid h0
    clear h0 hV hs1
    go_wp2_with (with_reducible refine wpList_store_all rfl 30 (.tmp 8) (.tmp 13) rfl (w.heap.size + 4) _ _ [.string ⟨#[]⟩, .string ⟨#[]⟩, .int .i64 0, .int .i64 0, .slice none 0 0] hC1 rfl rfl 5 info_hr rfl rfl (by simp [Value.oneCell']) ?_
                 intro w6 hb6 hg6)
    refine ret_blk_tmp (p := 8) (u := 9) (ty := 30) rfl (w.heap.size + 4) _ _ _ hb6 rfl (.int .i64 E) rfl Tryz.underlying30 rfl 5 info_hr rfl rfl ?_
    exact ⟨grow_own hw1 hg6 hz, A1, c1, by rw [HV.out], fun h => absurd h H0.out⟩
end Go.Proofs.YtempjmpfdniecaaGreatDoor
namespace Go.Proofs.YtempjmpfdniecaaGreatDoor
open Go.RowKit
/-- A fact of worlds that lasts while no block of the types Tt is written. -/
def Lasts (Tt : List TypeId) (X : World → Prop) : Prop := ∀ (w w' : World) (r : Nat) (T : TypeId) (c : Array Value), w.heap[r]? = some (.cells c T (0, 0)) → T ∉ Tt → w.grownBy w' (some r) → X w → X w'
theorem Lasts.and_ {Tt : List TypeId} {X Y : World → Prop} (hX : Lasts Tt X) (hY : Lasts Tt Y) : Lasts Tt (fun w => X w ∧ Y w) := fun w w' r T c h1 h2 h3 ⟨a, b⟩ => ⟨hX w w' r T c h1 h2 h3 a, hY w w' r T c h1 h2 h3 b⟩
theorem Lasts.true_ (Tt : List TypeId) : Lasts Tt (fun _ => True) := fun _ _ _ _ _ _ _ _ _ => trivial
theorem SlT.lasts {α : Type} {enc : α → List Value} {k : Nat} {T : TypeId} {Tt : List TypeId} {A : Option Addr} {n : Nat} {l : List α} (hT : T ∈ Tt) : Lasts Tt (fun w => SlT enc k T w A n l) :=
  fun _ _ _ _ _ h1 h2 h3 hx => hx.grown h3 h1 (fun e => h2 (e ▸ hT))
/-- The stream at sb stands at most at m; the blocks of L are as listed, and are not the stream's; X holds; since w0 no old block but the stream's has turned. -/
structure Kept (TS : TypeId) (Tt : List TypeId) (w0 : World) (B sb m : Nat) (L : List (Nat × TypeId × List Value)) (X : World → Prop) (w : World) : Prop where
  s : Strm TS w B sb m
  g : w0.grownBy w (some sb)
  b : ∀ x ∈ L, (sb < x.1 ∧ w0.heap.size ≤ x.1) ∧ Blk w x.1 x.2.1 x.2.2
  nd : L.Pairwise (fun x y => x.1 ≠ y.1)
  t : TS ∉ Tt
  l : Lasts Tt X
  x : X w
section
variable {TS : TypeId} {Tt : List TypeId} {w0 w w' : World} {B sb m m' : Nat} {L : List (Nat × TypeId × List Value)} {X Y : World → Prop}
theorem Kept.start (h : Strm TS w B sb m) (ht : TS ∉ Tt) : Kept TS Tt w B sb m [] (fun _ => True) w := ⟨h, World.grownBy.refl _ _, fun x hx => (by cases hx), List.Pairwise.nil, ht, Lasts.true_ _, trivial⟩
theorem Kept.strm (h : Kept TS Tt w0 B sb m L X w) (hS : Strm TS w' B sb m') (hg : w.grownBy w' (some sb)) : Kept TS Tt w0 B sb m' L X w' := by
  obtain ⟨A, n, c, k, hh, _⟩ := h.s.pos
  exact ⟨hS, grow_trans h.g hg, fun x hx => ⟨(h.b x hx).1, (h.b x hx).2.grown hg (fun e => absurd (Option.some.inj e) (by have := (h.b x hx).1.1; omega))⟩, h.nd, h.t, h.l, h.l w w' sb TS _ hh h.t hg h.x⟩
theorem Kept.grow0 (h : Kept TS Tt w0 B sb m L X w) (hg : w.grownBy w' none) : Kept TS Tt w0 B sb m L X w' := h.strm (h.s.grown hg (fun k e => by cases e)) (grow_weak hg)
theorem Kept.drew (h : Kept TS Tt w0 B sb m L X w) : Kept TS Tt w0 B sb m L X w.drew := h.grow0 (grow_drew (World.grownBy.refl _ _))
theorem Kept.alloc (h : Kept TS Tt w0 B sb m L X w) (t : TypeId) (cs : List Value) : Kept TS Tt w0 B sb m ((w.heap.size, t, cs) :: L) X (w.alloc (.cells cs.toArray t)) := by
  have h2 := h.grow0 (grow_alloc (World.grownBy.refl w none) (.cells cs.toArray t))
  refine ⟨h2.s, h2.g, fun x hx => ?_, List.Pairwise.cons (fun y hy e => by have h3 := (h.b y hy).2.lt; have e2 : w.heap.size = y.1 := e; omega) h.nd, h2.t, h2.l, h2.x⟩
  rcases List.mem_cons.1 hx with rfl | hx
  · exact ⟨⟨h.s.lt, h.g.size⟩, Blk.at_ w rfl t cs⟩
  · exact h2.b x hx
theorem Kept.blk (h : Kept TS Tt w0 B sb m L X w) {g : Nat} {t : TypeId} {cs : List Value} (hm : (g, t, cs) ∈ L) : Blk w g t cs := (h.b _ hm).2
theorem Kept.ne (h : Kept TS Tt w0 B sb m L X w) {g : Nat} {t : TypeId} {cs : List Value} (hm : (g, t, cs) ∈ L) : g ≠ sb := fun e => by have h1 : sb < g := (h.b _ hm).1.1; omega
theorem Kept.more (h : Kept TS Tt w0 B sb m L X w) (hm : m ≤ m') : Kept TS Tt w0 B sb m' L X w := ⟨h.s.more hm, h.g, h.b, h.nd, h.t, h.l, h.x⟩
theorem Kept.sub {L' : List (Nat × TypeId × List Value)} (h : Kept TS Tt w0 B sb m L X w) (hs : L'.Sublist L) : Kept TS Tt w0 B sb m L' X w := ⟨h.s, h.g, fun x hx => h.b x (hs.subset hx), h.nd.sublist hs, h.t, h.l, h.x⟩
/-- The first block is let go, the next two change places. -/
theorem Kept.swap {x y z : Nat × TypeId × List Value} (h : Kept TS Tt w0 B sb m [x, y, z] X w) : Kept TS Tt w0 B sb m [z, y] X w :=
  ⟨h.s, h.g, fun a ha => h.b a (by simp at ha ⊢; rcases ha with rfl | rfl <;> simp), by have := h.nd; simp at this ⊢; exact fun e => this.2 e.symm, h.t, h.l, h.x⟩
theorem Kept.also (h : Kept TS Tt w0 B sb m L X w) (hl : Lasts Tt Y) (hy : Y w) : Kept TS Tt w0 B sb m L (fun w => X w ∧ Y w) w := ⟨h.s, h.g, h.b, h.nd, h.t, h.l.and_ hl, h.x, hy⟩
theorem Kept.only (h : Kept TS Tt w0 B sb m L X w) (hl : Lasts Tt Y) (hy : Y w) : Kept TS Tt w0 B sb m L Y w := ⟨h.s, h.g, h.b, h.nd, h.t, hl, hy⟩
/-- A block of the list is written, of a type that is not among Tt: all else stays. -/
theorem Kept.stored (h : Kept TS Tt w0 B sb m L X w) {g : Nat} {T : TypeId} {cs cs' : List Value} (hm : (g, T, cs) ∈ L) (hT : T ∉ Tt) (hg : w.grownBy w' (some g)) (hb : Blk w' g T cs')
    {L' : List (Nat × TypeId × List Value)} (hL : ∀ x ∈ L', x = (g, T, cs') ∨ (x ∈ L ∧ x.1 ≠ g)) (hp : L'.Pairwise (fun x y => x.1 ≠ y.1)) : Kept TS Tt w0 B sb m L' X w' := by
  have hgs : sb < g := (h.b _ hm).1.1
  have hz : w0.heap.size ≤ g := (h.b _ hm).1.2
  refine ⟨h.s.grown hg (fun k e => by cases e; exact hgs), grow_own h.g hg (fun k e => by cases e; exact hz), fun x hx => ?_, hp, h.t, h.l, h.l w w' g T _ (h.blk hm) hT hg h.x⟩
  rcases hL x hx with rfl | ⟨h1, h2⟩
  · exact ⟨⟨hgs, hz⟩, hb⟩
  · exact ⟨(h.b x h1).1, (h.b x h1).2.grown hg (fun e => h2 (Option.some.inj e))⟩
end
end Go.Proofs.YtempjmpfdniecaaGreatDoor
namespace Go.Proofs.YtempjmpfdniecaaGreatDoor
open Go.RowKit
theorem noHire_ok : HrOk ⟨#[]⟩ ⟨#[]⟩ [] := ⟨by decide, by decide, fun _ h => by cases h⟩
theorem fall_keys : keyB ⟨#[97, 110, 110]⟩ = true ∧ keyB ⟨#[118, 49]⟩ = true ∧ keyB ⟨#[115, 49]⟩ = true := ⟨by kernel_rfl, by kernel_rfl, by kernel_rfl⟩
/-- The hire that is taken where no other came out right. -/
theorem fall_right {key : ByteArray} {fr : Int} (hk : keyB key = true) (h0 : 0 ≤ fr) (h1 : fr ≤ 5000000) : hireE ⟨key, ⟨#[97, 110, 110]⟩, fr, fr + 60, [startLeg ⟨#[118, 49]⟩ ⟨fr, ⟨#[115, 49]⟩, 0, 0⟩]⟩ = 0 := by
  have a1 : inB fr 0 5761439 = true := inB_iff.2 ⟨by omega, by omega⟩
  have a2 : inB 0 0 999999 = true := by decide
  have a3 : inB 0 0 8 = true := by decide
  have hr : readingE ⟨fr, ⟨#[115, 49]⟩, 0, 0⟩ = 0 := by simp [readingE, momentE, a1, a2, a3, fall_keys.2.2, whenE, firstE]
  have ht : timeE fr (fr + 60) = 0 := by
    unfold timeE
    rw [if_neg (by omega), decide_eq_false (show ¬ 120 < daysV fr (fr + 60) by unfold daysV; omega)]; rfl
  have hin : legInE true (startLeg ⟨#[118, 49]⟩ ⟨fr, ⟨#[115, 49]⟩, 0, 0⟩) = 0 := by kernel_rfl
  have hp : legPrevE fr none (startLeg ⟨#[118, 49]⟩ ⟨fr, ⟨#[115, 49]⟩, 0, 0⟩) = 0 := by
    show (if fr = fr then (0 : Int) else 7) = 0
    rw [if_pos rfl]
  have hleg : legE fr none true (startLeg ⟨#[118, 49]⟩ ⟨fr, ⟨#[115, 49]⟩, 0, 0⟩) = 0 := by
    unfold legE
    rw [hp, hin]
    simp [startLeg, hr, fall_keys.2.1, whenE, firstE]
  have hlegs : legsE fr [startLeg ⟨#[118, 49]⟩ ⟨fr, ⟨#[115, 49]⟩, 0, 0⟩] 1 = 0 := by
    show (if legE fr none true (startLeg ⟨#[118, 49]⟩ ⟨fr, ⟨#[115, 49]⟩, 0, 0⟩) = 0 then 0 else _) = (0 : Int)
    rw [if_pos hleg]
  unfold hireE
  simp [firstE, whenE, hk, fall_keys.1, ht, hlegs]
end Go.Proofs.YtempjmpfdniecaaGreatDoor
namespace Go.Proofs.YtempjmpfdniecaaGreatDoor
open Go.RowKit
/-- A hire and an error are handed back: some hire, its legs in memory; where there is no error it has m legs and is right. -/
def HireBackR (w : World) (m : Nat) (E : Int) (e : Ending) (w' : World) : Prop :=
  ∃ (k d : ByteArray) (f t : Int) (A : Option Addr) (n c : Nat) (l : List Lg), e = .returned (.tuple #[.agg #[.string k, .string d, .int .i64 f, .int .i64 t, .slice A n c], .int .i64 E]) ∧ SlT lgEnc 9 135 w' A n l ∧ HrOk k d l ∧ n ≤ m ∧ (E = 0 → n = m ∧ hireE ⟨k, d, f, t, l⟩ = 0) ∧ w.grownBy w' none
theorem hireBackR_of {w w' : World} {key driver : ByteArray} {fr to_ : Int} {A : Option Addr} {n c : Nat} {E : Int} {l : List Lg} {e : Ending} (he : e = .returned (.tuple #[madeV key driver fr to_ A n c E, .int .i64 E])) (hs : E = 0 → SlT lgEnc 9 135 w' A n l) (hok : HrOk key driver l) (hE : E = 0 → hireE ⟨key, driver, fr, to_, l⟩ = 0) (hg : w.grownBy w' none) : HireBackR w n E e w' := by
  by_cases h0 : E = 0
  · exact ⟨key, driver, fr, to_, A, n, c, l, by rw [he, h0]; rfl, hs h0, hok, Nat.le_refl _, fun _ => ⟨rfl, hE h0⟩, hg⟩
  · exact ⟨⟨#[]⟩, ⟨#[]⟩, 0, 0, none, 0, 0, [], by rw [he]; unfold madeV; rw [if_neg h0], SlT.nil_ _ _, noHire_ok, Nat.zero_le _, fun h => absurd h h0, hg⟩
theorem chE_zero {l : List Lg} {x : Int} (h : chE l x = 0) : x = 0 := by
  unfold chE at h
  cases ho : openB l with
  | true => rw [ho] at h; exact h
  | false => rw [ho] at h; cases h
theorem startOf_genR (key driver : ByteArray) (fr to_ : Int) (veh : ByteArray) (r : Rd) (w : World) (hk : key.size ≤ 1000000) (hd : driver.size ≤ 1000000) (hv : veh.size ≤ 1000000) (hr : RdOk r) :
    Calls Tryz.prog 62 #[.string key, .string driver, .agg #[.int .i64 fr, .int .i64 to_], .string veh, .agg (rdCells r).toArray] w (HireBackR w 1 (hireE ⟨key, driver, fr, to_, [startLeg veh r]⟩)) :=
  (startOf_any key driver fr to_ veh r w hk hd hv hr).mono fun e w' ⟨A, he, hs, hg⟩ => hireBackR_of he (fun _ => hs) ⟨hk, hd, fun g hg => by
    rw [List.mem_singleton.1 hg]
    exact ⟨hv, hr, (by decide : (⟨#[]⟩ : ByteArray).size ≤ 1000000)⟩⟩ id hg
theorem closeOf_genR (key driver : ByteArray) (fr to_ : Int) (l : List Lg) (A : Option Addr) (n c : Nat) (w : World) (hl : SlT lgEnc 9 135 w A n l) (hok : HrOk key driver l) (hn : n ≤ 1000) (r : Rd) (hr : RdOk r) :
    Calls Tryz.prog 65 #[.agg #[.string key, .string driver, .int .i64 fr, .int .i64 to_, .slice A n c], .agg (rdCells r).toArray] w (fun e w' => ∃ E, HireBackR w n E e w') :=
  (closeOf_any key driver fr to_ l A n c w hl hok hn r hr).mono fun _ _ ⟨hg, _, _, he, hs⟩ => ⟨_, hireBackR_of he hs ⟨hok.1, hok.2.1, end_ok hok.2.2 hr⟩ chE_zero hg⟩
theorem exchangeOf_genR (key driver : ByteArray) (fr to_ : Int) (l : List Lg) (A : Option Addr) (n c : Nat) (w : World) (hl : SlT lgEnc 9 135 w A n l) (hok : HrOk key driver l) (hn : n ≤ 1000) (veh : ByteArray) (r q : Rd) (hv : veh.size ≤ 1000000) (hr : RdOk r) (hq : RdOk q) :
    Calls Tryz.prog 63 #[.agg #[.string key, .string driver, .int .i64 fr, .int .i64 to_, .slice A n c], .agg (rdCells r).toArray, .string veh, .agg (rdCells q).toArray] w (fun e w' => ∃ E, HireBackR w (n + 1) E e w') :=
  (exchangeOf_any key driver fr to_ l A n c w hl hok hn veh r q hv hr hq).mono fun _ _ ⟨hg, _, _, he, hs⟩ => ⟨_, hireBackR_of he hs ⟨hok.1, hok.2.1, exch_ok hok.2.2 hr hv hq⟩ chE_zero hg⟩
theorem exchangeOf_litR (key driver : ByteArray) (fr to_ : Int) (l : List Lg) (A : Option Addr) (n c : Nat) (w : World) (hl : SlT lgEnc 9 135 w A n l) (hok : HrOk key driver l) (hn : n ≤ 1000) (veh : ByteArray) (ra rm rf qa qm qf : Int) (rs qs : ByteArray) (hv : veh.size ≤ 1000000) (hr : rs.size ≤ 1000000) (hq : qs.size ≤ 1000000) :
    Calls Tryz.prog 63 #[.agg #[.string key, .string driver, .int .i64 fr, .int .i64 to_, .slice A n c], .agg #[.int .i64 ra, .string rs, .int .i64 rm, .int .i64 rf], .string veh, .agg #[.int .i64 qa, .string qs, .int .i64 qm, .int .i64 qf]] w (fun e w' => ∃ E, HireBackR w (n + 1) E e w') :=
  exchangeOf_genR key driver fr to_ l A n c w hl hok hn veh ⟨ra, rs, rm, rf⟩ ⟨qa, qs, qm, qf⟩ hv hr hq
theorem startOf_litR (key driver : ByteArray) (fr to_ : Int) (veh : ByteArray) (ra rm rf : Int) (rs : ByteArray) (w : World) (hk : key.size ≤ 1000000) (hd : driver.size ≤ 1000000) (hv : veh.size ≤ 1000000) (hr : rs.size ≤ 1000000) :
    Calls Tryz.prog 62 #[.string key, .string driver, .agg #[.int .i64 fr, .int .i64 to_], .string veh, .agg #[.int .i64 ra, .string rs, .int .i64 rm, .int .i64 rf]] w (HireBackR w 1 (hireE ⟨key, driver, fr, to_, [startLeg veh ⟨ra, rs, rm, rf⟩]⟩)) :=
  startOf_genR key driver fr to_ veh ⟨ra, rs, rm, rf⟩ w hk hd hv hr
end Go.Proofs.YtempjmpfdniecaaGreatDoor
namespace Go.Proofs.YtempjmpfdniecaaGreatDoor
open Go.RowKit
open Go.ChangeMaps (setBlock)
/-- The map at block g holds es. -/
def MapAt (g : Nat) (es : Array MapEntry) (ck : Nat) (w : World) : Prop := w.heap[g]? = some (.map es ck)
theorem MapAt.lasts2 {N : Nat} {row : Option Nat} {Tt : List TypeId} {g : Nat} {es : Array MapEntry} {ck : Nat} : Lasts2 N row Tt (MapAt g es ck) :=
  ⟨fun w w' h hx => (h.block g (Array.getElem?_eq_some_iff.1 hx).1 (by simp)).trans hx,
   fun w w' r T c h1 _ _ h3 hx => (h3.block g (Array.getElem?_eq_some_iff.1 hx).1 (fun e => by
     have e2 : g = r := by injection e
     subst e2
     unfold MapAt at hx
     rw [h1] at hx; cases hx)).trans hx⟩
/-- The map at block g, one of the call's own. -/
def OwnMap (N g : Nat) (es : Array MapEntry) (ck : Nat) (w : World) : Prop := N ≤ g ∧ MapAt g es ck w
theorem OwnMap.lasts2 {N M : Nat} {row : Option Nat} {Tt : List TypeId} {g : Nat} {es : Array MapEntry} {ck : Nat} : Lasts2 N row Tt (OwnMap M g es ck) :=
  ⟨fun w w' h hx => ⟨hx.1, MapAt.lasts2.gr (N := N) (row := row) (Tt := Tt) w w' h hx.2⟩, fun w w' r T c h1 h2 h3 h4 hx => ⟨hx.1, MapAt.lasts2.st w w' r T c h1 h2 h3 h4 hx.2⟩⟩
theorem BlkOld.far {N g b : Nat} {row : Option Nat} {T : TypeId} {cs : List Value} : ∀ w w' : World, N ≤ g → w.grownBy w' (some g) → BlkOld N row b T cs w → BlkOld N row b T cs w' := fun _ _ h1 h2 ⟨h3, h4⟩ => ⟨h3, h4.grown h2 (fun e => by
  have e2 : b = g := by injection e
  omega)⟩
end Go.Proofs.YtempjmpfdniecaaGreatDoor
namespace Go.Proofs.YtempjmpfdniecaaGreatDoor
open Go.RowKit Go.MapKept
open Go.ChangeMaps (setBlock)
theorem bytes_ext {a b : ByteArray} (h : a.toList = b.toList) : a = b := by
  rw [ByteArray.toList_eq, ByteArray.toList_eq] at h
  cases a; cases b
  simp only at h
  exact congrArg ByteArray.mk (Array.toList_inj.1 h)
theorem bytes_eqb {a b : ByteArray} : (a.toList == b.toList) = true ↔ a = b :=
  ⟨fun h => bytes_ext (by simpa using h), fun h => by subst h; simp⟩
def fPut {α : Type} (f : ByteArray → Option α) (k : ByteArray) (x : α) : ByteArray → Option α := fun j => if (j.toList == k.toList) = true then some x else f j
def fDel {α : Type} (f : ByteArray → Option α) (k : ByteArray) : ByteArray → Option α := fun j => if (j.toList == k.toList) = true then none else f j
def fNil {α : Type} : ByteArray → Option α := fun _ => none
theorem fPut_same {α : Type} (f : ByteArray → Option α) (k : ByteArray) (x : α) : fPut f k x k = some x := by unfold fPut; rw [if_pos (by simp)]
theorem fPut_other {α : Type} (f : ByteArray → Option α) {k j : ByteArray} (x : α) (h : j ≠ k) : fPut f k x j = f j := by unfold fPut; rw [if_neg (fun e => h (bytes_eqb.1 e))]
theorem fDel_same {α : Type} (f : ByteArray → Option α) (k : ByteArray) : fDel f k k = none := by unfold fDel; rw [if_pos (by simp)]
theorem fDel_other {α : Type} (f : ByteArray → Option α) {k j : ByteArray} (h : j ≠ k) : fDel f k j = f j := by unfold fDel; rw [if_neg (fun e => h (bytes_eqb.1 e))]
/-- What a map's block holds, key by key. -/
def Entries {α : Type} (enc : α → Value) (f : ByteArray → Option α) (es : Array MapEntry) (ck : Nat) : Prop :=
  Stamped es ck ∧ (∀ x ∈ es.toList, IsKey .string x.key) ∧ ∀ k v, (∃ e ∈ es.toList, e.key = .string k ∧ e.val = v) ↔ ∃ x, f k = some x ∧ v = enc x
/-- The map at block g, one of the call's own, has under each key what f says. -/
def MapF {α : Type} (enc : α → Value) (N g : Nat) (f : ByteArray → Option α) (w : World) : Prop :=
  N ≤ g ∧ ∃ es ck, w.heap[g]? = some (.map es ck) ∧ Entries enc f es ck
theorem MapF.lt {α : Type} {enc : α → Value} {N g : Nat} {f : ByteArray → Option α} {w : World} (h : MapF enc N g f w) : g < w.heap.size := by
  obtain ⟨_, es, ck, hb, _⟩ := h
  exact (Array.getElem?_eq_some_iff.1 hb).1
theorem MapF.kept {α : Type} {enc : α → Value} {N g : Nat} {f : ByteArray → Option α} {w w' : World} {row : Option Nat} (h : MapF enc N g f w) (hg : w.grownBy w' row) (hne : some g ≠ row) : MapF enc N g f w' := by
  have hlt := h.lt
  obtain ⟨h0, es, ck, hb, he⟩ := h
  exact ⟨h0, es, ck, (hg.block g hlt hne).trans hb, he⟩
theorem MapF.lasts2 {α : Type} {enc : α → Value} {N M : Nat} {row : Option Nat} {Tt : List TypeId} {g : Nat} {f : ByteArray → Option α} : Lasts2 N row Tt (MapF enc M g f) :=
  ⟨fun w w' h hx => hx.kept h (by simp),
   fun w w' r T c h1 _ _ h3 hx => hx.kept h3 (fun e => by
     have e2 : g = r := by injection e
     subst e2
     obtain ⟨_, es, ck, hb, _⟩ := hx
     rw [h1] at hb; cases hb)⟩
theorem MapF.far {α : Type} {enc : α → Value} {N M g g1 : Nat} {f : ByteArray → Option α} (hne : g1 ≠ g) : ∀ w w' : World, N ≤ g → w.grownBy w' (some g) → MapF enc M g1 f w → MapF enc M g1 f w' :=
  fun _ _ _ hg h => h.kept hg (fun e => hne (by injection e))
theorem SlOld.far {α : Type} {enc : α → List Value} {k N g : Nat} {T : TypeId} {row : Option Nat} {A : Option Addr} {n : Nat} {l : List α} : ∀ w w' : World, N ≤ g → w.grownBy w' (some g) → SlOld enc k T N row A n l w → SlOld enc k T N row A n l w' := fun w w' h1 h2 ⟨h3, h4⟩ => by
  refine ⟨⟨h3.len, fun hn => ?_⟩, h4⟩
  obtain ⟨b, off, cells, fz, e, hh, hr⟩ := h3.at_ hn
  exact ⟨b, off, cells, fz, e, (h2.block b (Array.getElem?_eq_some_iff.1 hh).1 (fun e2 => by
    have e3 : b = g := by injection e2
    obtain ⟨h5, _⟩ := h4 b off e hn
    omega)).trans hh, hr⟩
section
variable {α : Type} {enc : α → Value} {f : ByteArray → Option α} {es : Array MapEntry} {ck : Nat}
theorem Entries.nil : Entries enc fNil #[] 0 := ⟨stamped_empty 0, by simp, fun k v => by simp [fNil]⟩
theorem Entries.push (h : Entries enc f es ck) {k : ByteArray} (x : α) (hn : ∀ y ∈ es.toList, y.key ≠ .string k) : Entries enc (fPut f k x) (es.push ⟨.string k, enc x, ck⟩) (ck + 1) := by
  refine ⟨stamped_push h.1 hn, fun y hy => ?_, fun j v => ?_⟩
  · simp only [Array.toList_push, List.mem_append, List.mem_singleton] at hy
    rcases hy with hy | rfl
    · exact h.2.1 y hy
    · trivial
  · simp only [Array.toList_push, List.mem_append, List.mem_singleton]
    by_cases hj : j = k
    · subst hj
      rw [fPut_same]
      constructor
      · rintro ⟨e, he | rfl, h1, h2⟩
        · exact absurd h1 (hn e he)
        · exact ⟨x, rfl, h2.symm⟩
      · rintro ⟨y, hy, rfl⟩
        cases hy
        exact ⟨_, .inr rfl, rfl, rfl⟩
    · rw [fPut_other _ _ hj, ← h.2.2 j v]
      constructor
      · rintro ⟨e, he | rfl, h1, h2⟩
        · exact ⟨e, he, h1, h2⟩
        · injection h1 with h1
          exact absurd h1.symm hj
      · rintro ⟨e, he, h1, h2⟩
        exact ⟨e, .inl he, h1, h2⟩
theorem Entries.same (h : Entries enc f es ck) {k : ByteArray} (hn : f k = none) : Entries enc (fDel f k) es ck := by
  have e : fDel f k = f := by
    funext j
    by_cases hj : j = k
    · subst hj; rw [fDel_same, hn]
    · rw [fDel_other _ hj]
  rw [e]; exact h
end
end Go.Proofs.YtempjmpfdniecaaGreatDoor
namespace Go.Proofs.YtempjmpfdniecaaGreatDoor
open Go.RowKit
def RdB (r : Rd) : Prop := r.st.size ≤ 100 ∧ (-1 ≤ r.at_ ∧ r.at_ ≤ 5761439) ∧ (0 ≤ r.meter ∧ r.meter ≤ 999999) ∧ (0 ≤ r.fuel ∧ r.fuel ≤ 8)
def LgB (g : Lg) : Prop := g.veh.size ≤ 100 ∧ RdB g.out ∧ RdB g.inn
def HrB (h : Hr) : Prop := h.key.size ≤ 100 ∧ h.driver.size ≤ 100 ∧ (0 ≤ h.fr ∧ h.fr ≤ 5761439) ∧ (0 ≤ h.to_ ∧ h.to_ ≤ 5761439) ∧ (∀ g ∈ h.legs, LgB g) ∧ h.legs.length ≤ 20
theorem keyB_sz {s : ByteArray} (h : keyB s = true) : s.size ≤ 100 := by
  have e : s.size = s.data.toList.length := Array.length_toList.symm
  rw [e]
  unfold keyB at h
  cases hs : s.data.toList with
  | nil => exact Nat.zero_le _
  | cons c r =>
    rw [hs] at h
    unfold keyLB at h
    simp only [Bool.and_eq_true, decide_eq_true_eq] at h
    rw [List.length_cons]; omega
theorem whenE_no {b : Bool} {e : Int} (he : e ≠ 0) (h : whenE b e = 0) : b = false := by
  cases b with
  | false => rfl
  | true => exact absurd h he
theorem firstE_hd {a : Int} {l : List Int} (h : firstE (a :: l) = 0) : a = 0 ∧ firstE l = 0 := by
  unfold firstE at h
  split at h
  · exact ⟨‹_›, h⟩
  · exact absurd h ‹_›
theorem readingE_B {r : Rd} (h : readingE r = 0) : RdB r ∧ 0 ≤ r.at_ := by
  unfold readingE at h
  obtain ⟨h1, h⟩ := firstE_hd h
  obtain ⟨h2, h⟩ := firstE_hd h
  obtain ⟨h3, _⟩ := firstE_hd h
  have k1 := momentE_ok h1
  have k2 := whenE_no (by decide) h2
  have k3 := whenE_no (by decide) h3
  simp only [Bool.or_eq_false_iff, Bool.not_eq_false'] at k2 k3
  have k4 := inB_iff.1 k3.1
  have k5 := inB_iff.1 k3.2
  exact ⟨⟨keyB_sz k2, by omega, by omega, by omega⟩, k1.1⟩
theorem legInE_B {b : Bool} {g : Lg} (h : legInE b g = 0) : RdB g.inn := by
  unfold legInE at h
  split at h
  · rename_i ha
    obtain ⟨h1, _⟩ := firstE_hd h
    have k := whenE_no (by decide) h1
    unfold rdOut at k
    simp only [Bool.not_eq_false', Bool.and_eq_true, beq_iff_eq] at k
    obtain ⟨⟨⟨k1, k2⟩, k3⟩, k4⟩ := k
    have e : g.inn.st = ⟨#[]⟩ := bytes_ext (by simpa using k2)
    refine ⟨?_, by omega, by omega, by omega⟩
    rw [e]; exact Nat.zero_le _
  · obtain ⟨h1, _⟩ := firstE_hd h
    exact (readingE_B h1).1
theorem legE_B {fr : Int} {p : Option Lg} {b : Bool} {g : Lg} (h : legE fr p b g = 0) : LgB g := by
  unfold legE at h
  obtain ⟨h1, h⟩ := firstE_hd h
  obtain ⟨h2, h⟩ := firstE_hd h
  obtain ⟨_, h⟩ := firstE_hd h
  obtain ⟨h4, _⟩ := firstE_hd h
  have k1 := whenE_no (by decide) h1
  simp only [Bool.not_eq_false'] at k1
  exact ⟨keyB_sz k1, (readingE_B h2).1, legInE_B h4⟩
theorem legsE_B {fr : Int} {l : List Lg} : ∀ (n : Nat), n ≤ l.length → legsE fr l n = 0 → ∀ i g, l.length - n ≤ i → l[i]? = some g → LgB g
  | 0, _, _, i, g, hi, hg => by
    have := (List.getElem?_eq_some_iff.1 hg).1
    omega
  | n + 1, hn, h, i, g, hi, hg => by
    unfold legsE at h
    split at h
    · rename_i hx
      rw [List.getElem?_eq_none_iff] at hx
      omega
    · rename_i x hx
      split at h
      · rename_i h0
        by_cases hi2 : i = l.length - (n + 1)
        · subst hi2
          rw [hx] at hg
          cases hg
          exact legE_B h0
        · exact legsE_B n (by omega) h i g (by omega) hg
      · rename_i h0; exact absurd h h0
theorem hrB_of {h : Hr} (h0 : hireE h = 0) : HrB h := by
  unfold hireE at h0
  obtain ⟨h1, h0⟩ := firstE_hd h0
  obtain ⟨h2, h0⟩ := firstE_hd h0
  obtain ⟨h3, _⟩ := firstE_hd h0
  have k1 := whenE_no (by decide) h1
  simp only [Bool.or_eq_false_iff, Bool.not_eq_false'] at k1
  have k2 : 0 ≤ h.fr ∧ h.fr < h.to_ ∧ h.to_ ≤ 5761439 := by
    unfold timeE at h2
    split at h2
    · cases h2
    · omega
  split at h3
  · cases h3
  · split at h3
    · cases h3
    · refine ⟨keyB_sz k1.1, keyB_sz k1.2, by omega, by omega, fun g hg => ?_, by omega⟩
      obtain ⟨i, hi⟩ := List.getElem?_of_mem hg
      exact legsE_B _ (Nat.le_refl _) h3 i g (by omega) hi
def hireW : ByteArray := ⟨#[104, 105, 114, 101]⟩
def legW : ByteArray := ⟨#[108, 101, 103]⟩
def hirRdP (r : Rd) : List ByteArray := [itoaS r.at_, r.st, itoaS r.meter, itoaS r.fuel]
def hirRdJ (r : Rd) : ByteArray := joinS (hirRdP r) ⟨#[32]⟩
def hirLegP (g : Lg) : List ByteArray := [legW, g.veh, itoaS g.out.at_, g.out.st, itoaS g.out.meter, itoaS g.out.fuel]
def hirLegJ (g : Lg) : ByteArray := joinS (hirLegP g) ⟨#[32]⟩
def hirIn (g : Lg) : ByteArray := if g.inn.at_ = -1 then ⟨#[]⟩ else (⟨#[32]⟩ : ByteArray) ++ hirRdJ g.inn
/-- The line of a leg. -/
def hirLeg (g : Lg) : ByteArray := (hirLegJ g ++ hirIn g) ++ (⟨#[10]⟩ : ByteArray)
def hirHdP (h : Hr) : List ByteArray := [hireW, h.key, h.driver, itoaS h.fr, itoaS h.to_]
/-- The first line. -/
def hirHd (h : Hr) : ByteArray := joinS (hirHdP h) ⟨#[32]⟩ ++ (⟨#[10]⟩ : ByteArray)
def hirTxL (h : Hr) (l : List Lg) : List UInt8 := (hirHd h).data.toList ++ l.flatMap fun g => (hirLeg g).data.toList
def hirTx (h : Hr) (l : List Lg) : ByteArray := ⟨(hirTxL h l).toArray⟩
theorem hb_nil (a : ByteArray) : a ++ (⟨#[]⟩ : ByteArray) = a := ba_eq (by rw [ByteArray.data_append, Array.toList_append]; simp)
theorem hirLeg_no {g : Lg} (h : g.inn.at_ = -1) : hirLeg g = hirLegJ g ++ (⟨#[10]⟩ : ByteArray) := by
  unfold hirLeg hirIn; rw [if_pos h, hb_nil]
theorem hirLeg_in {g : Lg} (h : ¬ g.inn.at_ = -1) : hirLeg g = (hirLegJ g ++ ((⟨#[32]⟩ : ByteArray) ++ hirRdJ g.inn)) ++ (⟨#[10]⟩ : ByteArray) := by
  unfold hirLeg hirIn; rw [if_neg h]
theorem hirTxL_at {h : Hr} {l : List Lg} {i : Nat} {x : Lg} (hx : l[i]? = some x) : hirTxL h (l.take (i + 1)) = hirTxL h (l.take i) ++ (hirLeg x).data.toList := by
  unfold hirTxL
  rw [List.take_add_one, hx, Option.toList_some, List.flatMap_append]; simp
theorem rd_i64 {r : Rd} (h : RdB r) : (-9223372036854775808 ≤ r.at_ ∧ r.at_ ≤ 9223372036854775807) ∧ (-9223372036854775808 ≤ r.meter ∧ r.meter ≤ 9223372036854775807) ∧ (-9223372036854775808 ≤ r.fuel ∧ r.fuel ≤ 9223372036854775807) := by
  obtain ⟨_, _, _, _⟩ := h; omega
theorem hirRdP_sz {r : Rd} (h : RdB r) : ∀ y ∈ hirRdP r, y.size ≤ 100 := fun y hy => by
  obtain ⟨i1, i2, i3⟩ := rd_i64 h
  have e1 := itoa_sz i1
  have e2 := itoa_sz i2
  have e3 := itoa_sz i3
  have e4 := h.1
  unfold hirRdP at hy
  simp only [List.mem_cons, List.not_mem_nil, or_false] at hy
  rcases hy with rfl | rfl | rfl | rfl <;> omega
theorem hirRdJ_sz {r : Rd} (h : RdB r) : (hirRdJ r).size ≤ 404 := by
  have h1 := join_len (sep := ⟨#[32]⟩) (hirRdP_sz h)
  have h2 : (hirRdP r).length * ((⟨#[32]⟩ : ByteArray).size + 100) = 404 := by
    show 4 * (1 + 100) = 404
    decide
  unfold hirRdJ
  omega
theorem hirLegP_sz {g : Lg} (h : LgB g) : ∀ y ∈ hirLegP g, y.size ≤ 100 := fun y hy => by
  obtain ⟨i1, i2, i3⟩ := rd_i64 h.2.1
  have e1 := itoa_sz i1
  have e2 := itoa_sz i2
  have e3 := itoa_sz i3
  have e4 := h.2.1.1
  have e5 := h.1
  have e6 : legW.size = 3 := rfl
  unfold hirLegP at hy
  simp only [List.mem_cons, List.not_mem_nil, or_false] at hy
  rcases hy with rfl | rfl | rfl | rfl | rfl | rfl <;> omega
theorem hirLegJ_sz {g : Lg} (h : LgB g) : (hirLegJ g).size ≤ 606 := by
  have h1 := join_len (sep := ⟨#[32]⟩) (hirLegP_sz h)
  have h2 : (hirLegP g).length * ((⟨#[32]⟩ : ByteArray).size + 100) = 606 := by
    show 6 * (1 + 100) = 606
    decide
  unfold hirLegJ
  omega
theorem hirLeg_sz {g : Lg} (h : LgB g) : (hirLeg g).size ≤ 1100 := by
  have h1 := hirLegJ_sz h
  have h2 := hirRdJ_sz h.2.2
  have h3 : (⟨#[10]⟩ : ByteArray).size = 1 := rfl
  have h4 : (⟨#[32]⟩ : ByteArray).size = 1 := rfl
  by_cases h6 : g.inn.at_ = -1
  · rw [hirLeg_no h6, ByteArray.size_append]; omega
  · rw [hirLeg_in h6, ByteArray.size_append, ByteArray.size_append, ByteArray.size_append]; omega
theorem hirHdP_sz {h : Hr} (hB : HrB h) : ∀ y ∈ hirHdP h, y.size ≤ 100 := fun y hy => by
  obtain ⟨s1, s2, i1, i2, _⟩ := hB
  have e1 := itoa_sz (v := h.fr) (by omega)
  have e2 := itoa_sz (v := h.to_) (by omega)
  have e6 : hireW.size = 4 := rfl
  unfold hirHdP at hy
  simp only [List.mem_cons, List.not_mem_nil, or_false] at hy
  rcases hy with rfl | rfl | rfl | rfl | rfl <;> omega
theorem hirHdJ_sz {h : Hr} (hB : HrB h) : (joinS (hirHdP h) ⟨#[32]⟩).size ≤ 505 := by
  have h1 := join_len (sep := ⟨#[32]⟩) (hirHdP_sz hB)
  have h2 : (hirHdP h).length * ((⟨#[32]⟩ : ByteArray).size + 100) = 505 := by
    show 5 * (1 + 100) = 505
    decide
  omega
theorem hirHd_sz {h : Hr} (hB : HrB h) : (hirHd h).size ≤ 506 := by
  have h1 := hirHdJ_sz hB
  have h3 : (⟨#[10]⟩ : ByteArray).size = 1 := rfl
  unfold hirHd
  rw [ByteArray.size_append]; omega
theorem hirTxL_len {h : Hr} {l : List Lg} (hB : HrB h) (hl : ∀ g ∈ l, LgB g) : (hirTxL h l).length ≤ 506 + l.length * 1100 := by
  have h0 := hirHd_sz hB
  have key : (l.flatMap fun g => (hirLeg g).data.toList).length ≤ l.length * 1100 := by
    induction l with
    | nil => exact Nat.le_refl _
    | cons x r ih =>
      have h1 := ih fun y hy => hl y (List.mem_cons_of_mem _ hy)
      have h2 := hirLeg_sz (hl x (List.mem_cons_self ..))
      rw [List.flatMap_cons, List.length_append, dl_size, List.length_cons]
      omega
  unfold hirTxL
  rw [List.length_append, dl_size]
  omega
theorem hirTx_sz {h : Hr} {l : List Lg} (hB : HrB h) (hl : ∀ g ∈ l, LgB g) : (hirTx h l).size ≤ 506 + l.length * 1100 := by
  unfold hirTx; rw [sz_mk]; exact hirTxL_len hB hl
theorem leg_take {l : List Lg} (h : ∀ g ∈ l, LgB g) (i : Nat) : ∀ g ∈ l.take i, LgB g := fun x hx => h x (List.mem_of_mem_take hx)
theorem hb_two {l : List UInt8} {a b : ByteArray} : Lib.byteCells l ++ Lib.strCells a ++ Lib.strCells b = Lib.byteCells (l ++ (a ++ b).data.toList) := by
  rw [cells_app, cells_app, ByteArray.data_append, Array.toList_append, List.append_assoc]
theorem hb_three {l : List UInt8} {a b c : ByteArray} : Lib.byteCells l ++ Lib.strCells a ++ Lib.strCells b ++ Lib.strCells c = Lib.byteCells (l ++ (a ++ b ++ c).data.toList) := by
  rw [hb_two, cells_app]
  simp only [ByteArray.data_append, Array.toList_append, List.append_assoc]
def hirRdPts (r : Rd) : List Pt := [.n r.at_, .s r.st, .n r.meter, .n r.fuel]
def hirLegPts (g : Lg) : List Pt := [.s legW, .s g.veh, .n g.out.at_, .s g.out.st, .n g.out.meter, .n g.out.fuel]
def hirHdPts (h : Hr) : List Pt := [.s hireW, .s h.key, .s h.driver, .n h.fr, .n h.to_]
theorem hirRdPts_ok {r : Rd} (h : RdB r) : ∀ y ∈ hirRdPts r, PtOk y := fun y hy => by
  obtain ⟨i1, i2, i3⟩ := rd_i64 h
  have e4 := h.1
  unfold hirRdPts at hy
  simp only [List.mem_cons, List.not_mem_nil, or_false] at hy
  rcases hy with rfl | rfl | rfl | rfl
  · exact i1
  · show r.st.size ≤ 1000000; omega
  · exact i2
  · exact i3
theorem hirLegPts_ok {g : Lg} (h : LgB g) : ∀ y ∈ hirLegPts g, PtOk y := fun y hy => by
  obtain ⟨i1, i2, i3⟩ := rd_i64 h.2.1
  have e4 := h.2.1.1
  have e5 := h.1
  unfold hirLegPts at hy
  simp only [List.mem_cons, List.not_mem_nil, or_false] at hy
  rcases hy with rfl | rfl | rfl | rfl | rfl | rfl
  · show legW.size ≤ 1000000; decide
  · show g.veh.size ≤ 1000000; omega
  · exact i1
  · show g.out.st.size ≤ 1000000; omega
  · exact i2
  · exact i3
theorem hirHdPts_ok {h : Hr} (hB : HrB h) : ∀ y ∈ hirHdPts h, PtOk y := fun y hy => by
  obtain ⟨s1, s2, i1, i2, _⟩ := hB
  unfold hirHdPts at hy
  simp only [List.mem_cons, List.not_mem_nil, or_false] at hy
  rcases hy with rfl | rfl | rfl | rfl | rfl
  · show hireW.size ≤ 1000000; decide
  · show h.key.size ≤ 1000000; omega
  · show h.driver.size ≤ 1000000; omega
  · show -9223372036854775808 ≤ h.fr ∧ h.fr ≤ 9223372036854775807; omega
  · show -9223372036854775808 ≤ h.to_ ∧ h.to_ ≤ 9223372036854775807; omega
def rdW (a b c d : ByteArray) : Rd := ⟨numV a, b, numV c, numV d⟩
def noRd : Rd := ⟨-1, ⟨#[]⟩, 0, 0⟩
def hHd : List ByteArray → Option Hr
  | [a0, a1, a2, a3, a4] => if (eqS a0 hireW && [a3, a4].all numB) = true then some ⟨a1, a2, numV a3, numV a4, []⟩ else none
  | _ => none
def hLeg : List ByteArray → Option Lg
  | [a0, a1, a2, a3, a4, a5] => if (eqS a0 legW && [a2, a4, a5].all numB) = true then some ⟨a1, rdW a2 a3 a4 a5, noRd⟩ else none
  | [a0, a1, a2, a3, a4, a5, a6, a7, a8, a9] => if (eqS a0 legW && [a2, a4, a5].all numB && [a6, a8, a9].all numB) = true then some ⟨a1, rdW a2 a3 a4 a5, rdW a6 a7 a8 a9⟩ else none
  | _ => none
def hPush (h : Hr) (g : Lg) : Hr := ⟨h.key, h.driver, h.fr, h.to_, h.legs ++ [g]⟩
def hNew (t : ByteArray) (st : Option Hr) : Option Hr := if wdB t = true then (match st with
  | none => hHd (wdL t)
  | some h => (hLeg (wdL t)).map (hPush h)) else none
def hStep (t : ByteArray) (st : Option Hr) : Option Hr × Bool := match hNew t st with
  | some h => (some h, true)
  | none => (st, false)
theorem hStep_no {t : ByteArray} {st : Option Hr} (h : hNew t st = none) : hStep t st = (st, false) := by unfold hStep; rw [h]
theorem hStep_yes {t : ByteArray} {st : Option Hr} {x : Hr} (h : hNew t st = some x) : hStep t st = (some x, true) := by unfold hStep; rw [h]
theorem hNew_wd {t : ByteArray} {st : Option Hr} (h : (!wdB t) = true) : hNew t st = none := by
  unfold hNew
  cases hb : wdB t with
  | false => rfl
  | true => rw [hb] at h; cases h
theorem hNew_hd {t : ByteArray} (h : (!wdB t) = false) : hNew t none = hHd (wdL t) := by
  unfold hNew
  cases hb : wdB t with
  | true => rfl
  | false => rw [hb] at h; cases h
theorem hNew_leg {t : ByteArray} {x : Hr} (h : (!wdB t) = false) : hNew t (some x) = (hLeg (wdL t)).map (hPush x) := by
  unfold hNew
  cases hb : wdB t with
  | true => rfl
  | false => rw [hb] at h; cases h
theorem hHd_len {l : List ByteArray} (h : ¬ l.length = 5) : hHd l = none := by
  unfold hHd
  split
  · exact absurd rfl h
  · rfl
theorem hLeg_len {l : List ByteArray} (h : ¬ l.length = 6) (h2 : ¬ l.length = 10) : hLeg l = none := by
  unfold hLeg
  split
  · exact absurd rfl h
  · exact absurd rfl h2
  · rfl
theorem list5 {l : List ByteArray} (h : l.length = 5) : ∃ a0 a1 a2 a3 a4, l = [a0, a1, a2, a3, a4] := by
  match l, h with
  | [a0, a1, a2, a3, a4], _ => exact ⟨a0, a1, a2, a3, a4, rfl⟩
theorem list6 {l : List ByteArray} (h : l.length = 6) : ∃ a0 a1 a2 a3 a4 a5, l = [a0, a1, a2, a3, a4, a5] := by
  match l, h with
  | [a0, a1, a2, a3, a4, a5], _ => exact ⟨a0, a1, a2, a3, a4, a5, rfl⟩
theorem list10 {l : List ByteArray} (h : l.length = 10) : ∃ a0 a1 a2 a3 a4 a5 a6 a7 a8 a9, l = [a0, a1, a2, a3, a4, a5, a6, a7, a8, a9] := by
  match l, h with
  | [a0, a1, a2, a3, a4, a5, a6, a7, a8, a9], _ => exact ⟨a0, a1, a2, a3, a4, a5, a6, a7, a8, a9, rfl⟩
theorem hLeg_first {l : List ByteArray} {a : ByteArray} {r : List ByteArray} (e : l = a :: r) (h : eqS a legW = false) : hLeg l = none := by
  subst e
  unfold hLeg
  split
  · rename_i e; cases e; rw [h]; rfl
  · rename_i e; cases e; rw [h]; rfl
  · rfl
theorem hHd_first {l : List ByteArray} {a : ByteArray} {r : List ByteArray} (e : l = a :: r) (h : eqS a hireW = false) : hHd l = none := by
  subst e
  unfold hHd
  split
  · rename_i e; cases e; rw [h]; rfl
  · rfl
/-- What the state holds, in size. -/
def HsQ (st : Option Hr) : Prop := ∀ h, st = some h → HrOk h.key h.driver h.legs
def hsM (st : Option Hr) : Nat := match st with
  | none => 0
  | some h => h.legs.length
theorem noRd_ok : RdOk noRd := (by decide : (⟨#[]⟩ : ByteArray).size ≤ 1000000)
theorem hHd_ok {l : List ByteArray} {h : Hr} (hz : ∀ x ∈ l, x.size ≤ 1000000) (hh : hHd l = some h) : HrOk h.key h.driver h.legs ∧ h.legs.length = 0 := by
  unfold hHd at hh
  split at hh
  · split at hh
    · obtain rfl := Option.some.inj hh
      exact ⟨⟨hz _ (by simp), hz _ (by simp), fun _ hg => by cases hg⟩, rfl⟩
    · cases hh
  · cases hh
theorem hLeg_ok {l : List ByteArray} {g : Lg} (hz : ∀ x ∈ l, x.size ≤ 1000000) (hh : hLeg l = some g) : LgOk g := by
  unfold hLeg at hh
  split at hh
  · split at hh
    · obtain rfl := Option.some.inj hh
      rename_i a0 a1 a2 a3 a4 a5 _
      exact ⟨hz a1 (by simp), hz a3 (by simp), noRd_ok⟩
    · cases hh
  · split at hh
    · obtain rfl := Option.some.inj hh
      rename_i a0 a1 a2 a3 a4 a5 a6 a7 a8 a9 _
      exact ⟨hz a1 (by simp), hz a3 (by simp), hz a7 (by simp)⟩
    · cases hh
  · cases hh
theorem hNew_ok {t : ByteArray} {st : Option Hr} {x : Hr} (ht : t.size ≤ 1000000) (hq : HsQ st) (h : hNew t st = some x) : HrOk x.key x.driver x.legs ∧ x.legs.length ≤ hsM st + 1 := by
  have hz : ∀ y ∈ wdL t, y.size ≤ 1000000 := fun y hy => Nat.le_trans (wdL_sz t y hy) ht
  unfold hNew at h
  split at h
  · split at h
    · have := hHd_ok hz h
      exact ⟨this.1, by omega⟩
    · rename_i y
      cases hl : hLeg (wdL t) with
      | none => rw [hl] at h; cases h
      | some g =>
        rw [hl] at h
        obtain rfl := Option.some.inj h
        have h1 := hq y rfl
        refine ⟨⟨h1.1, h1.2.1, fun z hz2 => ?_⟩, ?_⟩
        · rcases List.mem_append.1 hz2 with hz2 | hz2
          · exact h1.2.2 z hz2
          · rw [List.mem_singleton.1 hz2]; exact hLeg_ok hz hl
        · show (y.legs ++ [g]).length ≤ _
          rw [List.length_append]; exact Nat.le_refl _
  · cases h
theorem hStep_ok (t : ByteArray) (st : Option Hr) (ht : t.size ≤ 200000) (hq : HsQ st) : HsQ (hStep t st).1 ∧ hsM (hStep t st).1 ≤ hsM st + 1 := by
  cases hn : hNew t st with
  | none => rw [hStep_no hn]; exact ⟨hq, Nat.le_succ _⟩
  | some x =>
    rw [hStep_yes hn]
    have := hNew_ok (by omega) hq hn
    exact ⟨fun h e => by cases e; exact this.1, this.2⟩
def hrR (t : ByteArray) : Int × Bool × Option Hr := linesR hStep none t
theorem hrR_all {t : ByteArray} (ht : t.size ≤ 200000) : HsQ (hrR t).2.2 ∧ hsM (hrR t).2.2 ≤ t.size := by
  have h := linesR_all (Q := HsQ) (ms := hsM) (M := 200000) hStep_ok ht (st := none) (fun _ e => by cases e)
  exact ⟨h.1, by have := h.2; rw [show hsM none = 0 from rfl, Nat.zero_add] at this; exact this⟩
/-- Where all lines are read, the number is 0. -/
theorem lines_zero {σ : Type} {step : ByteArray → σ → σ × Bool} : ∀ (f : Nat) (t : ByteArray) (a : Int) (st : σ), (linesF step f t a st).2.1 = true → (linesF step f t a st).1 = 0
  | 0, _, _, _, _ => rfl
  | f + 1, t, a, st, h => by
    unfold linesF at h ⊢
    split
    · rfl
    · rename_i h1
      rw [if_neg h1] at h
      split
      · rename_i h2; rw [if_pos h2] at h; cases h
      · rename_i h2
        rw [if_neg h2] at h
        split
        · rename_i h3; rw [if_pos h3] at h; exact lines_zero f _ _ _ h
        · rename_i h3; rw [if_neg h3] at h; cases h
def zeroHr : Hr := ⟨⟨#[]⟩, ⟨#[]⟩, 0, 0, []⟩
/-- What a text is read as: the error, the line, the hire. -/
def hrE (t : ByteArray) : Int := if 200000 < t.size then 2 else if (hrR t).2.1 = false then 9 else match (hrR t).2.2 with
  | none => 9
  | some h => hireE h
def hrAt (t : ByteArray) : Int := if 200000 < t.size then 0 else if (hrR t).2.1 = false then (hrR t).1 else 0
def hrH (t : ByteArray) : Hr := if 200000 < t.size then zeroHr else if (hrR t).2.1 = false then zeroHr else match (hrR t).2.2 with
  | none => zeroHr
  | some h => if hireE h = 0 then h else zeroHr
section
variable {t : ByteArray} {x : Hr}
theorem hr_big (h : 200000 < t.size) : hrE t = 2 ∧ hrAt t = 0 ∧ hrH t = zeroHr := by unfold hrE hrAt hrH; simp [h]
theorem hr_syn (h : ¬ 200000 < t.size) (h2 : (hrR t).2.1 = false) : hrE t = 9 ∧ hrAt t = (hrR t).1 ∧ hrH t = zeroHr := by unfold hrE hrAt hrH; simp [h, h2]
theorem hr_none (h : ¬ 200000 < t.size) (h2 : (hrR t).2.1 = true) (h3 : (hrR t).2.2 = none) : hrE t = 9 ∧ hrAt t = (hrR t).1 ∧ hrH t = zeroHr := by
  have h4 : (hrR t).1 = 0 := lines_zero _ _ _ _ h2
  unfold hrE hrAt hrH; simp [h, h2, h3, h4]
theorem hr_form (h : ¬ 200000 < t.size) (h2 : (hrR t).2.1 = true) (h3 : (hrR t).2.2 = some x) (h4 : ¬ hireE x = 0) : hrE t = hireE x ∧ hrAt t = 0 ∧ hrH t = zeroHr := by unfold hrE hrAt hrH; simp [h, h2, h3, h4]
theorem hr_right (h : ¬ 200000 < t.size) (h2 : (hrR t).2.1 = true) (h3 : (hrR t).2.2 = some x) (h4 : hireE x = 0) : hrE t = 0 ∧ hrAt t = 0 ∧ hrH t = x := by unfold hrE hrAt hrH; simp [h, h2, h3, h4]
end
end Go.Proofs.YtempjmpfdniecaaGreatDoor
namespace Go.Proofs.YtempjmpfdniecaaGreatDoor
open Go.RowKit
theorem not_t {b : Bool} (h : (!b) = true) : b = false := by cases b <;> simp_all
theorem not_f {b : Bool} (h : (!b) = false) : b = true := by cases b <;> simp_all
theorem leg6_yes {a0 a1 a2 a3 a4 a5 : ByteArray} (h1 : eqS a0 legW = true) (h2 : [a2, a4, a5].all numB = true) : hLeg [a0, a1, a2, a3, a4, a5] = some ⟨a1, rdW a2 a3 a4 a5, noRd⟩ := if_pos (by rw [h1, h2]; rfl)
theorem leg6_no {a0 a1 a2 a3 a4 a5 : ByteArray} (h2 : [a2, a4, a5].all numB = false) : hLeg [a0, a1, a2, a3, a4, a5] = none := if_neg (by rw [h2, Bool.and_false]; decide)
theorem leg10_yes {a0 a1 a2 a3 a4 a5 a6 a7 a8 a9 : ByteArray} (h1 : eqS a0 legW = true) (h2 : [a2, a4, a5].all numB = true) (h3 : [a6, a8, a9].all numB = true) : hLeg [a0, a1, a2, a3, a4, a5, a6, a7, a8, a9] = some ⟨a1, rdW a2 a3 a4 a5, rdW a6 a7 a8 a9⟩ := if_pos (by rw [h1, h2, h3]; rfl)
theorem leg10_no {a0 a1 a2 a3 a4 a5 a6 a7 a8 a9 : ByteArray} (h2 : [a2, a4, a5].all numB = false) : hLeg [a0, a1, a2, a3, a4, a5, a6, a7, a8, a9] = none := if_neg (by rw [h2, Bool.and_false, Bool.false_and]; decide)
theorem leg10_no2 {a0 a1 a2 a3 a4 a5 a6 a7 a8 a9 : ByteArray} (h3 : [a6, a8, a9].all numB = false) : hLeg [a0, a1, a2, a3, a4, a5, a6, a7, a8, a9] = none := if_neg (by rw [h3, Bool.and_false]; decide)
theorem reading_w (a0 a1 a2 a3 : ByteArray) (A : Option Addr) (c : Nat) (w : World) (ht : TxtW w) (hw : SlT sgEnc 1 9 w A 4 [a0, a1, a2, a3]) (z0 : a0.size ≤ 1000000) (z2 : a2.size ≤ 1000000) (z3 : a3.size ≤ 1000000) :
  Calls Tryz.prog 181 #[.slice A 4 c] w (fun e w' => ∃ (x0 : Int) (x1 : ByteArray) (x2 x3 : Int), e = .returned (.tuple #[.agg #[.int .i64 x0, .string x1, .int .i64 x2, .int .i64 x3], .bool ([a0, a2, a3].all numB)]) ∧ ([a0, a2, a3].all numB = true → (⟨x0, x1, x2, x3⟩ : Rd) = rdW a0 a1 a2 a3) ∧ w.grownBy w' none) := by
 refine gw_enter ⟨36, w, none, [9, 3]⟩ Tryz.func181 rfl Tryz.ntmps181 rfl (mem0 (X := [SlOld sgEnc 1 9 w.heap.size none A 4 [a0, a1, a2, a3], TxtO w.heap.size none]) (allF_cons hw.old (allF_cons ht.old allF_nil)) (allL_cons SlOld.lasts (allL_cons TxtO.lasts allL_nil))) ?_
 refine sr_ ?_
 obtain ⟨NB, hNB⟩ : ∃ z, z = [a0, a2, a3].all numB := ⟨_, rfl⟩
 rw [← hNB]
 obtain ⟨b, off, hA, _, _⟩ := hw.get (by omega)
 subst hA
 refine wl_alloc zc48 rfl fun g1 => ?_
 refine sg_ rfl (nn_ (gw_seq ?_))
 refine gd (fun wz => Blk wz g1 48 [.int .i64 0, .string ⟨#[]⟩, .int .i64 0, .int .i64 0] ∧ (SlOld sgEnc 1 9 w.heap.size none (some ⟨b, off, none⟩) 4 [a0, a1, a2, a3]) wz ∧ (TxtO w.heap.size none) wz ∧ True) mixed (fun _ hm => ⟨hm.bl 0, hm.fa 0, hm.fa 1, trivial⟩) fun z => ?_
 refine wt 0 16 1 rfl z (ov_move rfl) ?_
 refine wt 1 16 3 rfl z (ov_index (j := 0) es103 rfl rfl (by omega)) ?_
 refine wt 2 16 7 rfl z (ov_elem1 (k := 0) (v := .string a0) sc9 rfl (fun _ hm => (hm.2.1).1) (show ([a0, a1, a2, a3] : List ByteArray)[0]? = some a0 from rfl) rfl rfl) ?_
 refine wt 3 16 15 rfl z (ov_move rfl) ?_
 refine wt 4 16 31 rfl z (ov_index (j := 2) es103 rfl rfl (by omega)) ?_
 refine wt 5 16 63 rfl z (ov_elem1 (k := 0) (v := .string a2) sc9 rfl (fun _ hm => (hm.2.1).1) (show ([a0, a1, a2, a3] : List ByteArray)[2]? = some a2 from rfl) rfl rfl) ?_
 refine wt 6 16 127 rfl z (ov_move rfl) ?_
 refine wt 7 16 255 rfl z (ov_index (j := 3) es103 rfl rfl (by omega)) ?_
 refine wt 8 16 511 rfl z (ov_elem1 (k := 0) (v := .string a3) sc9 rfl (fun _ hm => (hm.2.1).1) (show ([a0, a1, a2, a3] : List ByteArray)[3]? = some a3 from rfl) rfl rfl) ?_
 refine wa1 9 rfl ?_
 refine wl_buildSlice (e := 9) (cs := [.string a0, .string a2, .string a3]) rfl (by kernel_rfl) rfl fun g2 => ?_
 refine wl_nil ?_
 refine nw 16 1023 (fun _ hm => ⟨hm.bl 1, hm.fa 0, hm.fa 1, trivial⟩) fun z => ?_
 refine wa1 10 rfl ?_
 refine wl_callx (γ := Option Addr × Nat × Nat) (val := (fun g => .tuple #[.slice g.1 g.2.1 g.2.2, .bool NB])) (φ := (fun g => True)) (Y := (fun g => fun wy => IfT NB (SlT tiEnc 1 3 wy g.1 g.2.1 [numV a0, numV a2, numV a3] ∧ g.2.1 = 3))) rfl cb79 rfl rfl (fun wx hm => (by have h := numbers_any [a0, a2, a3] (some ⟨g2, 0, none⟩) 3 3 wx (hm.fact 1 rfl).1 (SlT.ofBlk (l := [a0, a2, a3]) sg_len (hm.blkI 0 rfl)) (by omega) (fun x hx => by simp only [List.mem_cons, List.not_mem_nil, or_false] at hx; rcases hx with rfl | rfl | rfl <;> assumption); rw [← hNB] at h; exact h.mono fun _ _ ⟨A2, k, c2, he, h1, hg⟩ => ⟨(A2, k, c2), he, trivial, hg, h1⟩)) (fun _ => (SlT.lasts2 rfl).ift) ?_
 rintro ⟨nA, nk, nc⟩ hphi
 dsimp only
 clear hphi
 refine wl_nil ?_
 refine nw 16 2047 (fun _ hm => ⟨hm.bl 1, hm.fa 1, hm.fa 2, trivial⟩) fun z => ?_
 refine wt 11 16 4095 rfl z (ov_move rfl) ?_
 refine wt 12 16 8191 rfl z (ov_extract rfl rfl) ?_
 refine wt 13 16 16383 rfl z (ov_extract rfl rfl) ?_
 refine wt 14 16 32767 rfl z (ov_assign rfl) ?_
 refine wt 15 16 65535 rfl z (ov_assign rfl) ?_
 refine wa_done (by kernel_rfl) ?_
 refine nx_then (gw_seq (sr_ (mv_ rfl (wl_ov (ov_un_not rfl) rfl (nn_ ?_)))))
 refine gw_cond rfl (fun hh => ?_) (fun hh => ?_)
 ·have hn : NB = false := by simpa using hh
  clear hh
  refine sr_ ?_
  subst hn
  refine wl_ov (ov_build (cs := [.int .i64 0, .string ⟨#[]⟩, .int .i64 0, .int .i64 0]) rfl (by kernel_rfl)) rfl ?_
  refine wl_stores (cs' := [.int .i64 0, .string ⟨#[]⟩, .int .i64 0, .int .i64 0]) 1 rz48 rfl rfl rfl rfl rfl rfl rfl rfl ?_
  refine sg_ rfl (nn_ ?_)
  refine gw_ret ?_
  refine nx_then_ret ?_
  refine nx_retct 1 rfl rz48 rfl rfl rfl rfl fun wx hm => ?_
  exact ⟨0, ⟨#[]⟩, 0, 0, rfl, fun h => (by cases h), hm.g⟩
 have hn : NB = true := by simpa using hh
 clear hh
 refine gw_skip (nx_then (gw_seq ?_))
 subst hn
 refine gw_look (R := nk = 3) (fun wx hm => ((hm.fact 0 rfl) rfl).2) ?_
 rintro rfl
 refine gw_look (R := ∃ b o, nA = some ⟨b, o, none⟩) (fun wx hm => by obtain ⟨b, off, hA, _, _⟩ := SlT.get ((hm.fact 0 rfl) rfl).1 (by omega); exact ⟨b, off, hA⟩) ?_
 rintro ⟨bn, on, rfl⟩
 refine gd (fun wz => Blk wz g2 9 [.string a0, .string a2, .string a3] ∧ (fun wy => IfT true (SlT tiEnc 1 3 wy (some ⟨bn, on, none⟩) 3 [numV a0, numV a2, numV a3] ∧ 3 = 3)) wz ∧ (SlOld sgEnc 1 9 w.heap.size none (some ⟨b, off, none⟩) 4 [a0, a1, a2, a3]) wz ∧ (TxtO w.heap.size none) wz ∧ True) mixed (fun _ hm => ⟨hm.bl 0, hm.fa 0, hm.fa 1, hm.fa 2, trivial⟩) fun z => ?_
 refine wt 0 15 1 rfl z (ov_move rfl) ?_
 refine wt 1 15 3 rfl z (ov_index (j := 0) es22 rfl rfl (by omega)) ?_
 refine wt 2 15 7 rfl z (ov_elem1 (k := 0) (v := .int .i64 (numV a0)) sc3 rfl (fun _ hm => ((hm.2.1) rfl).1) (show ([numV a0, numV a2, numV a3] : List Int)[0]? = some (numV a0) from rfl) rfl rfl) ?_
 refine wt 3 15 15 rfl z (ov_move rfl) ?_
 refine wt 4 15 31 rfl z (ov_index (j := 1) es103 rfl rfl (by omega)) ?_
 refine wt 5 15 63 rfl z (ov_elem1 (k := 0) (v := .string a1) sc9 rfl (fun _ hm => (hm.2.2.1).1) (show ([a0, a1, a2, a3] : List ByteArray)[1]? = some a1 from rfl) rfl rfl) ?_
 refine wt 6 15 127 rfl z (ov_move rfl) ?_
 refine wt 7 15 255 rfl z (ov_index (j := 1) es22 rfl rfl (by omega)) ?_
 refine wt 8 15 511 rfl z (ov_elem1 (k := 0) (v := .int .i64 (numV a2)) sc3 rfl (fun _ hm => ((hm.2.1) rfl).1) (show ([numV a0, numV a2, numV a3] : List Int)[1]? = some (numV a2) from rfl) rfl rfl) ?_
 refine wt 9 15 1023 rfl z (ov_move rfl) ?_
 refine wt 10 15 2047 rfl z (ov_index (j := 2) es22 rfl rfl (by omega)) ?_
 refine wt 11 15 4095 rfl z (ov_elem1 (k := 0) (v := .int .i64 (numV a3)) sc3 rfl (fun _ hm => ((hm.2.1) rfl).1) (show ([numV a0, numV a2, numV a3] : List Int)[2]? = some (numV a3) from rfl) rfl rfl) ?_
 refine wt 12 15 8191 rfl z (ov_build (cs := [.int .i64 (numV a0), .string a1, .int .i64 (numV a2), .int .i64 (numV a3)]) rfl (by kernel_rfl)) ?_
 refine wa1 13 rfl ?_
 refine wl_stores (cs' := [.int .i64 (numV a0), .string a1, .int .i64 (numV a2), .int .i64 (numV a3)]) 1 rz48 rfl rfl rfl rfl rfl rfl rfl rfl ?_
 refine wl_nil ?_
 refine nw 15 16383 (fun _ hm => ⟨hm.bl 0, hm.fa 0, hm.fa 1, hm.fa 2, trivial⟩) fun z => ?_
 refine wt 14 15 32767 rfl z (ov_assign rfl) ?_
 refine wa_done (by kernel_rfl) ?_
 refine nx_then ?_
 refine gw_ret ?_
 refine nx_retct 1 rfl rz48 rfl rfl rfl rfl fun wx hm => ?_
 exact ⟨numV a0, a1, numV a2, numV a3, rfl, fun _ => rfl, hm.g⟩
theorem leg6_w (a0 a1 a2 a3 a4 a5 : ByteArray) (A : Option Addr) (w : World) (ht : TxtW w) (hw : SlT sgEnc 1 9 w A 6 [a0, a1, a2, a3, a4, a5]) (z2 : a2.size ≤ 1000000) (z4 : a4.size ≤ 1000000) (z5 : a5.size ≤ 1000000) :
  Calls Tryz.prog 78 #[.slice A 6 6] w (fun e w' => ∃ (x0 : ByteArray) (x1 : Int) (x2 : ByteArray) (x3 x4 x5 : Int) (x6 : ByteArray) (x7 x8 : Int), e = .returned (.tuple #[.agg #[.string x0, .int .i64 x1, .string x2, .int .i64 x3, .int .i64 x4, .int .i64 x5, .string x6, .int .i64 x7, .int .i64 x8], .bool (hLeg [a0, a1, a2, a3, a4, a5]).isSome]) ∧ (∀ g, hLeg [a0, a1, a2, a3, a4, a5] = some g → g = ⟨x0, ⟨x1, x2, x3, x4⟩, ⟨x5, x6, x7, x8⟩⟩) ∧ w.grownBy w' none) := by
 refine gw_enter ⟨49, w, none, [9, 3]⟩ Tryz.func78 rfl Tryz.ntmps78 rfl (mem0 (X := [SlOld sgEnc 1 9 w.heap.size none A 6 [a0, a1, a2, a3, a4, a5], TxtO w.heap.size none]) (allF_cons hw.old (allF_cons ht.old allF_nil)) (allL_cons SlOld.lasts (allL_cons TxtO.lasts allL_nil))) ?_
 refine sr_ ?_
 obtain ⟨NB, hNB⟩ : ∃ z, z = [a2, a4, a5].all numB := ⟨_, rfl⟩
 obtain ⟨b, off, hA, _, _⟩ := hw.get (by omega)
 subst hA
 refine wl_alloc zc135 rfl fun g1 => ?_
 refine sg_ rfl (nn_ (gw_seq (sr_ (mv_ rfl ?_))))
 refine wl_ov (ov_index (j := 0) es103 rfl rfl (by omega)) rfl ?_
 refine wl_ov (ov_elem1 (k := 0) (v := .string a0) sc9 rfl (fun _ hm => (hm.fact 0 rfl).1) (show ([a0, a1, a2, a3, a4, a5] : List ByteArray)[0]? = some a0 from rfl) rfl rfl) rfl ?_
 refine wl_ov (ov_sneq rfl rfl) rfl (mv_ rfl ?_)
 rcases Bool.eq_false_or_eq_true (!(a0.toList == (⟨#[108, 101, 103]⟩ : ByteArray).toList)) with h1 | h1
 ·refine wl_set 12 rfl (congrArg Value.bool h1) ?_
  have hL : hLeg [a0, a1, a2, a3, a4, a5] = none := hLeg_first rfl (not_t h1)
  refine goff rfl rfl rfl (goff rfl rfl rfl (goff rfl rfl rfl (goff rfl rfl rfl (gnd rfl rfl rfl (gnd rfl rfl rfl (gnd rfl rfl rfl (goff rfl rfl rfl (pt_ rfl rfl (nn_ (ct_ rfl (sr_ ?_)))))))))))
  refine wl_ov (ov_build (cs := [.string ⟨#[]⟩, .int .i64 0, .string ⟨#[]⟩, .int .i64 0, .int .i64 0, .int .i64 0, .string ⟨#[]⟩, .int .i64 0, .int .i64 0]) rfl (by kernel_rfl)) rfl ?_
  refine wl_stores (cs' := [.string ⟨#[]⟩, .int .i64 0, .string ⟨#[]⟩, .int .i64 0, .int .i64 0, .int .i64 0, .string ⟨#[]⟩, .int .i64 0, .int .i64 0]) 0 rz135 rfl rfl rfl rfl rfl rfl rfl rfl ?_
  refine sg_ rfl (nn_ ?_)
  refine gw_ret ?_
  refine nx_then_ret ?_
  refine nx_retct 0 rfl rz135 rfl rfl rfl rfl fun wx hm => ?_
  exact ⟨⟨#[]⟩, 0, ⟨#[]⟩, 0, 0, 0, ⟨#[]⟩, 0, 0, by rw [hL]; rfl, fun g hg => (by rw [hL] at hg; cases hg), hm.g⟩
 refine wl_set 12 rfl (congrArg Value.bool h1) ?_
 have hq : eqS a0 legW = true := not_f h1
 refine wl_guard_on rfl rfl rfl (mv_ rfl (wl_guard_on rfl rfl rfl (wl_ov (ov_len es103 rfl) rfl ?_)))
 refine wl_set 14 (v' := .int .i64 6) rfl rfl ?_
 refine wl_guard_on rfl rfl rfl (wl_ov (ov_neq rfl rfl) rfl ?_)
 refine wl_set 15 (v' := .bool false) rfl (congrArg Value.bool (by decide)) ?_
 refine wl_guard_on rfl rfl rfl (mv_ rfl (goff rfl rfl rfl (goff rfl rfl rfl (goff rfl rfl rfl (wl_guard_on rfl rfl rfl (pf_ rfl rfl (pf_ rfl rfl (nn_ (cf_ rfl (gw_skip (nx_then (gw_seq ?_))))))))))))
 refine gw_region (mv_ rfl ?_)
 refine wl_ov (ov_sliceLH (lo := 2) (hi := 6) es103 rfl rfl rfl rfl rfl (by omega) (by omega)) rfl ?_
 refine wl_callx (γ := Int × ByteArray × Int × Int) (val := (fun g => .tuple #[.agg #[.int .i64 g.1, .string g.2.1, .int .i64 g.2.2.1, .int .i64 g.2.2.2], .bool NB])) (φ := (fun g => NB = true → (⟨g.1, g.2.1, g.2.2.1, g.2.2.2⟩ : Rd) = rdW a2 a3 a4 a5)) (Y := (fun g => fun _ => True)) rfl cb181 rfl rfl (fun wx hm => (by have h := reading_w a2 a3 a4 a5 (if 6 = 2 then (some ⟨b, off, none⟩) else Option.map (fun a : Addr => a.add (2 * 1)) (some ⟨b, off, none⟩)) 4 wx (hm.fact 1 rfl).1 (SlT.between (c := 6) (hm.fact 0 rfl).1 2 6 (by omega) (by omega) (by omega)) (by assumption) (by assumption) (by assumption); rw [← hNB] at h; exact h.mono fun _ _ ⟨y0, y1, y2, y3, he, h1, hg⟩ => ⟨(y0, y1, y2, y3), he, h1, hg, trivial⟩)) (fun _ => Lasts2.true_) ?_
 rintro ⟨y0, y1, y2, y3⟩ hrNB
 dsimp only at hrNB ⊢
 refine mv_ rfl (wl_ov (ov_extract rfl rfl) rfl (wl_ov (ov_extract rfl rfl) rfl ?_))
 refine wl_alloc zc48 rfl fun g3 => ?_
 refine wl_stores (cs' := [.int .i64 y0, .string y1, .int .i64 y2, .int .i64 y3]) 0 rz48 rfl rfl rfl rfl rfl rfl rfl rfl ?_
 refine sg_ rfl (nn_ (sr_ ?_))
 refine wl_ov (ov_build (cs := [.int .i64 (-1), .string ⟨#[]⟩, .int .i64 0, .int .i64 0]) rfl (by kernel_rfl)) rfl ?_
 refine wl_alloc zc48 rfl fun g4 => ?_
 refine wl_stores (cs' := [.int .i64 (-1), .string ⟨#[]⟩, .int .i64 0, .int .i64 0]) 0 rz48 rfl rfl rfl rfl rfl rfl rfl rfl ?_
 refine sg_ rfl (nn_ (gw_seq (sr_ (mv_ rfl (wl_ov (ov_len es103 rfl) rfl ?_)))))
 refine wl_set 31 (v' := .int .i64 6) rfl rfl ?_
 refine wl_ov (ov_eql rfl rfl) rfl ?_
 refine wl_set 32 (v' := .bool false) rfl (congrArg Value.bool (by decide)) ?_
 refine nn_ (cf_ rfl (gw_skip (nx_then (gw_seq ?_))))
 refine gd (fun wz => Blk wz g4 48 [.int .i64 (-1), .string ⟨#[]⟩, .int .i64 0, .int .i64 0] ∧ Blk wz g3 48 [.int .i64 y0, .string y1, .int .i64 y2, .int .i64 y3] ∧ (fun _ => True) wz ∧ (SlOld sgEnc 1 9 w.heap.size none (some ⟨b, off, none⟩) 6 [a0, a1, a2, a3, a4, a5]) wz ∧ (TxtO w.heap.size none) wz ∧ True) mixed (fun _ hm => ⟨hm.bl 0, hm.bl 1, hm.fa 0, hm.fa 1, hm.fa 2, trivial⟩) fun z => ?_
 refine wt 0 12 1 rfl z (ov_move rfl) ?_
 refine wt 1 12 3 rfl z (ov_index (j := 1) es103 rfl rfl (by omega)) ?_
 refine wt 2 12 7 rfl z (ov_elem1 (k := 0) (v := .string a1) sc9 rfl (fun _ hm => (hm.2.2.2.1).1) (show ([a0, a1, a2, a3, a4, a5] : List ByteArray)[1]? = some a1 from rfl) rfl rfl) ?_
 refine wt 3 12 15 rfl z (ov_loads rz48 rfl (fun _ hm => hm.2.1) rfl rfl) ?_
 refine wt 4 12 31 rfl z (ov_loads rz48 rfl (fun _ hm => hm.1) rfl rfl) ?_
 refine wt 5 12 63 rfl z (ov_build (cs := [.string a1, .int .i64 y0, .string y1, .int .i64 y2, .int .i64 y3, .int .i64 (-1), .string ⟨#[]⟩, .int .i64 0, .int .i64 0]) rfl (by kernel_rfl)) ?_
 refine wt 6 12 127 rfl z (ov_move rfl) ?_
 refine wt 7 12 255 rfl z (ov_move rfl) ?_
 rcases Bool.eq_false_or_eq_true NB with h2 | h2
 ·refine wa_set 46 rfl (congrArg Value.bool h2) ?_
  subst h2
  have e1 := hrNB rfl
  unfold rdW at e1
  injection e1 with e1 e2 e3 e4
  have hL : hLeg [a0, a1, a2, a3, a4, a5] = some ⟨a1, ⟨y0, y1, y2, y3⟩, ⟨-1, ⟨#[]⟩, 0, 0⟩⟩ := (leg6_yes hq hNB.symm).trans (by unfold rdW noRd; rw [e1, e2, e3, e4])
  refine wto 8 12 511 rfl rfl rfl z (ov_move rfl) ?_
  refine wt 9 12 1023 rfl z (ov_pick_t rfl rfl) ?_
  refine wa1 10 rfl ?_
  refine wl_stores (cs' := [.string a1, .int .i64 y0, .string y1, .int .i64 y2, .int .i64 y3, .int .i64 (-1), .string ⟨#[]⟩, .int .i64 0, .int .i64 0]) 2 rz135 rfl rfl rfl rfl rfl rfl rfl rfl ?_
  refine wl_nil ?_
  refine nw 12 2047 (fun _ hm => ⟨hm.bl 0, hm.bl 1, hm.fa 0, hm.fa 1, hm.fa 2, trivial⟩) fun z => ?_
  refine wt 11 12 4095 rfl z (ov_assign rfl) ?_
  refine wa_done (by kernel_rfl) ?_
  refine nx_then ?_
  refine gw_ret ?_
  refine nx_retct 2 rfl rz135 rfl rfl rfl rfl fun wx hm => ?_
  exact ⟨a1, y0, y1, y2, y3, -1, ⟨#[]⟩, 0, 0, by rw [hL]; rfl, fun g hg => (by rw [hL] at hg; obtain rfl := Option.some.inj hg; rfl), hm.g⟩
 refine wa_set 46 rfl (congrArg Value.bool h2) ?_
 subst h2
 have hL : hLeg [a0, a1, a2, a3, a4, a5] = none := leg6_no hNB.symm
 refine wtf 8 12 511 rfl rfl rfl z ?_
 refine wt 9 12 1023 rfl z (ov_pick_f rfl rfl) ?_
 refine wa1 10 rfl ?_
 refine wl_stores (cs' := [.string a1, .int .i64 y0, .string y1, .int .i64 y2, .int .i64 y3, .int .i64 (-1), .string ⟨#[]⟩, .int .i64 0, .int .i64 0]) 2 rz135 rfl rfl rfl rfl rfl rfl rfl rfl ?_
 refine wl_nil ?_
 refine nw 12 2047 (fun _ hm => ⟨hm.bl 0, hm.bl 1, hm.fa 0, hm.fa 1, hm.fa 2, trivial⟩) fun z => ?_
 refine wt 11 12 4095 rfl z (ov_assign rfl) ?_
 refine wa_done (by kernel_rfl) ?_
 refine nx_then ?_
 refine gw_ret ?_
 refine nx_retct 2 rfl rz135 rfl rfl rfl rfl fun wx hm => ?_
 exact ⟨a1, y0, y1, y2, y3, -1, ⟨#[]⟩, 0, 0, by rw [hL]; rfl, fun g hg => (by rw [hL] at hg; cases hg), hm.g⟩
theorem leg10_w (a0 a1 a2 a3 a4 a5 a6 a7 a8 a9 : ByteArray) (A : Option Addr) (w : World) (ht : TxtW w) (hw : SlT sgEnc 1 9 w A 10 [a0, a1, a2, a3, a4, a5, a6, a7, a8, a9]) (z2 : a2.size ≤ 1000000) (z4 : a4.size ≤ 1000000) (z5 : a5.size ≤ 1000000) (z6 : a6.size ≤ 1000000) (z8 : a8.size ≤ 1000000) (z9 : a9.size ≤ 1000000) :
  Calls Tryz.prog 78 #[.slice A 10 10] w (fun e w' => ∃ (x0 : ByteArray) (x1 : Int) (x2 : ByteArray) (x3 x4 x5 : Int) (x6 : ByteArray) (x7 x8 : Int), e = .returned (.tuple #[.agg #[.string x0, .int .i64 x1, .string x2, .int .i64 x3, .int .i64 x4, .int .i64 x5, .string x6, .int .i64 x7, .int .i64 x8], .bool (hLeg [a0, a1, a2, a3, a4, a5, a6, a7, a8, a9]).isSome]) ∧ (∀ g, hLeg [a0, a1, a2, a3, a4, a5, a6, a7, a8, a9] = some g → g = ⟨x0, ⟨x1, x2, x3, x4⟩, ⟨x5, x6, x7, x8⟩⟩) ∧ w.grownBy w' none) := by
 refine gw_enter ⟨49, w, none, [9, 3]⟩ Tryz.func78 rfl Tryz.ntmps78 rfl (mem0 (X := [SlOld sgEnc 1 9 w.heap.size none A 10 [a0, a1, a2, a3, a4, a5, a6, a7, a8, a9], TxtO w.heap.size none]) (allF_cons hw.old (allF_cons ht.old allF_nil)) (allL_cons SlOld.lasts (allL_cons TxtO.lasts allL_nil))) ?_
 refine sr_ ?_
 obtain ⟨NB, hNB⟩ : ∃ z, z = [a2, a4, a5].all numB := ⟨_, rfl⟩
 obtain ⟨NC, hNC⟩ : ∃ z, z = [a6, a8, a9].all numB := ⟨_, rfl⟩
 obtain ⟨b, off, hA, _, _⟩ := hw.get (by omega)
 subst hA
 refine wl_alloc zc135 rfl fun g1 => ?_
 refine sg_ rfl (nn_ (gw_seq (sr_ (mv_ rfl ?_))))
 refine wl_ov (ov_index (j := 0) es103 rfl rfl (by omega)) rfl ?_
 refine wl_ov (ov_elem1 (k := 0) (v := .string a0) sc9 rfl (fun _ hm => (hm.fact 0 rfl).1) (show ([a0, a1, a2, a3, a4, a5, a6, a7, a8, a9] : List ByteArray)[0]? = some a0 from rfl) rfl rfl) rfl ?_
 refine wl_ov (ov_sneq rfl rfl) rfl (mv_ rfl ?_)
 rcases Bool.eq_false_or_eq_true (!(a0.toList == (⟨#[108, 101, 103]⟩ : ByteArray).toList)) with h1 | h1
 ·refine wl_set 12 rfl (congrArg Value.bool h1) ?_
  have hL : hLeg [a0, a1, a2, a3, a4, a5, a6, a7, a8, a9] = none := hLeg_first rfl (not_t h1)
  refine goff rfl rfl rfl (goff rfl rfl rfl (goff rfl rfl rfl (goff rfl rfl rfl (gnd rfl rfl rfl (gnd rfl rfl rfl (gnd rfl rfl rfl (goff rfl rfl rfl (pt_ rfl rfl (nn_ (ct_ rfl (sr_ ?_)))))))))))
  refine wl_ov (ov_build (cs := [.string ⟨#[]⟩, .int .i64 0, .string ⟨#[]⟩, .int .i64 0, .int .i64 0, .int .i64 0, .string ⟨#[]⟩, .int .i64 0, .int .i64 0]) rfl (by kernel_rfl)) rfl ?_
  refine wl_stores (cs' := [.string ⟨#[]⟩, .int .i64 0, .string ⟨#[]⟩, .int .i64 0, .int .i64 0, .int .i64 0, .string ⟨#[]⟩, .int .i64 0, .int .i64 0]) 0 rz135 rfl rfl rfl rfl rfl rfl rfl rfl ?_
  refine sg_ rfl (nn_ ?_)
  refine gw_ret ?_
  refine nx_then_ret ?_
  refine nx_retct 0 rfl rz135 rfl rfl rfl rfl fun wx hm => ?_
  exact ⟨⟨#[]⟩, 0, ⟨#[]⟩, 0, 0, 0, ⟨#[]⟩, 0, 0, by rw [hL]; rfl, fun g hg => (by rw [hL] at hg; cases hg), hm.g⟩
 refine wl_set 12 rfl (congrArg Value.bool h1) ?_
 have hq : eqS a0 legW = true := not_f h1
 refine wl_guard_on rfl rfl rfl (mv_ rfl (wl_guard_on rfl rfl rfl (wl_ov (ov_len es103 rfl) rfl ?_)))
 refine wl_set 14 (v' := .int .i64 10) rfl rfl ?_
 refine wl_guard_on rfl rfl rfl (wl_ov (ov_neq rfl rfl) rfl ?_)
 refine wl_set 15 (v' := .bool true) rfl (congrArg Value.bool (by decide)) ?_
 refine wl_guard_on rfl rfl rfl (mv_ rfl (wl_guard_on rfl rfl rfl (mv_ rfl (wl_guard_on rfl rfl rfl (wl_ov (ov_len es103 rfl) rfl ?_)))))
 refine wl_set 18 (v' := .int .i64 10) rfl rfl ?_
 refine wl_guard_on rfl rfl rfl (wl_ov (ov_neq rfl rfl) rfl ?_)
 refine wl_set 19 (v' := .bool false) rfl (congrArg Value.bool (by decide)) ?_
 refine wl_guard_on rfl rfl rfl (pt_ rfl rfl (pf_ rfl rfl (nn_ (cf_ rfl (gw_skip (nx_then (sr_ (mv_ rfl ?_))))))))
 refine wl_ov (ov_sliceLH (lo := 2) (hi := 6) es103 rfl rfl rfl rfl rfl (by omega) (by omega)) rfl ?_
 refine wl_callx (γ := Int × ByteArray × Int × Int) (val := (fun g => .tuple #[.agg #[.int .i64 g.1, .string g.2.1, .int .i64 g.2.2.1, .int .i64 g.2.2.2], .bool NB])) (φ := (fun g => NB = true → (⟨g.1, g.2.1, g.2.2.1, g.2.2.2⟩ : Rd) = rdW a2 a3 a4 a5)) (Y := (fun g => fun _ => True)) rfl cb181 rfl rfl (fun wx hm => (by have h := reading_w a2 a3 a4 a5 (if 10 = 2 then (some ⟨b, off, none⟩) else Option.map (fun a : Addr => a.add (2 * 1)) (some ⟨b, off, none⟩)) 8 wx (hm.fact 1 rfl).1 (SlT.between (c := 10) (hm.fact 0 rfl).1 2 6 (by omega) (by omega) (by omega)) (by assumption) (by assumption) (by assumption); rw [← hNB] at h; exact h.mono fun _ _ ⟨y0, y1, y2, y3, he, h1, hg⟩ => ⟨(y0, y1, y2, y3), he, h1, hg, trivial⟩)) (fun _ => Lasts2.true_) ?_
 rintro ⟨y0, y1, y2, y3⟩ hrNB
 dsimp only at hrNB ⊢
 refine mv_ rfl (wl_ov (ov_extract rfl rfl) rfl (wl_ov (ov_extract rfl rfl) rfl ?_))
 refine wl_alloc zc48 rfl fun g3 => ?_
 refine wl_stores (cs' := [.int .i64 y0, .string y1, .int .i64 y2, .int .i64 y3]) 0 rz48 rfl rfl rfl rfl rfl rfl rfl rfl ?_
 refine sg_ rfl (nn_ (sr_ ?_))
 refine wl_ov (ov_build (cs := [.int .i64 (-1), .string ⟨#[]⟩, .int .i64 0, .int .i64 0]) rfl (by kernel_rfl)) rfl ?_
 refine wl_alloc zc48 rfl fun g4 => ?_
 refine wl_stores (cs' := [.int .i64 (-1), .string ⟨#[]⟩, .int .i64 0, .int .i64 0]) 0 rz48 rfl rfl rfl rfl rfl rfl rfl rfl ?_
 refine sg_ rfl (nn_ (gw_seq (sr_ (mv_ rfl (wl_ov (ov_len es103 rfl) rfl ?_)))))
 refine wl_set 31 (v' := .int .i64 10) rfl rfl ?_
 refine wl_ov (ov_eql rfl rfl) rfl ?_
 refine wl_set 32 (v' := .bool true) rfl (congrArg Value.bool (by decide)) ?_
 refine nn_ (ct_ rfl (gw_region (mv_ rfl ?_)))
 refine wl_ov (ov_sliceLo (lo := 6) es103 rfl rfl rfl (by omega)) rfl ?_
 refine wl_callx (γ := Int × ByteArray × Int × Int) (val := (fun g => .tuple #[.agg #[.int .i64 g.1, .string g.2.1, .int .i64 g.2.2.1, .int .i64 g.2.2.2], .bool NC])) (φ := (fun g => NC = true → (⟨g.1, g.2.1, g.2.2.1, g.2.2.2⟩ : Rd) = rdW a6 a7 a8 a9)) (Y := (fun g => fun _ => True)) rfl cb181 rfl rfl (fun wx hm => (by have h := reading_w a6 a7 a8 a9 (if 10 = 6 then (some ⟨b, off, none⟩) else Option.map (fun a : Addr => a.add (6 * 1)) (some ⟨b, off, none⟩)) 4 wx (hm.fact 2 rfl).1 (SlT.between (c := 10) (hm.fact 1 rfl).1 6 10 (by omega) (by omega) (by omega)) (by assumption) (by assumption) (by assumption); rw [← hNC] at h; exact h.mono fun _ _ ⟨y0, y1, y2, y3, he, h1, hg⟩ => ⟨(y0, y1, y2, y3), he, h1, hg, trivial⟩)) (fun _ => Lasts2.true_) ?_
 rintro ⟨u0, u1, u2, u3⟩ hrNC
 dsimp only at hrNC ⊢
 refine mv_ rfl (wl_ov (ov_extract rfl rfl) rfl (wl_ov (ov_extract rfl rfl) rfl ?_))
 refine wl_stores (cs' := [.int .i64 u0, .string u1, .int .i64 u2, .int .i64 u3]) 0 rz48 rfl rfl rfl rfl rfl rfl rfl rfl ?_
 refine sg_ rfl (nn_ (gw_seq ?_))
 refine gd (fun wz => Blk wz g4 48 [.int .i64 u0, .string u1, .int .i64 u2, .int .i64 u3] ∧ Blk wz g3 48 [.int .i64 y0, .string y1, .int .i64 y2, .int .i64 y3] ∧ (fun _ => True) wz ∧ (fun _ => True) wz ∧ (SlOld sgEnc 1 9 w.heap.size none (some ⟨b, off, none⟩) 10 [a0, a1, a2, a3, a4, a5, a6, a7, a8, a9]) wz ∧ (TxtO w.heap.size none) wz ∧ True) mixed (fun _ hm => ⟨hm.bl 0, hm.bl 1, hm.fa 0, hm.fa 1, hm.fa 2, hm.fa 3, trivial⟩) fun z => ?_
 refine wt 0 12 1 rfl z (ov_move rfl) ?_
 refine wt 1 12 3 rfl z (ov_index (j := 1) es103 rfl rfl (by omega)) ?_
 refine wt 2 12 7 rfl z (ov_elem1 (k := 0) (v := .string a1) sc9 rfl (fun _ hm => (hm.2.2.2.2.1).1) (show ([a0, a1, a2, a3, a4, a5, a6, a7, a8, a9] : List ByteArray)[1]? = some a1 from rfl) rfl rfl) ?_
 refine wt 3 12 15 rfl z (ov_loads rz48 rfl (fun _ hm => hm.2.1) rfl rfl) ?_
 refine wt 4 12 31 rfl z (ov_loads rz48 rfl (fun _ hm => hm.1) rfl rfl) ?_
 refine wt 5 12 63 rfl z (ov_build (cs := [.string a1, .int .i64 y0, .string y1, .int .i64 y2, .int .i64 y3, .int .i64 u0, .string u1, .int .i64 u2, .int .i64 u3]) rfl (by kernel_rfl)) ?_
 refine wt 6 12 127 rfl z (ov_move rfl) ?_
 refine wt 7 12 255 rfl z (ov_move rfl) ?_
 rcases Bool.eq_false_or_eq_true NB with h2 | h2
 ·refine wa_set 46 rfl (congrArg Value.bool h2) ?_
  subst h2
  have e1 := hrNB rfl
  by_cases h3 : NC = true
  ·subst h3
   have e1b := hrNC rfl
   unfold rdW at e1 e1b
   injection e1 with e1 e2 e3 e4
   injection e1b with f1 f2 f3 f4
   have hL : hLeg [a0, a1, a2, a3, a4, a5, a6, a7, a8, a9] = some ⟨a1, ⟨y0, y1, y2, y3⟩, ⟨u0, u1, u2, u3⟩⟩ := (leg10_yes hq hNB.symm hNC.symm).trans (by unfold rdW; rw [e1, e2, e3, e4, f1, f2, f3, f4])
   refine wto 8 12 511 rfl rfl rfl z (ov_move rfl) ?_
   refine wt 9 12 1023 rfl z (ov_pick_t rfl rfl) ?_
   refine wa1 10 rfl ?_
   refine wl_stores (cs' := [.string a1, .int .i64 y0, .string y1, .int .i64 y2, .int .i64 y3, .int .i64 u0, .string u1, .int .i64 u2, .int .i64 u3]) 2 rz135 rfl rfl rfl rfl rfl rfl rfl rfl ?_
   refine wl_nil ?_
   refine nw 12 2047 (fun _ hm => ⟨hm.bl 0, hm.bl 1, hm.fa 0, hm.fa 1, hm.fa 2, hm.fa 3, trivial⟩) fun z => ?_
   refine wt 11 12 4095 rfl z (ov_assign rfl) ?_
   refine wa_done (by kernel_rfl) ?_
   refine nx_then ?_
   refine gw_ret ?_
   refine nx_retct 2 rfl rz135 rfl rfl rfl rfl fun wx hm => ?_
   exact ⟨a1, y0, y1, y2, y3, u0, u1, u2, u3, by rw [hL]; rfl, fun g hg => (by rw [hL] at hg; obtain rfl := Option.some.inj hg; rfl), hm.g⟩
  replace h3 : NC = false := by simpa using h3
  subst h3
  have hL : hLeg [a0, a1, a2, a3, a4, a5, a6, a7, a8, a9] = none := leg10_no2 hNC.symm
  refine wto 8 12 511 rfl rfl rfl z (ov_move rfl) ?_
  refine wt 9 12 1023 rfl z (ov_pick_t rfl rfl) ?_
  refine wa1 10 rfl ?_
  refine wl_stores (cs' := [.string a1, .int .i64 y0, .string y1, .int .i64 y2, .int .i64 y3, .int .i64 u0, .string u1, .int .i64 u2, .int .i64 u3]) 2 rz135 rfl rfl rfl rfl rfl rfl rfl rfl ?_
  refine wl_nil ?_
  refine nw 12 2047 (fun _ hm => ⟨hm.bl 0, hm.bl 1, hm.fa 0, hm.fa 1, hm.fa 2, hm.fa 3, trivial⟩) fun z => ?_
  refine wt 11 12 4095 rfl z (ov_assign rfl) ?_
  refine wa_done (by kernel_rfl) ?_
  refine nx_then ?_
  refine gw_ret ?_
  refine nx_retct 2 rfl rz135 rfl rfl rfl rfl fun wx hm => ?_
  exact ⟨a1, y0, y1, y2, y3, u0, u1, u2, u3, by rw [hL]; rfl, fun g hg => (by rw [hL] at hg; cases hg), hm.g⟩
 refine wa_set 46 rfl (congrArg Value.bool h2) ?_
 subst h2
 have hL : hLeg [a0, a1, a2, a3, a4, a5, a6, a7, a8, a9] = none := leg10_no hNB.symm
 refine wtf 8 12 511 rfl rfl rfl z ?_
 refine wt 9 12 1023 rfl z (ov_pick_f rfl rfl) ?_
 refine wa1 10 rfl ?_
 refine wl_stores (cs' := [.string a1, .int .i64 y0, .string y1, .int .i64 y2, .int .i64 y3, .int .i64 u0, .string u1, .int .i64 u2, .int .i64 u3]) 2 rz135 rfl rfl rfl rfl rfl rfl rfl rfl ?_
 refine wl_nil ?_
 refine nw 12 2047 (fun _ hm => ⟨hm.bl 0, hm.bl 1, hm.fa 0, hm.fa 1, hm.fa 2, hm.fa 3, trivial⟩) fun z => ?_
 refine wt 11 12 4095 rfl z (ov_assign rfl) ?_
 refine wa_done (by kernel_rfl) ?_
 refine nx_then ?_
 refine gw_ret ?_
 refine nx_retct 2 rfl rz135 rfl rfl rfl rfl fun wx hm => ?_
 exact ⟨a1, y0, y1, y2, y3, u0, u1, u2, u3, by rw [hL]; rfl, fun g hg => (by rw [hL] at hg; cases hg), hm.g⟩
theorem legx_w (l : List ByteArray) (A : Option Addr) (k : Nat) (w : World) (ht : TxtW w) (hw : SlT sgEnc 1 9 w A k l) (hk : 1 ≤ k) (h6 : ¬ l.length = 6) (h10 : ¬ l.length = 10) :
  Calls Tryz.prog 78 #[.slice A k k] w (fun e w' => ∃ (x0 : ByteArray) (x1 : Int) (x2 : ByteArray) (x3 x4 x5 : Int) (x6 : ByteArray) (x7 x8 : Int), e = .returned (.tuple #[.agg #[.string x0, .int .i64 x1, .string x2, .int .i64 x3, .int .i64 x4, .int .i64 x5, .string x6, .int .i64 x7, .int .i64 x8], .bool (hLeg l).isSome]) ∧ (∀ g, hLeg l = some g → g = ⟨x0, ⟨x1, x2, x3, x4⟩, ⟨x5, x6, x7, x8⟩⟩) ∧ w.grownBy w' none) := by
 refine gw_enter ⟨49, w, none, [9, 3]⟩ Tryz.func78 rfl Tryz.ntmps78 rfl (mem0 (X := [SlOld sgEnc 1 9 w.heap.size none A k l, TxtO w.heap.size none]) (allF_cons hw.old (allF_cons ht.old allF_nil)) (allL_cons SlOld.lasts (allL_cons TxtO.lasts allL_nil))) ?_
 refine sr_ ?_
 have hL : hLeg l = none := hLeg_len h6 h10
 have hlen := hw.len
 obtain ⟨a0, hx0⟩ : ∃ x, l[0]? = some x := ⟨_, List.getElem?_eq_getElem (by omega)⟩
 have hk6 : ¬ ((k : Nat) : Int) = 6 := by omega
 have hk10 : ¬ ((k : Nat) : Int) = 10 := by omega
 obtain ⟨b, off, hA, _, _⟩ := hw.get (by omega)
 subst hA
 refine wl_alloc zc135 rfl fun g1 => ?_
 refine sg_ rfl (nn_ (gw_seq (sr_ (mv_ rfl ?_))))
 refine wl_ov (ov_index (j := 0) es103 rfl rfl (by omega)) rfl ?_
 refine wl_ov (ov_elem1 (k := 0) (v := .string a0) sc9 rfl (fun _ hm => (hm.fact 0 rfl).1) hx0 rfl rfl) rfl ?_
 refine wl_ov (ov_sneq rfl rfl) rfl (mv_ rfl ?_)
 rcases Bool.eq_false_or_eq_true (!(a0.toList == (⟨#[108, 101, 103]⟩ : ByteArray).toList)) with h1 | h1
 ·refine wl_set 12 rfl (congrArg Value.bool h1) ?_
  refine goff rfl rfl rfl (goff rfl rfl rfl (goff rfl rfl rfl (goff rfl rfl rfl (gnd rfl rfl rfl (gnd rfl rfl rfl (gnd rfl rfl rfl (goff rfl rfl rfl (pt_ rfl rfl (nn_ (ct_ rfl (sr_ ?_)))))))))))
  refine wl_ov (ov_build (cs := [.string ⟨#[]⟩, .int .i64 0, .string ⟨#[]⟩, .int .i64 0, .int .i64 0, .int .i64 0, .string ⟨#[]⟩, .int .i64 0, .int .i64 0]) rfl (by kernel_rfl)) rfl ?_
  refine wl_stores (cs' := [.string ⟨#[]⟩, .int .i64 0, .string ⟨#[]⟩, .int .i64 0, .int .i64 0, .int .i64 0, .string ⟨#[]⟩, .int .i64 0, .int .i64 0]) 0 rz135 rfl rfl rfl rfl rfl rfl rfl rfl ?_
  refine sg_ rfl (nn_ ?_)
  refine gw_ret ?_
  refine nx_then_ret ?_
  refine nx_retct 0 rfl rz135 rfl rfl rfl rfl fun wx hm => ?_
  exact ⟨⟨#[]⟩, 0, ⟨#[]⟩, 0, 0, 0, ⟨#[]⟩, 0, 0, by rw [hL]; rfl, fun g hg => (by rw [hL] at hg; cases hg), hm.g⟩
 refine wl_set 12 rfl (congrArg Value.bool h1) ?_
 refine wl_guard_on rfl rfl rfl (mv_ rfl (wl_guard_on rfl rfl rfl (wl_ov (ov_len es103 rfl) rfl (wl_guard_on rfl rfl rfl (wl_ov (ov_neq rfl rfl) rfl (wl_guard_on rfl rfl rfl (mv_ rfl ?_)))))))
 refine wl_set 16 (v' := .bool true) rfl (congrArg Value.bool (by rw [decide_eq_false hk6]; rfl)) ?_
 refine wl_guard_on rfl rfl rfl (mv_ rfl (wl_guard_on rfl rfl rfl (wl_ov (ov_len es103 rfl) rfl (wl_guard_on rfl rfl rfl (wl_ov (ov_neq rfl rfl) rfl (wl_guard_on rfl rfl rfl (pt_ rfl rfl (pf_ rfl rfl (nn_ ?_)))))))))
 refine gw_set 21 (v' := .bool true) rfl (congrArg Value.bool (by rw [decide_eq_false hk10]; rfl)) ?_
 refine ct_ rfl (sr_ ?_)
 refine wl_ov (ov_build (cs := [.string ⟨#[]⟩, .int .i64 0, .string ⟨#[]⟩, .int .i64 0, .int .i64 0, .int .i64 0, .string ⟨#[]⟩, .int .i64 0, .int .i64 0]) rfl (by kernel_rfl)) rfl ?_
 refine wl_stores (cs' := [.string ⟨#[]⟩, .int .i64 0, .string ⟨#[]⟩, .int .i64 0, .int .i64 0, .int .i64 0, .string ⟨#[]⟩, .int .i64 0, .int .i64 0]) 0 rz135 rfl rfl rfl rfl rfl rfl rfl rfl ?_
 refine sg_ rfl (nn_ ?_)
 refine gw_ret ?_
 refine nx_then_ret ?_
 refine nx_retct 0 rfl rz135 rfl rfl rfl rfl fun wx hm => ?_
 exact ⟨⟨#[]⟩, 0, ⟨#[]⟩, 0, 0, 0, ⟨#[]⟩, 0, 0, by rw [hL]; rfl, fun g hg => (by rw [hL] at hg; cases hg), hm.g⟩
theorem leg_w (l : List ByteArray) (A : Option Addr) (k : Nat) (w : World) (ht : TxtW w) (hw : SlT sgEnc 1 9 w A k l) (hk : 1 ≤ k) (hz : ∀ x ∈ l, x.size ≤ 1000000) :
    Calls Tryz.prog 78 #[.slice A k k] w (fun e w' => ∃ (x0 : ByteArray) (x1 : Int) (x2 : ByteArray) (x3 x4 x5 : Int) (x6 : ByteArray) (x7 x8 : Int), e = .returned (.tuple #[.agg #[.string x0, .int .i64 x1, .string x2, .int .i64 x3, .int .i64 x4, .int .i64 x5, .string x6, .int .i64 x7, .int .i64 x8], .bool (hLeg l).isSome]) ∧ (∀ g, hLeg l = some g → g = ⟨x0, ⟨x1, x2, x3, x4⟩, ⟨x5, x6, x7, x8⟩⟩) ∧ w.grownBy w' none) := by
  have hlen := hw.len
  by_cases h6 : l.length = 6
  · obtain ⟨a0, a1, a2, a3, a4, a5, rfl⟩ := list6 h6
    obtain rfl : k = 6 := by rw [← hlen]; rfl
    exact leg6_w a0 a1 a2 a3 a4 a5 A w ht hw (hz _ (by simp)) (hz _ (by simp)) (hz _ (by simp))
  · by_cases h10 : l.length = 10
    · obtain ⟨a0, a1, a2, a3, a4, a5, a6, a7, a8, a9, rfl⟩ := list10 h10
      obtain rfl : k = 10 := by rw [← hlen]; rfl
      exact leg10_w a0 a1 a2 a3 a4 a5 a6 a7 a8 a9 A w ht hw (hz _ (by simp)) (hz _ (by simp)) (hz _ (by simp)) (hz _ (by simp)) (hz _ (by simp)) (hz _ (by simp))
    · exact legx_w l A k w ht hw hk h6 h10
end Go.Proofs.YtempjmpfdniecaaGreatDoor
namespace Go.Proofs.YtempjmpfdniecaaGreatDoor
open Go.RowKit
def hrk (st : Option Hr) : ByteArray := match st with | none => ⟨#[]⟩ | some h => h.key
def hrd (st : Option Hr) : ByteArray := match st with | none => ⟨#[]⟩ | some h => h.driver
def hrf (st : Option Hr) : Int := match st with | none => 0 | some h => h.fr
def hrt (st : Option Hr) : Int := match st with | none => 0 | some h => h.to_
def hrls (st : Option Hr) : List Lg := match st with | none => [] | some h => h.legs
/-- The blocks and the row that hold a state. -/
def hrL (gf gh gr : Nat) (st : Option Hr) (v : Value) : List (Nat × TypeId × List Value) := [(gf, 4, [.bool st.isNone]), (gh, 30, [.string (hrk st), .string (hrd st), .int .i64 (hrf st), .int .i64 (hrt st), v]), (gr, 30, [.string ⟨#[]⟩, .string ⟨#[]⟩, .int .i64 0, .int .i64 0, .slice none 0 0])]
def hrO (st : Option Hr) (v : Value) : List Own := [⟨v, 135, 9, (hrls st).length, (hrls st).flatMap lgEnc⟩]
theorem stp_leg {t : ByteArray} {h : Hr} (hb : (!wdB t) = false) : (hStep t (some h)).2 = (hLeg (wdL t)).isSome ∧ ∀ g, hLeg (wdL t) = some g → (hStep t (some h)).1 = some (hPush h g) := by
  have h1 := hNew_leg (x := h) hb
  cases hl : hLeg (wdL t) with
  | none => rw [hl] at h1; rw [hStep_no h1]; exact ⟨rfl, fun g e => by cases e⟩
  | some g => rw [hl] at h1; rw [hStep_yes (x := hPush h g) h1]; exact ⟨rfl, fun g' e => by cases e; rfl⟩
theorem stp_wd {t : ByteArray} {st : Option Hr} (h : (!wdB t) = true) : (hStep t st).2 = false := by rw [hStep_no (hNew_wd h)]
theorem stp_hd {t : ByteArray} (hb : (!wdB t) = false) (h : hHd (wdL t) = none) : (hStep t none).2 = false := by rw [hStep_no ((hNew_hd hb).trans h)]
theorem stp_hd_yes {t : ByteArray} {x : Hr} (hb : (!wdB t) = false) (h : hHd (wdL t) = some x) : hStep t none = (some x, true) := hStep_yes ((hNew_hd hb).trans h)
theorem hd_yes {a0 a1 a2 a3 a4 : ByteArray} (h1 : eqS a0 hireW = true) (h2 : [a3, a4].all numB = true) : hHd [a0, a1, a2, a3, a4] = some ⟨a1, a2, numV a3, numV a4, []⟩ := if_pos (by rw [h1, h2]; rfl)
theorem hd_no {a0 a1 a2 a3 a4 : ByteArray} (h2 : [a3, a4].all numB = false) : hHd [a0, a1, a2, a3, a4] = none := if_neg (by rw [h2, Bool.and_false]; decide)
theorem hRead_none (t : ByteArray) (w0 w : World) (gf gh gr : Nat) (v : Value) (hts : t.size ≤ 1000000) (hm : Mem ⟨0, w0, none, [9, 3]⟩ (fun _ => True) [(gf, 4, [.bool true]), (gh, 30, [.string ⟨#[]⟩, .string ⟨#[]⟩, .int .i64 0, .int .i64 0, v]), (gr, 30, [.string ⟨#[]⟩, .string ⟨#[]⟩, .int .i64 0, .int .i64 0, .slice none 0 0])] [⟨v, 135, 9, 0, []⟩] [TxtO w0.heap.size none] w) :
  Calls Tryz.prog 76 #[.string t, .pointer (some ⟨gf, 0, none⟩), .pointer (some ⟨gh, 0, none⟩)] w (fun e w' => ∃ (v' : Value) (st' : Option Hr), e = .returned (.bool (hStep t none).2) ∧ ((hStep t none).2 = true → st' = (hStep t none).1) ∧ Mem ⟨0, w0, none, [9, 3]⟩ (fun _ => True) (hrL gf gh gr st' v') (hrO st' v') [TxtO w0.heap.size none] w') := by
 refine gw_enter ⟨64, w0, none, [9, 3]⟩ Tryz.func76 rfl Tryz.ntmps76 rfl hm.cx ?_
 refine sr_ ?_
 by_cases h5 : (wdL t).length = 5
 ·obtain ⟨a0, a1, a2, a3, a4, hw⟩ := list5 h5
  have hwz := wdL_sz t
  rw [hw] at hwz
  have za0 : a0.size ≤ 1000000 := Nat.le_trans (hwz a0 (by simp)) hts
  have za1 : a1.size ≤ 1000000 := Nat.le_trans (hwz a1 (by simp)) hts
  have za2 : a2.size ≤ 1000000 := Nat.le_trans (hwz a2 (by simp)) hts
  have za3 : a3.size ≤ 1000000 := Nat.le_trans (hwz a3 (by simp)) hts
  have za4 : a4.size ≤ 1000000 := Nat.le_trans (hwz a4 (by simp)) hts
  refine sg_ rfl (nn_ (sr_ (mv_ rfl ?_)))
  refine wl_callx (γ := Nat × Nat) (val := (fun g => .tuple #[.slice (some ⟨g.1, 0, none⟩) g.2 g.2, .bool (wdB t)])) (φ := (fun g => g.2 = 5)) (Y := (fun g => fun wy => SlT sgEnc 1 9 wy (some ⟨g.1, 0, none⟩) g.2 ([a0, a1, a2, a3, a4]))) rfl cb77 rfl rfl (fun wx hm => (words_any t wx (hm.fact 0 rfl).1 hts).mono fun _ _ ⟨gw, k, he, h1, h2, hg⟩ => ⟨(gw, k), he, by have h := h1.len; rw [hw] at h; exact h.symm, hg, by rw [hw] at h1; exact h1⟩) (fun _ => SlT.lasts2 rfl) ?_
  rintro ⟨gw, kw⟩ hkw
  dsimp only at hkw ⊢
  subst hkw
  refine mv_ rfl (wl_ov (ov_extract rfl rfl) rfl (wl_ov (ov_extract rfl rfl) rfl (sg_ rfl (sg_ rfl (nn_ (gw_seq (sr_ (mv_ rfl (wl_ov (ov_un_not rfl) rfl (nn_ ?_))))))))))
  rcases Bool.eq_false_or_eq_true (!(wdB t)) with h1 | h1
  ·refine gw_set 16 rfl (congrArg Value.bool h1) ?_
   refine ct_ rfl (sr_ (sg_ rfl (nn_ ?_)))
   refine gw_ret ?_
   refine nx_then_ret ?_
   refine nx_ret1 rfl rfl fun wx hm => ?_
   exact ⟨v, none, by rw [stp_wd h1], (fun h => absurd h (by rw [stp_wd h1]; decide)), (hm.pick [0, 1, 2] [0] [1] rfl rfl).cx⟩
  refine gw_set 16 rfl (congrArg Value.bool h1) ?_
  refine cf_ rfl (gw_skip (nx_then (gw_seq (sr_ (lk_ sc4 0 rfl rfl rfl (wl_ov (ov_un_not rfl) rfl ?_))))))
  refine wl_set 18 (v' := .bool false) rfl (congrArg Value.bool (by decide)) ?_
  refine nn_ (cf_ rfl (gw_skip (nx_then (sr_ ?_))))
  refine wl_store 0 sc4 rfl rfl rfl rfl rfl rfl ?_
  refine nn_ (gw_seq (sr_ (mv_ rfl ?_)))
  refine wl_ov (ov_index (j := 0) es103 rfl rfl (by omega)) rfl ?_
  refine wl_ov (ov_elem1 (k := 0) (v := .string a0) sc9 rfl (fun _ hm => (hm.fact 0 rfl)) (show ([a0, a1, a2, a3, a4] : List ByteArray)[0]? = some a0 from rfl) rfl rfl) rfl ?_
  refine wl_ov (ov_sneq rfl rfl) rfl (mv_ rfl ?_)
  rcases Bool.eq_false_or_eq_true (!(a0.toList == (⟨#[104, 105, 114, 101]⟩ : ByteArray).toList)) with h2 | h2
  ·refine wl_set 35 rfl (congrArg Value.bool h2) ?_
   have hN : (hStep t none).2 = false := stp_hd h1 (hHd_first hw (not_t h2))
   refine goff rfl rfl rfl (goff rfl rfl rfl (goff rfl rfl rfl (pt_ rfl rfl (nn_ (ct_ rfl (sr_ (sg_ rfl (nn_ ?_))))))))
   refine gw_ret ?_
   refine nx_then_ret ?_
   refine nx_ret1 rfl rfl fun wx hm => ?_
   exact ⟨v, (some zeroHr), by rw [hN], (fun h => absurd h (by rw [hN]; decide)), (hm.pick [0, 1, 2] [0] [1] rfl rfl).cx⟩
  refine wl_set 35 rfl (congrArg Value.bool h2) ?_
  have hq : eqS a0 hireW = true := not_f h2
  obtain ⟨NB, hNB⟩ : ∃ z, z = [a3, a4].all numB := ⟨_, rfl⟩
  refine wl_guard_on rfl rfl rfl (mv_ rfl (wl_guard_on rfl rfl rfl (wl_ov (ov_len es103 rfl) rfl ?_)))
  refine wl_set 37 (v' := .int .i64 5) rfl rfl ?_
  refine wl_guard_on rfl rfl rfl (wl_ov (ov_neq rfl rfl) rfl ?_)
  refine wl_set 38 (v' := .bool false) rfl (congrArg Value.bool (by decide)) ?_
  refine pf_ rfl rfl (nn_ (cf_ rfl (gw_skip (nx_then (sr_ (mv_ rfl ?_))))))
  refine wl_ov (ov_sliceLo (lo := 3) es103 rfl rfl rfl (by omega)) rfl ?_
  refine wl_callx (γ := Option Addr × Nat × Nat) (val := (fun g => .tuple #[.slice g.1 g.2.1 g.2.2, .bool NB])) (φ := (fun g => True)) (Y := (fun g => fun wy => IfT NB (SlT tiEnc 1 3 wy g.1 g.2.1 [numV a3, numV a4] ∧ g.2.1 = 5 - 3))) rfl cb79 rfl rfl (fun wx hm => (by have h := numbers_any [a3, a4] (if 5 = 3 then (some ⟨gw, 0, none⟩) else Option.map (fun a : Addr => a.add (3 * 1)) (some ⟨gw, 0, none⟩)) (5 - 3) (5 - 3) wx (hm.fact 1 rfl).1 (SlT.dropS (c := 5) (hm.fact 0 rfl) 3 (by omega) (by omega)) (by omega) (fun x hx => by simp only [List.mem_cons, List.not_mem_nil, or_false] at hx; rcases hx with rfl | rfl <;> assumption); rw [← hNB] at h; exact h.mono fun _ _ ⟨A2, k, c2, he, h1, hg⟩ => ⟨(A2, k, c2), he, trivial, hg, h1⟩)) (fun _ => (SlT.lasts2 rfl).ift) ?_
  rintro ⟨nA, nk, nc⟩ hphi
  dsimp only
  clear hphi
  refine mv_ rfl (wl_ov (ov_extract rfl rfl) rfl (wl_ov (ov_extract rfl rfl) rfl (sg_ rfl (sg_ rfl (nn_ (gw_seq (sr_ (mv_ rfl (nn_ ?_)))))))))
  refine gw_cond rfl (fun hh => ?_) (fun hh => ?_)
  ·have hn : NB = true := by simpa using hh
   clear hh
   subst hn
   have hN := stp_hd_yes h1 (hw ▸ hd_yes hq hNB.symm)
   refine gw_look (R := nk = 2) (fun wx hm => ((hm.fact 0 rfl) rfl).2) ?_
   rintro rfl
   refine gw_look (R := ∃ b o, nA = some ⟨b, o, none⟩) (fun wx hm => by obtain ⟨b, off, hA, _, _⟩ := SlT.get ((hm.fact 0 rfl) rfl).1 (by omega); exact ⟨b, off, hA⟩) ?_
   rintro ⟨bn, on, rfl⟩
   refine gd (fun wz => Blk wz gf 4 [.bool false] ∧ Blk wz gr 30 [.string ⟨#[]⟩, .string ⟨#[]⟩, .int .i64 0, .int .i64 0, .slice none 0 0] ∧ (fun wy => IfT true (SlT tiEnc 1 3 wy (some ⟨bn, on, none⟩) 2 [numV a3, numV a4] ∧ 2 = 5 - 3)) wz ∧ (fun wy => SlT sgEnc 1 9 wy (some ⟨gw, 0, none⟩) 5 ([a0, a1, a2, a3, a4])) wz ∧ (TxtO w0.heap.size none) wz ∧ True) mixed (fun _ hm => ⟨hm.bl 0, hm.bl 2, hm.fa 0, hm.fa 1, hm.fa 2, trivial⟩) fun z => ?_
   refine wt 0 19 1 rfl z (ov_move rfl) ?_
   refine wt 1 19 3 rfl z (ov_index (j := 1) es103 rfl rfl (by omega)) ?_
   refine wt 2 19 7 rfl z (ov_elem1 (k := 0) (v := .string a1) sc9 rfl (fun _ hm => (hm.2.2.2.1)) (show ([a0, a1, a2, a3, a4] : List ByteArray)[1]? = some a1 from rfl) rfl rfl) ?_
   refine wt 3 19 15 rfl z (ov_move rfl) ?_
   refine wt 4 19 31 rfl z (ov_index (j := 2) es103 rfl rfl (by omega)) ?_
   refine wt 5 19 63 rfl z (ov_elem1 (k := 0) (v := .string a2) sc9 rfl (fun _ hm => (hm.2.2.2.1)) (show ([a0, a1, a2, a3, a4] : List ByteArray)[2]? = some a2 from rfl) rfl rfl) ?_
   refine wt 6 19 127 rfl z (ov_move rfl) ?_
   refine wt 7 19 255 rfl z (ov_index (j := 0) es22 rfl rfl (by omega)) ?_
   refine wt 8 19 511 rfl z (ov_elem1 (k := 0) (v := .int .i64 (numV a3)) sc3 rfl (fun _ hm => ((hm.2.2.1) rfl).1) (show ([numV a3, numV a4] : List Int)[0]? = some (numV a3) from rfl) rfl rfl) ?_
   refine wt 9 19 1023 rfl z (ov_move rfl) ?_
   refine wt 10 19 2047 rfl z (ov_index (j := 1) es22 rfl rfl (by omega)) ?_
   refine wt 11 19 4095 rfl z (ov_elem1 (k := 0) (v := .int .i64 (numV a4)) sc3 rfl (fun _ hm => ((hm.2.2.1) rfl).1) (show ([numV a3, numV a4] : List Int)[1]? = some (numV a4) from rfl) rfl rfl) ?_
   refine wt 12 19 8191 rfl z (ov_build (cs := [.int .i64 (numV a3), .int .i64 (numV a4)]) rfl (by kernel_rfl)) ?_
   refine wt 13 19 16383 rfl z (ov_field fo30_0 rfl rfl) ?_
   refine wa1 14 rfl ?_
   refine wl_store 1 sc9 rfl rfl rfl rfl rfl rfl ?_
   refine wl_nil ?_
   refine nw 19 32767 (fun _ hm => ⟨hm.bl 0, hm.bl 2, hm.fa 0, hm.fa 1, hm.fa 2, trivial⟩) fun z => ?_
   refine wt 15 19 65535 rfl z (ov_field fo30_1 rfl rfl) ?_
   refine wa1 16 rfl ?_
   refine wl_store 1 sc9 rfl rfl rfl rfl rfl rfl ?_
   refine wl_nil ?_
   refine nw 19 131071 (fun _ hm => ⟨hm.bl 0, hm.bl 2, hm.fa 0, hm.fa 1, hm.fa 2, trivial⟩) fun z => ?_
   refine wt 17 19 262143 rfl z (ov_field fo30_2 rfl rfl) ?_
   refine wa1 18 rfl ?_
   refine wl_stores (cs' := [.string a1, .string a2, .int .i64 (numV a3), .int .i64 (numV a4), v]) 1 rz27 rfl rfl rfl rfl rfl rfl rfl rfl ?_
   refine wl_nil ?_
   refine nw 19 524287 (fun _ hm => ⟨hm.bl 0, hm.bl 2, hm.fa 0, hm.fa 1, hm.fa 2, trivial⟩) fun z => ?_
   refine wa_done (by kernel_rfl) ?_
   refine nx_then (sr_ (mv_ rfl (sg_ rfl (nn_ ?_))))
   refine gw_ret ?_
   refine nx_ret1 rfl rfl fun wx hm => ?_
   exact ⟨v, some ⟨a1, a2, numV a3, numV a4, []⟩, by rw [hN], (fun _ => by rw [hN]), (hm.pick [0, 1, 2] [0] [2] rfl rfl).cx⟩
  have hn : NB = false := by simpa using hh
  clear hh
  refine gw_skip (nx_then (sr_ ?_))
  subst hn
  have hN : (hStep t none).2 = false := stp_hd h1 (hw ▸ hd_no hNB.symm)
  refine mv_ rfl (sg_ rfl (nn_ ?_))
  refine gw_ret ?_
  refine nx_ret1 rfl rfl fun wx hm => ?_
  exact ⟨v, (some zeroHr), by rw [hN], (fun h => absurd h (by rw [hN]; decide)), (hm.pick [0, 1, 2] [0] [2] rfl rfl).cx⟩
 refine sg_ rfl (nn_ (sr_ (mv_ rfl ?_)))
 refine wl_callx (γ := Nat × Nat) (val := (fun g => .tuple #[.slice (some ⟨g.1, 0, none⟩) g.2 g.2, .bool (wdB t)])) (φ := (fun g => g.2 = (wdL t).length ∧ 1 ≤ g.2 ∧ g.2 ≤ t.size + 1)) (Y := (fun g => fun wy => SlT sgEnc 1 9 wy (some ⟨g.1, 0, none⟩) g.2 (wdL t))) rfl cb77 rfl rfl (fun wx hm => (words_any t wx (hm.fact 0 rfl).1 hts).mono fun _ _ ⟨gw, k, he, h1, h2, hg⟩ => ⟨(gw, k), he, ⟨h1.len.symm, h2⟩, hg, h1⟩) (fun _ => SlT.lasts2 rfl) ?_
 rintro ⟨gw, kw⟩ hkw
 dsimp only at hkw ⊢
 refine mv_ rfl (wl_ov (ov_extract rfl rfl) rfl (wl_ov (ov_extract rfl rfl) rfl (sg_ rfl (sg_ rfl (nn_ (gw_seq (sr_ (mv_ rfl (wl_ov (ov_un_not rfl) rfl (nn_ ?_))))))))))
 rcases Bool.eq_false_or_eq_true (!(wdB t)) with h1 | h1
 ·refine gw_set 16 rfl (congrArg Value.bool h1) ?_
  refine ct_ rfl (sr_ (sg_ rfl (nn_ ?_)))
  refine gw_ret ?_
  refine nx_then_ret ?_
  refine nx_ret1 rfl rfl fun wx hm => ?_
  exact ⟨v, none, by rw [stp_wd h1], (fun h => absurd h (by rw [stp_wd h1]; decide)), (hm.pick [0, 1, 2] [0] [1] rfl rfl).cx⟩
 refine gw_set 16 rfl (congrArg Value.bool h1) ?_
 obtain ⟨hkl, hk1, _⟩ := hkw
 have hk5 : ¬ ((kw : Nat) : Int) = 5 := by omega
 have hN : (hStep t none).2 = false := stp_hd h1 (hHd_len h5)
 obtain ⟨a0, hx0⟩ : ∃ x, (wdL t)[0]? = some x := ⟨_, List.getElem?_eq_getElem (by omega)⟩
 refine cf_ rfl (gw_skip (nx_then (gw_seq (sr_ (lk_ sc4 0 rfl rfl rfl (wl_ov (ov_un_not rfl) rfl ?_))))))
 refine wl_set 18 (v' := .bool false) rfl (congrArg Value.bool (by decide)) ?_
 refine nn_ (cf_ rfl (gw_skip (nx_then (sr_ ?_))))
 refine wl_store 0 sc4 rfl rfl rfl rfl rfl rfl ?_
 refine nn_ (gw_seq (sr_ (mv_ rfl ?_)))
 refine wl_ov (ov_index (j := 0) es103 rfl rfl (by omega)) rfl ?_
 refine wl_ov (ov_elem1 (k := 0) (v := .string a0) sc9 rfl (fun _ hm => (hm.fact 0 rfl)) hx0 rfl rfl) rfl ?_
 refine wl_ov (ov_sneq rfl rfl) rfl (mv_ rfl ?_)
 rcases Bool.eq_false_or_eq_true (!(a0.toList == (⟨#[104, 105, 114, 101]⟩ : ByteArray).toList)) with hq | hq
 ·refine wl_set 35 rfl (congrArg Value.bool hq) ?_
  refine goff rfl rfl rfl (goff rfl rfl rfl (goff rfl rfl rfl (pt_ rfl rfl (nn_ (ct_ rfl (sr_ (sg_ rfl (nn_ ?_))))))))
  refine gw_ret ?_
  refine nx_then_ret ?_
  refine nx_ret1 rfl rfl fun wx hm => ?_
  exact ⟨v, (some zeroHr), by rw [hN], (fun h => absurd h (by rw [hN]; decide)), (hm.pick [0, 1, 2] [0] [1] rfl rfl).cx⟩
 refine wl_set 35 rfl (congrArg Value.bool hq) ?_
 refine wl_guard_on rfl rfl rfl (mv_ rfl (wl_guard_on rfl rfl rfl (wl_ov (ov_len es103 rfl) rfl (wl_guard_on rfl rfl rfl (wl_ov (ov_neq rfl rfl) rfl (pf_ rfl rfl (nn_ ?_)))))))
 refine gw_set 39 (v' := .bool true) rfl (congrArg Value.bool (by rw [decide_eq_false hk5]; rfl)) ?_
 refine ct_ rfl (sr_ (sg_ rfl (nn_ ?_)))
 refine gw_ret ?_
 refine nx_then_ret ?_
 refine nx_ret1 rfl rfl fun wx hm => ?_
 exact ⟨v, (some zeroHr), by rw [hN], (fun h => absurd h (by rw [hN]; decide)), (hm.pick [0, 1, 2] [0] [1] rfl rfl).cx⟩
theorem hRead_some (t : ByteArray) (w0 w : World) (gf gh gr : Nat) (v : Value) (k d : ByteArray) (f t2 : Int) (ls : List Lg) (hts : t.size ≤ 1000000) (hls : ls.length ≤ 1000000) (hm : Mem ⟨0, w0, none, [9, 3]⟩ (fun _ => True) [(gf, 4, [.bool false]), (gh, 30, [.string k, .string d, .int .i64 f, .int .i64 t2, v]), (gr, 30, [.string ⟨#[]⟩, .string ⟨#[]⟩, .int .i64 0, .int .i64 0, .slice none 0 0])] [⟨v, 135, 9, ls.length, ls.flatMap lgEnc⟩] [TxtO w0.heap.size none] w) :
  Calls Tryz.prog 76 #[.string t, .pointer (some ⟨gf, 0, none⟩), .pointer (some ⟨gh, 0, none⟩)] w (fun e w' => ∃ (v' : Value) (st' : Option Hr), e = .returned (.bool (hStep t (some (⟨k, d, f, t2, ls⟩ : Hr))).2) ∧ ((hStep t (some (⟨k, d, f, t2, ls⟩ : Hr))).2 = true → st' = (hStep t (some (⟨k, d, f, t2, ls⟩ : Hr))).1) ∧ Mem ⟨0, w0, none, [9, 3]⟩ (fun _ => True) (hrL gf gh gr st' v') (hrO st' v') [TxtO w0.heap.size none] w') := by
 refine gw_enter ⟨64, w0, none, [9, 3]⟩ Tryz.func76 rfl Tryz.ntmps76 rfl hm.cx ?_
 refine sr_ (sg_ rfl (nn_ (sr_ (mv_ rfl ?_))))
 refine wl_callx (γ := Nat × Nat) (val := (fun g => .tuple #[.slice (some ⟨g.1, 0, none⟩) g.2 g.2, .bool (wdB t)])) (φ := (fun g => g.2 = (wdL t).length ∧ 1 ≤ g.2 ∧ g.2 ≤ t.size + 1)) (Y := (fun g => fun wy => SlT sgEnc 1 9 wy (some ⟨g.1, 0, none⟩) g.2 (wdL t))) rfl cb77 rfl rfl (fun wx hm => (words_any t wx (hm.fact 0 rfl).1 hts).mono fun _ _ ⟨gw, k, he, h1, h2, hg⟩ => ⟨(gw, k), he, ⟨h1.len.symm, h2⟩, hg, h1⟩) (fun _ => SlT.lasts2 rfl) ?_
 rintro ⟨gw, kw⟩ hkw
 dsimp only at hkw ⊢
 obtain ⟨hkl, hk1, hk2⟩ := hkw
 refine mv_ rfl (wl_ov (ov_extract rfl rfl) rfl (wl_ov (ov_extract rfl rfl) rfl (sg_ rfl (sg_ rfl (nn_ (gw_seq (sr_ (mv_ rfl (wl_ov (ov_un_not rfl) rfl (nn_ ?_))))))))))
 rcases Bool.eq_false_or_eq_true (!(wdB t)) with h1 | h1
 ·refine gw_set 16 rfl (congrArg Value.bool h1) ?_
  refine ct_ rfl (sr_ (sg_ rfl (nn_ ?_)))
  refine gw_ret ?_
  refine nx_then_ret ?_
  refine nx_ret1 rfl rfl fun wx hm => ?_
  exact ⟨v, (some (⟨k, d, f, t2, ls⟩ : Hr)), by rw [stp_wd h1], (fun h => absurd h (by rw [stp_wd h1]; decide)), (hm.pick [0, 1, 2] [0] [1] rfl rfl).cx⟩
 refine gw_set 16 rfl (congrArg Value.bool h1) ?_
 obtain ⟨hS1, hS2⟩ := stp_leg (h := (⟨k, d, f, t2, ls⟩ : Hr)) h1
 obtain ⟨IS, hIS⟩ : ∃ z, z = (hLeg (wdL t)).isSome := ⟨_, rfl⟩
 rw [← hIS] at hS1
 refine cf_ rfl (gw_skip (nx_then (gw_seq (sr_ (lk_ sc4 0 rfl rfl rfl (wl_ov (ov_un_not rfl) rfl ?_))))))
 refine wl_set 18 (v' := .bool true) rfl (congrArg Value.bool (by decide)) ?_
 refine nn_ (ct_ rfl (sr_ (mv_ rfl ?_)))
 refine wl_callx (γ := ByteArray × Int × ByteArray × Int × Int × Int × ByteArray × Int × Int) (val := (fun g => .tuple #[.agg #[.string g.1, .int .i64 g.2.1, .string g.2.2.1, .int .i64 g.2.2.2.1, .int .i64 g.2.2.2.2.1, .int .i64 g.2.2.2.2.2.1, .string g.2.2.2.2.2.2.1, .int .i64 g.2.2.2.2.2.2.2.1, .int .i64 g.2.2.2.2.2.2.2.2], .bool IS])) (φ := (fun g => ∀ y, hLeg (wdL t) = some y → y = (⟨g.1, ⟨g.2.1, g.2.2.1, g.2.2.2.1, g.2.2.2.2.1⟩, ⟨g.2.2.2.2.2.1, g.2.2.2.2.2.2.1, g.2.2.2.2.2.2.2.1, g.2.2.2.2.2.2.2.2⟩⟩ : Lg))) (Y := (fun g => fun _ => True)) rfl cb78 rfl rfl (fun wx hm => (by have h := leg_w (wdL t) (some ⟨gw, 0, none⟩) kw wx (hm.fact 1 rfl).1 (hm.fact 0 rfl) hk1 (fun x hx => Nat.le_trans (wdL_sz t x hx) hts); rw [← hIS] at h; exact h.mono fun _ _ ⟨x0, x1, x2, x3, x4, x5, x6, x7, x8, he, h1, hg⟩ => ⟨(x0, x1, x2, x3, x4, x5, x6, x7, x8), he, h1, hg, trivial⟩)) (fun _ => Lasts2.true_) ?_
 rintro ⟨x0, x1, x2, x3, x4, x5, x6, x7, x8⟩ hg9
 dsimp only at hg9 ⊢
 refine wl_look (R := ∃ A cc, v = .slice A ls.length cc) (fun wx hm => own_slice (hm.ownI 0 rfl)) ?_
 rintro ⟨A, cc, rfl⟩
 refine mv_ rfl (wl_ov (ov_extract rfl rfl) rfl (wl_ov (ov_extract rfl rfl) rfl ?_))
 refine wl_alloc zc135 rfl fun g2 => ?_
 refine wl_stores (cs' := [.string x0, .int .i64 x1, .string x2, .int .i64 x3, .int .i64 x4, .int .i64 x5, .string x6, .int .i64 x7, .int .i64 x8]) 0 rz135 rfl rfl rfl rfl rfl rfl rfl rfl ?_
 refine sg_ rfl (nn_ (sr_ (fd_ fo30_3 rfl rfl (lk_ sc28 2 rfl rfl rfl ?_))))
 refine wl_ov (ov_loads rz135 rfl (fun _ hm => hm.blkI 0 rfl) rfl rfl) rfl ?_
 refine wl_buildSlice (e := 135) (cs := [.string x0, .int .i64 x1, .string x2, .int .i64 x3, .int .i64 x4, .int .i64 x5, .string x6, .int .i64 x7, .int .i64 x8]) rfl (by kernel_rfl) rfl fun g3 => ?_
 refine wl_append (news := [.string x0, .int .i64 x1, .string x2, .int .i64 x3, .int .i64 x4, .int .i64 x5, .string x6, .int .i64 x7, .int .i64 x8]) 0 0 ap28 rfl rfl rfl rfl rfl rfl rfl (by omega) (by unfold maxLen; omega) rfl rfl fun v2 hv => ?_
 refine wl_look (R := ∃ A cc, v2 = .slice A (ls.length + 1) cc) (fun wx hm => own_slice (hm.ownI 0 rfl)) ?_
 rintro ⟨A5, c5, rfl⟩
 refine fd_ fo30_3 rfl rfl ?_
 refine wl_store 3 sc28 rfl rfl rfl rfl rfl rfl ?_
 refine nn_ (sr_ (mv_ rfl (sg_ rfl (nn_ ?_))))
 refine gw_ret ?_
 refine nx_then_ret ?_
 rw [show ls.flatMap lgEnc ++ ([.string x0, .int .i64 x1, .string x2, .int .i64 x3, .int .i64 x4, .int .i64 x5, .string x6, .int .i64 x7, .int .i64 x8] : List Value) = (ls ++ [(⟨x0, ⟨x1, x2, x3, x4⟩, ⟨x5, x6, x7, x8⟩⟩ : Lg)]).flatMap lgEnc from by simp [lgEnc, rdCells]]
 refine nx_ret1 rfl rfl fun wx hm => ?_
 refine ⟨.slice A5 (ls.length + 1) c5, some ⟨k, d, f, t2, (ls ++ [(⟨x0, ⟨x1, x2, x3, x4⟩, ⟨x5, x6, x7, x8⟩⟩ : Lg)])⟩, by rw [hS1], (fun h => by
  rw [hS1, hIS] at h
  obtain ⟨g, hg⟩ := Option.isSome_iff_exists.1 h
  rw [hS2 g hg, hg9 g hg]; rfl), ?_⟩
 have e9 : (ls ++ [(⟨x0, ⟨x1, x2, x3, x4⟩, ⟨x5, x6, x7, x8⟩⟩ : Lg)]).length = ls.length + 1 := by simp
 show Mem ⟨0, w0, none, [9, 3]⟩ (fun _ => True) (hrL gf gh gr (some ⟨k, d, f, t2, (ls ++ [(⟨x0, ⟨x1, x2, x3, x4⟩, ⟨x5, x6, x7, x8⟩⟩ : Lg)])⟩) (.slice A5 (ls.length + 1) c5)) [⟨.slice A5 (ls.length + 1) c5, 135, 9, (ls ++ [(⟨x0, ⟨x1, x2, x3, x4⟩, ⟨x5, x6, x7, x8⟩⟩ : Lg)]).length, (ls ++ [(⟨x0, ⟨x1, x2, x3, x4⟩, ⟨x5, x6, x7, x8⟩⟩ : Lg)]).flatMap lgEnc⟩] [TxtO w0.heap.size none] _
 rw [e9]
 exact (hm.pick [2, 3, 4] [0] [2] rfl rfl).cx
theorem hRead1_w (t : ByteArray) (w0 w : World) (gf gh gr : Nat) (v : Value) (st : Option Hr) (hts : t.size ≤ 1000000) (hls_ : (hrls st).length ≤ 1000000) (hm : Mem ⟨0, w0, none, [9, 3]⟩ (fun _ => True) (hrL gf gh gr st v) (hrO st v) [TxtO w0.heap.size none] w) :
    Calls Tryz.prog 76 #[.string t, .pointer (some ⟨gf, 0, none⟩), .pointer (some ⟨gh, 0, none⟩)] w (fun e w' => ∃ (v' : Value) (st' : Option Hr), e = .returned (.bool (hStep t st).2) ∧ ((hStep t st).2 = true → st' = (hStep t st).1) ∧ Mem ⟨0, w0, none, [9, 3]⟩ (fun _ => True) (hrL gf gh gr st' v') (hrO st' v') [TxtO w0.heap.size none] w') := by
  cases st with
  | none => exact hRead_none t w0 w gf gh gr v hts hm
  | some h =>
    obtain ⟨k, d, f, t2, ls⟩ := h
    exact hRead_some t w0 w gf gh gr v k d f t2 ls hts hls_ hm
end Go.Proofs.YtempjmpfdniecaaGreatDoor
namespace Go.Proofs.YtempjmpfdniecaaGreatDoor
open Go.RowKit
theorem hWl_w (t : ByteArray) (gf gh gr : Nat) (w0 w : World) (hts : t.size ≤ 200000) (hm : Mem ⟨0, w0, none, [9, 3]⟩ (fun _ => True) (hrL gf gh gr none (.slice none 0 0)) (hrO none (.slice none 0 0)) [TxtO w0.heap.size none] w) :
  Calls Tryz.prog 75 #[.string t, .func (.func 76) #[] #[.pointer (some ⟨gf, 0, none⟩), .pointer (some ⟨gh, 0, none⟩)]] w (fun e w' => ∃ (v' : Value) (st' : Option Hr), e = .returned (.tuple #[.int .i64 (hrR t).1, .bool (hrR t).2.1]) ∧ ((hrR t).2.1 = true → st' = (hrR t).2.2) ∧ Mem ⟨0, w0, none, [9, 3]⟩ (fun _ => True) (hrL gf gh gr st' v') (hrO st' v') [TxtO w0.heap.size none] w') := by
 refine gw_enter ⟨30, w0, none, [9, 3]⟩ Tryz.func75 rfl Tryz.ntmps75 rfl hm.cx ?_
 refine sr_ (sg_ rfl (sg_ rfl (nn_ (gw_seq (sr_ (sg_ rfl (nn_ (gw_block ?_))))))))
 refine gw_loop (γ := Nat × ByteArray × Int × Value × Option Hr) (fun (gz : Nat × ByteArray × Int × Value × Option Hr) => gz.2.1.size < gz.1 ∧ gz.2.1.size ≤ t.size ∧ hrR t = linesF hStep gz.1 gz.2.1 gz.2.2.1 gz.2.2.2.2 ∧ 0 ≤ gz.2.2.1 ∧ gz.2.2.1 + gz.2.1.size ≤ t.size ∧ hsM gz.2.2.2.2 + gz.2.1.size ≤ t.size ∧ HsQ gz.2.2.2.2) (fun (gz : Nat × ByteArray × Int × Value × Option Hr) => [(0, .string gz.2.1), (1, .func (.func 76) #[] #[.pointer (some ⟨gf, 0, none⟩), .pointer (some ⟨gh, 0, none⟩)]), (6, .int .i64 gz.2.2.1)]) (fun (gz : Nat × ByteArray × Int × Value × Option Hr) => fun _ => True) (fun (gz : Nat × ByteArray × Int × Value × Option Hr) => [(gf, 4, [.bool gz.2.2.2.2.isNone]), (gh, 30, [.string (hrk gz.2.2.2.2), .string (hrd gz.2.2.2.2), .int .i64 (hrf gz.2.2.2.2), .int .i64 (hrt gz.2.2.2.2), gz.2.2.2.1]), (gr, 30, [.string ⟨#[]⟩, .string ⟨#[]⟩, .int .i64 0, .int .i64 0, .slice none 0 0])]) (fun (gz : Nat × ByteArray × Int × Value × Option Hr) => [⟨gz.2.2.2.1, 135, 9, (hrls gz.2.2.2.2).length, (hrls gz.2.2.2.2).flatMap lgEnc⟩]) (fun (gz : Nat × ByteArray × Int × Value × Option Hr) => [TxtO w0.heap.size none]) (fun (gz : Nat × ByteArray × Int × Value × Option Hr) => gz.1) (t.size + 1, t, 0, (.slice none 0 0), none) ⟨Nat.lt_succ_self _, Nat.le_refl _, rfl, Int.le_refl _, by dsimp only; omega, by simp [hsM], fun _ e => by cases e⟩ ⟨rfl, rfl, rfl, trivial⟩ (fun _ hm => hm.pick [0, 1, 2] [0] [0] rfl rfl) ?_
 rintro ⟨f, u, at_, v, st⟩ hinv
 replace hinv : u.size < f ∧ u.size ≤ t.size ∧ hrR t = linesF hStep f u at_ st ∧ 0 ≤ at_ ∧ at_ + u.size ≤ t.size ∧ hsM st + u.size ≤ t.size ∧ HsQ st := hinv
 dsimp only
 refine gw_seq (sr_ ?_)
 obtain ⟨hf, hu, hR, ha0, ha1, hms, hQ⟩ := hinv
 refine mv_ rfl (wl_ov (ov_sneq rfl rfl) rfl (nn_ ?_))
 refine gw_cond rfl (fun hh => ?_) (fun hh => ?_)
 ·have he : (u.toList == (⟨#[]⟩ : ByteArray).toList) = false := by simpa using hh
  clear hh
  refine gw_skip (nx_then (gw_seq (gw_block (sr_ ?_))))
  replace he : (u.toList == (⟨#[]⟩ : ByteArray).toList) = false := by simpa using he
  have hu1 := size_pos he
  obtain ⟨⟨c1, c2, cf⟩, hcut⟩ : ∃ z, cutS u nlS = z := ⟨_, rfl⟩
  have hsz := cut_sz u nlS (by decide)
  rw [hcut] at hsz
  obtain ⟨hs1, hs2, hs3⟩ := hsz
  have hs1 : c1.size ≤ u.size := hs1
  have hs2 : cf = true → 1 ≤ u.size → c2.size + 1 ≤ u.size := hs2
  refine mv_ rfl ?_
  refine wl_callv (v := .tuple #[.string c1, .string c2, .bool cf]) rfl cb178 rfl rfl (fun wx hm => (by have h := cut_any u nlS wx (hm.fact 0 rfl).1 (by omega); rw [hcut] at h; exact h)) ?_
  refine mv_ rfl (wl_ov (ov_extract rfl rfl) rfl (wl_ov (ov_extract rfl rfl) rfl (wl_ov (ov_extract rfl rfl) rfl (sg_ rfl (sg_ rfl (sg_ rfl (nn_ (gw_seq (sr_ (mv_ rfl (wl_ov (ov_un_not rfl) rfl ?_)))))))))))
  refine mv_ rfl ?_
  rcases Bool.eq_false_or_eq_true (!cf) with hcf | hcf
  ·refine wl_set 22 rfl (congrArg Value.bool hcf) ?_
   replace hcf : cf = false := by simpa using hcf
   subst hcf
   refine goff rfl rfl rfl (goff rfl rfl rfl (goff rfl rfl rfl (goff rfl rfl rfl (pt_ rfl rfl (nn_ (ct_ rfl (sr_ (mv_ rfl (sg_ rfl (sg_ rfl (wl_nil ?_)))))))))))
   refine nx_then ?_
   refine gw_ret ?_
   refine nx_then_ret (nx_blk_ret (nx_then_ret (nx_then_ret (nx_blk_ret (nx_then_ret ?_)))))
   refine nx_ret2 rfl rfl rfl fun wx hm => ?_
   have hR2 := hR.trans (lns_open hf he hcut)
   rw [hR2]
   exact ⟨v, st, rfl, (fun h => by cases h), (hm.pick [0, 1, 2] [0] [0] rfl rfl).cx⟩
  refine wl_set 22 rfl (congrArg Value.bool hcf) ?_
  replace hcf : cf = true := by simpa using hcf
  subst hcf
  have hs2 := hs2 rfl hu1
  refine wl_guard_on rfl rfl rfl (mv_ rfl (wl_guard_on rfl rfl rfl (mv_ rfl (wl_guard_on rfl rfl rfl ?_))))
  have hlsn : (hrls st).length = hsM st := by cases st <;> rfl
  refine wl_callG (γ := Value × Option Hr) (val := fun _ => .bool (hStep c1 st).2) (φ := fun z => (hStep c1 st).2 = true → z.2 = (hStep c1 st).1) (K' := fun _ => (fun _ => True)) (L' := fun z => [(gf, 4, [.bool z.2.isNone]), (gh, 30, [.string (hrk z.2), .string (hrd z.2), .int .i64 (hrf z.2), .int .i64 (hrt z.2), z.1]), (gr, 30, [.string ⟨#[]⟩, .string ⟨#[]⟩, .int .i64 0, .int .i64 0, .slice none 0 0])]) (O' := fun z => [⟨z.1, 135, 9, (hrls z.2).length, (hrls z.2).flatMap lgEnc⟩]) (X' := fun _ => [TxtO w0.heap.size none]) rfl cb76 rfl rfl (fun wx hm => (hRead1_w c1 w0 wx gf gh gr v st (by omega) (by omega) (hm.pick [0, 1, 2] [0] [0] rfl rfl).cx).mono fun e w' ⟨v', st', he, h1, hM⟩ => ⟨(v', st'), he, h1, hM.cx⟩) ?_
  rintro ⟨v1, st1⟩ hst1
  dsimp only at hst1 ⊢
  refine wl_guard_on rfl rfl rfl (wl_ov (ov_un_not rfl) rfl (pf_ rfl rfl (nn_ ?_)))
  refine gw_cond rfl (fun hh => ?_) (fun hh => ?_)
  ·have hr : ((hStep c1 st).2) = false := by simpa using hh
   clear hh
   refine sr_ ?_
   replace hr : (hStep c1 st).2 = false := by simpa using hr
   refine mv_ rfl (sg_ rfl (sg_ rfl (nn_ ?_)))
   refine gw_ret ?_
   refine nx_then_ret (nx_blk_ret (nx_then_ret (nx_then_ret (nx_blk_ret (nx_then_ret ?_)))))
   refine nx_ret2 rfl rfl rfl fun wx hm => ?_
   have hR2 := hR.trans (lns_no hf he hcut hr)
   rw [hR2]
   exact ⟨v1, st1, rfl, (fun h => by cases h), (hm.pick [0, 1, 2] [0] [0] rfl rfl).cx⟩
  have hr : ((hStep c1 st).2) = true := by simpa using hh
  clear hh
  refine gw_skip (nx_then (gw_region ?_))
  replace hr : (hStep c1 st).2 = true := by simpa using hr
  obtain rfl := hst1 hr
  obtain ⟨hq1, hq2⟩ := hStep_ok c1 st (by omega) hQ
  refine mv_ rfl (sg_ rfl (wl_nil (nx_blk_nrm (nx_then (gw_region (mv_ rfl (ad_ rfl rfl (sg_ rfl (wl_nil ?_)))))))))
  exact nx_round (f - 1, c2, at_ + 1, v1, (hStep c1 st).1) ⟨by dsimp only; omega, by dsimp only; omega, hR.trans (lns_go hf he hcut hr), by dsimp only; omega, by dsimp only; omega, by dsimp only; omega, hq1⟩ (by dsimp only; omega) ⟨rfl, rfl, rfl, trivial⟩ (fun _ hm => hm.pick [0, 1, 2] [0] [0] rfl rfl)
 have he : (u.toList == (⟨#[]⟩ : ByteArray).toList) = true := by simpa using hh
 clear hh
 refine gw_exit ?_
 refine nx_then_exit (nx_then_exit ?_)
 refine nx_blk_here ?_
 refine nx_then (sr_ (sg_ rfl (sg_ rfl (nn_ ?_))))
 refine gw_ret ?_
 refine nx_ret2 rfl rfl rfl fun wx hm => ?_
 have hR2 := hR.trans (lns_nil hf (by simpa using he))
 rw [hR2]
 exact ⟨v, st, rfl, (fun _ => rfl), (hm.pick [0, 1, 2] [0] [0] rfl rfl).cx⟩
def hrGot (t : ByteArray) (w : World) (e : Ending) (w' : World) : Prop := ∃ (k d : ByteArray) (f t2 : Int) (A : Option Addr) (n c : Nat), e = .returned (.tuple #[.agg #[.string k, .string d, .int .i64 f, .int .i64 t2, .slice A n c], .int .i64 (hrAt t), .int .i64 (hrE t)]) ∧ hrH t = ⟨k, d, f, t2, (hrH t).legs⟩ ∧ SlT lgEnc 9 135 w' A n (hrH t).legs ∧ w.grownBy w' none
theorem hrGot.zero {t : ByteArray} {w w' : World} {N E : Int} (h : hrE t = E ∧ hrAt t = N ∧ hrH t = zeroHr) (hg : w.grownBy w' none) : hrGot t w (.returned (.tuple #[.agg #[.string ⟨#[]⟩, .string ⟨#[]⟩, .int .i64 0, .int .i64 0, .slice none 0 0], .int .i64 N, .int .i64 E])) w' :=
  ⟨⟨#[]⟩, ⟨#[]⟩, 0, 0, none, 0, 0, by rw [h.1, h.2.1], by rw [h.2.2]; rfl, by rw [h.2.2]; exact SlT.nil_ w' none, hg⟩
section
variable {P : Program} {c : Cx} {S : List (Nat × Value)} {K : World → Prop} {L : List (Nat × TypeId × List Value)} {O : List Own} {X : List (World → Prop)} {fn : Func} {R : Ending → World → Prop}
theorem results_ctt2 {p u r : Tmp} {t : TypeId} (h : fn.results = #[.cell p t, .tmp u, .tmp r]) (tmps : Array Value) (w : World) (g : Nat) (T : TypeId) (cs : Array Value) (fr : Nat × Nat) (d : TypeDesc) (hp : tmps.getD p undef = .pointer (some ⟨g, 0, none⟩)) (hg : w.heap[g]? = some (.cells cs T fr)) (hu : P.underlying t = some d) (hd : (match d with | .struct _ | .array _ _ => true | _ => false) = true) (hi : (P.info? t).map (·.size) = some cs.size) :
    (results fn tmps).run P w = .ok (.tuple #[.agg cs, tmps.getD u undef, tmps.getD r undef]) w := by
  have hp' : tmps[p]?.getD undef = .pointer (some ⟨g, 0, none⟩) := by simpa using hp
  simp [results, h, hp', asAddr, run_loadVar_row w g T t cs fr d hg hu hd hi]
theorem nx_retctt2 {p u r : Nat} {t T : TypeId} {g n : Nat} {cs : List Value} {v v' : Value} (i : Nat) (hr : fn.results = #[.cell p t, .tmp u, .tmp r]) (hs : rowSz P t = some n) (hp : look S p = some (.pointer (some ⟨g, 0, none⟩))) (hv : look S u = some v) (hv' : look S r = some v') (hL : L[i]? = some (g, T, cs)) (hn : cs.length = n)
    (h : ∀ w, Mem c K L O X w → R (.returned (.tuple #[.agg cs.toArray, v, v'])) w) : Nx c (bodyPost P fn R) .ret S K L O X := fun a w ha hm => by
  obtain ⟨dd, hu, hd, hi⟩ := run_row hs
  have hb : w.heap[g]? = some (.cells cs.toArray T (0, 0)) := hm.blk (List.mem_of_getElem? hL)
  have h1 := results_ctt2 (P := P) hr a.tmps w g T cs.toArray (0, 0) dd (by simp [Array.getD_eq_getD_getElem?, ha.val p _ hp]) hb hu (by cases dd <;> simp_all [TypeDesc.isRow]) (by simpa [hn] using hi)
  rw [show a.tmps.getD u undef = v by simp [Array.getD_eq_getD_getElem?, ha.val u _ hv], show a.tmps.getD r undef = v' by simp [Array.getD_eq_getD_getElem?, ha.val r _ hv']] at h1
  exact bodyPost_ret h1 ha.df (h w hm)
end
theorem hRead_w (t : ByteArray) (w : World) (htx : TxtW w) (hts : t.size ≤ 1000000000) :
  Calls Tryz.prog 14 #[.string t] w (hrGot t w) := by
 refine gw_enter ⟨34, w, none, [9, 3]⟩ Tryz.func14 rfl Tryz.ntmps14 rfl (mem0 (X := [TxtO w.heap.size none]) (allF_cons htx.old allF_nil) (allL_cons TxtO.lasts allL_nil)) ?_
 refine sr_ ?_
 refine wl_alloc zc30 rfl fun g1 => ?_
 refine sg_ rfl (sg_ rfl (nn_ (gw_seq (sr_ (mv_ rfl ?_)))))
 refine wl_ov (ov_lens us9 rfl) rfl ?_
 refine wl_ov (ov_gtr rfl rfl) rfl ?_
 refine nn_ ?_
 refine gw_cond rfl (fun hh => ?_) (fun hh => ?_)
 ·have hb : 200000 < ((t).size : Int) := by simpa using hh
  clear hh
  refine sr_ ?_
  refine wl_ov (ov_build (cs := [.string ⟨#[]⟩, .string ⟨#[]⟩, .int .i64 0, .int .i64 0, .slice none 0 0]) rfl (by kernel_rfl)) rfl ?_
  refine wl_stores (cs' := [.string ⟨#[]⟩, .string ⟨#[]⟩, .int .i64 0, .int .i64 0, .slice none 0 0]) 0 rz30 rfl rfl rfl rfl rfl rfl rfl rfl ?_
  refine sg_ rfl (sg_ rfl (nn_ ?_))
  refine gw_ret ?_
  refine nx_then_ret ?_
  refine nx_retctt2 0 rfl rz30 rfl rfl rfl rfl rfl fun wx hm => ?_
  exact hrGot.zero (hr_big (by omega)) hm.g
 have hb : ¬ (200000 < ((t).size : Int)) := by simpa using hh
 clear hh
 refine gw_skip (nx_then (sr_ ?_))
 have hb : ¬ 200000 < t.size := by omega
 obtain ⟨hQ, hMs⟩ := hrR_all (t := t) (by omega)
 refine wl_alloc zc30 rfl fun g2 => ?_
 refine nn_ (sr_ ?_)
 refine wl_alloc zc4 rfl fun g3 => ?_
 refine wl_store 0 sc4 rfl rfl rfl rfl rfl rfl ?_
 refine nn_ (sr_ (mv_ rfl (wl_ov (ov_makeFunc rfl rfl) rfl ?_)))
 refine wl_nilOwn 135 9 ?_
 refine wl_callG (γ := Value × Option Hr) (val := fun _ => .tuple #[.int .i64 (hrR t).1, .bool (hrR t).2.1]) (φ := fun z => (hrR t).2.1 = true → z.2 = (hrR t).2.2) (K' := fun _ => (fun _ => True)) (L' := fun z => [(g3, 4, [.bool z.2.isNone]), (g2, 30, [.string (hrk z.2), .string (hrd z.2), .int .i64 (hrf z.2), .int .i64 (hrt z.2), z.1]), (g1, 30, [.string ⟨#[]⟩, .string ⟨#[]⟩, .int .i64 0, .int .i64 0, .slice none 0 0])]) (O' := fun z => [⟨z.1, 135, 9, (hrls z.2).length, (hrls z.2).flatMap lgEnc⟩]) (X' := fun _ => [TxtO w.heap.size none]) rfl cb75 rfl rfl (fun wx hm => (hWl_w t g3 g2 g1 w wx (by omega) (hm.pick [0, 1, 2] [0] [0] rfl rfl).cx).mono fun e w' ⟨v', st', he, h1, hM⟩ => ⟨(v', st'), he, h1, hM.cx⟩) ?_
 rintro ⟨v1, st1⟩ hst1
 dsimp only at hst1 ⊢
 refine mv_ rfl (wl_ov (ov_extract rfl rfl) rfl (wl_ov (ov_extract rfl rfl) rfl (sg_ rfl (sg_ rfl (nn_ (gw_seq (sr_ (mv_ rfl (wl_ov (ov_un_not rfl) rfl (mv_ rfl ?_))))))))))
 rcases Bool.eq_false_or_eq_true (!((hrR t).2.1)) with ho | ho
 ·refine wl_set 22 rfl (congrArg Value.bool ho) ?_
  replace ho : (hrR t).2.1 = false := by simpa using ho
  refine goff rfl rfl rfl (pt_ rfl rfl (nn_ (ct_ rfl (sr_ ?_))))
  refine wl_ov (ov_build (cs := [.string ⟨#[]⟩, .string ⟨#[]⟩, .int .i64 0, .int .i64 0, .slice none 0 0]) rfl (by kernel_rfl)) rfl ?_
  refine mv_ rfl ?_
  refine wl_stores (cs' := [.string ⟨#[]⟩, .string ⟨#[]⟩, .int .i64 0, .int .i64 0, .slice none 0 0]) 2 rz30 rfl rfl rfl rfl rfl rfl rfl rfl ?_
  refine sg_ rfl (sg_ rfl (nn_ ?_))
  refine gw_ret ?_
  refine nx_then_ret ?_
  refine nx_retctt2 2 rfl rz30 rfl rfl rfl rfl rfl fun wx hm => ?_
  exact hrGot.zero (hr_syn hb ho) hm.g
 refine wl_set 22 rfl (congrArg Value.bool ho) ?_
 replace ho : (hrR t).2.1 = true := by simpa using ho
 obtain rfl := hst1 ho
 obtain ⟨ST, hST⟩ : ∃ z, z = (hrR t).2.2 := ⟨_, rfl⟩
 rw [← hST] at hQ hMs ⊢
 by_cases hsn : ST = none
 ·subst hsn
  refine wl_guard_on rfl rfl rfl (lk_ sc4 0 rfl rfl rfl (pf_ rfl rfl (nn_ ?_)))
  refine gw_set 24 (v' := .bool true) rfl rfl ?_
  refine ct_ rfl (sr_ ?_)
  refine wl_ov (ov_build (cs := [.string ⟨#[]⟩, .string ⟨#[]⟩, .int .i64 0, .int .i64 0, .slice none 0 0]) rfl (by kernel_rfl)) rfl ?_
  refine mv_ rfl ?_
  refine wl_stores (cs' := [.string ⟨#[]⟩, .string ⟨#[]⟩, .int .i64 0, .int .i64 0, .slice none 0 0]) 2 rz30 rfl rfl rfl rfl rfl rfl rfl rfl ?_
  refine sg_ rfl (sg_ rfl (nn_ ?_))
  refine gw_ret ?_
  refine nx_then_ret ?_
  refine nx_retctt2 2 rfl rz30 rfl rfl rfl rfl rfl fun wx hm => ?_
  exact hrGot.zero (hr_none hb ho hST.symm) hm.g
 obtain ⟨h, rfl⟩ := Option.ne_none_iff_exists'.1 hsn
 obtain ⟨k, d, f, t2, ls⟩ := h
 have hok : HrOk k d ls := hQ _ rfl
 have hms : ls.length ≤ t.size := hMs
 obtain ⟨HE, hHE⟩ : ∃ z, z = hireE ⟨k, d, f, t2, ls⟩ := ⟨_, rfl⟩
 skip
 refine wl_look (R := ∃ A cc, v1 = .slice A ls.length cc) (fun wx hm => own_slice (hm.ownI 0 rfl)) ?_
 rintro ⟨A, cc, rfl⟩
 refine wl_guard_on rfl rfl rfl (lk_ sc4 0 rfl rfl rfl (pf_ rfl rfl (nn_ (cf_ rfl (gw_skip (nx_then (gw_seq (sr_ ?_))))))))
 refine wl_ov (ov_loads rz30 rfl (fun _ hm => hm.blkI 1 rfl) rfl rfl) rfl ?_
 refine wl_callv (v := .int .i64 HE) rfl cb12 rfl rfl (fun wx hm => (by rw [hHE]; exact hcheck_any k d f t2 ls A ls.length cc wx (SlT.ofOwn lg_len (hm.ownI 0 rfl) rfl) hok (by omega))) ?_
 refine sg_ rfl (nn_ (sr_ (mv_ rfl (wl_ov (ov_neq rfl rfl) rfl (nn_ ?_)))))
 refine gw_cond rfl (fun hh => ?_) (fun hh => ?_)
 ·have h0 : ¬ (HE = 0) := by simpa using hh
  clear hh
  refine sr_ ?_
  have h0 : ¬ HE = 0 := by simpa using h0
  have hR := hr_form hb ho hST.symm (by rw [← hHE]; exact h0)
  refine wl_ov (ov_build (cs := [.string ⟨#[]⟩, .string ⟨#[]⟩, .int .i64 0, .int .i64 0, .slice none 0 0]) rfl (by kernel_rfl)) rfl ?_
  refine mv_ rfl ?_
  refine wl_stores (cs' := [.string ⟨#[]⟩, .string ⟨#[]⟩, .int .i64 0, .int .i64 0, .slice none 0 0]) 2 rz30 rfl rfl rfl rfl rfl rfl rfl rfl ?_
  refine sg_ rfl (sg_ rfl (nn_ ?_))
  refine gw_ret ?_
  refine nx_then_ret ?_
  refine nx_retctt2 2 rfl rz30 rfl rfl rfl rfl rfl fun wx hm => ?_
  rw [hHE]
  exact hrGot.zero hR hm.g
 have h0 : HE = 0 := by simpa using hh
 clear hh
 refine gw_skip (nx_then (sr_ ?_))
 replace h0 : HE = 0 := by simpa using h0
 subst h0
 have hR := hr_right hb ho hST.symm hHE.symm
 refine wl_ov (ov_loads rz30 rfl (fun _ hm => hm.blkI 1 rfl) rfl rfl) rfl ?_
 refine wl_stores (cs' := [.string k, .string d, .int .i64 f, .int .i64 t2, .slice A ls.length cc]) 2 rz30 rfl rfl rfl rfl rfl rfl rfl rfl ?_
 refine sg_ rfl (sg_ rfl (nn_ ?_))
 refine gw_ret ?_
 refine nx_retctt2 2 rfl rz30 rfl rfl rfl rfl rfl fun wx hm => ?_
 exact ⟨k, d, f, t2, A, ls.length, cc, by rw [hR.1, hR.2.1], by rw [hR.2.2], by rw [hR.2.2]; exact SlT.ofOwn lg_len (hm.ownI 0 rfl) rfl, hm.g⟩
end Go.Proofs.YtempjmpfdniecaaGreatDoor
namespace Go.Proofs.YtempjmpfdniecaaGreatDoor
open Go.RowKit Go.Shelf
theorem tys_ne {L : List (Nat × TypeId × List Value)} {e : TypeId} (h : (L.all fun x => x.2.1 != e) = true) : ∀ x ∈ L, x.2.1 ≠ e := fun x hx he => by
  have h2 := List.all_eq_true.1 h x hx
  rw [he] at h2
  simp at h2
theorem own_cells {w : World} {base n sz : Nat} {e : TypeId} {v : Value} {xs : List Value} (h : w.ownsRow base e sz v n xs) {g : Nat} (hg : v.ownBlock = some g) : ∃ c fz, w.heap[g]? = some (.cells c e fz) := by
  rcases h.2 with ⟨rfl, _⟩ | ⟨g', cap, cur, rfl, _, hh, _⟩
  · cases hg
  · obtain rfl : g' = g := by
      have h2 : (Value.slice (some ⟨g', 0, none⟩) n cap).ownBlock = some g' := rfl
      rw [h2] at hg
      exact Option.some.inj hg
    exact ⟨_, _, hh⟩
section
variable {c : Cx} {K : World → Prop} {L : List (Nat × TypeId × List Value)} {O : List Own} {X X' : List (World → Prop)} {w w' : World} {T e : TypeId} {b : Nat} {p : Value} {bs cs0 : List Value}
/-- What is known behind a write: the builder's block and its row; the other blocks are as they were. -/
theorem Mem.builtK (hm : Mem c K L O X w) (i : Nat) (hi : L[i]? = some (b, T, cs0)) (hT : ∀ x ∈ L, x.2.1 ≠ e) (h : Lib.BuilderAt T e c.w0.heap.size b p bs w') (hb : Below c.w0.heap.size w w') (hk : Lib.OthersKept e (some b) w w') (hX : ∀ A ∈ X', OldF c.w0.heap.size A ∧ A ∈ X) :
    ∃ v, Mem c (fun _ => True) (L.set i (b, T, [p, v])) [⟨v, e, 1, bs.length, bs⟩] X' w' := by
  obtain ⟨hN, v, hh, ho, hne⟩ := h
  have hil := (List.getElem?_eq_some_iff.1 hi).1
  have hiv := (List.getElem?_eq_some_iff.1 hi).2
  have hin : ∀ x ∈ L.set i (b, T, [p, v]), x = (b, T, [p, v]) ∨ (x ∈ L ∧ x.1 ≠ b) := fun x hx => by
    obtain ⟨j, hj⟩ := List.getElem?_of_mem hx
    rw [List.getElem?_set] at hj
    by_cases hij : i = j
    · rw [if_pos hij, if_pos hil] at hj
      exact .inl (Option.some.inj hj).symm
    · rw [if_neg hij] at hj
      have hjl := (List.getElem?_eq_some_iff.1 hj).1
      have hjv := (List.getElem?_eq_some_iff.1 hj).2
      refine .inr ⟨List.mem_of_getElem? hj, fun he => ?_⟩
      have hp := List.pairwise_iff_getElem.1 hm.nd
      rcases Nat.lt_or_gt_of_ne hij with h1 | h1
      · exact hp i j hil hjl h1 (by rw [hiv, hjv]; exact he.symm)
      · exact hp j i hjl hil h1 (by rw [hiv, hjv]; exact he)
  have hblk : ∀ x ∈ L.set i (b, T, [p, v]), c.w0.heap.size ≤ x.1 ∧ Blk w' x.1 x.2.1 x.2.2 := fun x hx => by
    rcases hin x hx with rfl | ⟨hxL, hxb⟩
    · exact ⟨hN, hh⟩
    · have h1 := hm.b x hxL
      refine ⟨h1.1, ?_⟩
      have h2 : w.heap[x.1]? = some (.cells x.2.2.toArray x.2.1 (0, 0)) := h1.2
      exact hk x.1 _ h2 (fun e2 => hxb (Option.some.inj e2)) (fun c2 fz h3 => hT x hxL (by injection h3))
  have hty : ∀ x ∈ L.set i (b, T, [p, v]), x.2.1 ≠ e := fun x hx => by
    rcases hin x hx with rfl | ⟨hxL, _⟩
    · exact show T ≠ e from hT (b, T, cs0) (List.mem_of_getElem? hi)
    · exact hT x hxL
  refine ⟨v, hm.gB hb, trivial, hblk, ?_, fun r hr => ?_, fun r hr x hx e2 => ?_, List.pairwise_singleton _ _, fun A hA => (hX A hA).1 _ _ hb (hm.x A (hX A hA).2), Keeps.true_, fun A hA => hm.l A (hX A hA).2, hm.rs⟩
  · have h1 : (L.map (·.1)).Pairwise (fun a b => a ≠ b) := List.pairwise_map.2 hm.nd
    have h2 : (L.set i (b, T, [p, v])).map (·.1) = L.map (·.1) := by
      rw [List.map_set]
      apply List.ext_getElem?
      intro j
      rw [List.getElem?_set, List.length_map]
      by_cases hij : i = j
      · subst hij
        rw [if_pos rfl, if_pos hil, List.getElem?_map, hi]; rfl
      · rw [if_neg hij]
    rw [← h2] at h1
    exact List.pairwise_map.1 h1
  · rw [List.mem_singleton.1 hr]; exact ho
  · rw [List.mem_singleton.1 hr] at e2
    obtain ⟨c2, fz, h3⟩ := own_cells ho e2
    have h4 : w'.heap[x.1]? = some (.cells x.2.2.toArray x.2.1 (0, 0)) := (hblk x hx).2
    rw [h4] at h3
    refine hty x hx ?_
    have h5 := Option.some.inj h3
    injection h5
end
theorem Tryz.lays240x : Lays.n240 Tryz.prog Tryz.lays156_ren := { Tryz.lays166x with }
theorem copyCheckK (B b : Nat) (bs : List Value) (w : World) (h : Lib.IsBuilder 128 5 B b bs w) :
    Calls Tryz.prog 175 #[.pointer (some ⟨b, 0, none⟩)] w (fun e w' => e = .returned (.tuple #[]) ∧ Lib.BuilderAt 128 5 B b (.pointer (some ⟨b, 0, none⟩)) bs w' ∧ Below B w w' ∧ Lib.OthersKept 5 (some b) w w') := by
  rcases h with h | h
  · refine (Any.Builder_copyCheck_fresh Tryz.lays240x Tryz.Builder_Extra_156.toX72 b w h.cell0 h.shape h.frozen0).mono ?_
    rintro e w' ⟨rfl, rfl⟩
    exact ⟨rfl, h.used _, (Below.refl B w).setCell (p := ⟨b, 0, none⟩) h.1 _, (Lib.OthersKept.refl _ _ w).setCell ⟨b, 0, none⟩ rfl _⟩
  · refine (Any.Builder_copyCheck_used Tryz.lays240x Tryz.Builder_Extra_156.toX72 b w h.cell0).mono ?_
    rintro e w' ⟨rfl, rfl⟩
    exact ⟨rfl, h, Below.refl B _, Lib.OthersKept.refl _ _ _⟩
set_option maxHeartbeats 2000000 in
set_option maxRecDepth 100000 in
theorem writeStringK (B b : Nat) (bs : List Value) (s : ByteArray) (w : World) (h : Lib.IsBuilder 128 5 B b bs w) (hlen : bs.length + s.size ≤ 140737488355328) (hB : B ≤ w.heap.size) :
    Calls Tryz.prog 72 #[.pointer (some ⟨b, 0, none⟩), .string s] w (fun e w' => e = .returned (.tuple #[.int .i64 s.size, .nilIface]) ∧ Lib.BuilderAt 128 5 B b (.pointer (some ⟨b, 0, none⟩)) (bs ++ Lib.strCells s) w' ∧ Below B w w' ∧ Lib.OthersKept 5 (some b) w w') := by
  obtain ⟨i0, hi, hx0⟩ := Option.map_eq_some_iff.1 (Tryz.Builder_Extra_156).infoByte
  simp only [Prod.mk.injEq] at hx0
  obtain ⟨hz0, hz1, hz2⟩ := hx0
  have hcc := copyCheckK B b bs w h
  go_enter Tryz.func72, Tryz.ntmps72
  go_wp2_with fail
  refine hcc.mono ?_
  rintro e w1 ⟨rfl, h1, hb1, hk1⟩
  obtain ⟨hBb, v, hbk, hown, hne⟩ := h1
  have c0 : w1.cell? ⟨b, 0, none⟩ = some (.pointer (some ⟨b, 0, none⟩)) := by rw [Lib.cell_of_heap hbk]; rfl
  have c1 : w1.cell? ⟨b, 1, none⟩ = some v := by rw [Lib.cell_of_heap hbk]; rfl
  go_wp2_with (at_builtin; refine Lib.wpList_append_own_string _ rfl _ _ 126 9 rfl B 5 i0 Tryz.underlying126 Tryz.underlying9 hi hz0 hz1 hz2 _ _ _ rfl hown s rfl (by unfold maxLen; omega) (by omega) (by have := hb1.size; omega) ?_)
  intro v' w2 hown' hgrow _
  have hlt : b < w1.heap.size := (Array.getElem?_eq_some_iff.1 hbk).1
  have hb2 : w2.heap[b]? = some (.cells #[.pointer (some ⟨b, 0, none⟩), v] 128 (0, 0)) := by
    rw [hgrow.block b hlt (fun e => hne e.symm)]
    exact hbk
  have d0 : w2.cell? ⟨b, 0, none⟩ = some (.pointer (some ⟨b, 0, none⟩)) := by rw [Lib.cell_of_heap hb2]; rfl
  have d1 : w2.cell? ⟨b, 1, none⟩ = some v := by rw [Lib.cell_of_heap hb2]; rfl
  have f1 : w2.frozen? ⟨b, 1, none⟩ = false := Lib.frozen_of_heap hb2 1
  obtain ⟨ao, n', cap, rfl⟩ : ∃ ao n' cap, v' = .slice ao n' cap := by
    rcases hown'.2 with ⟨hv, _⟩ | ⟨g, cap, cur, hv, _⟩
    · exact ⟨_, _, _, hv⟩
    · exact ⟨_, _, _, hv⟩
  go_wp2_with fail
  go_ret2
  refine ⟨rfl, ?_, ?_, ?_⟩
  · exact Lib.BuilderAt.put (T := 128) (e := 5) hBb hb2 (bs' := bs ++ Lib.strCells s) (by simpa [Lib.strCells_length] using hown') (Tryz.Builder_Extra_156).neB5
  · exact (hb1.grown hgrow (by have := hb1.size; omega) (fun k hk => (hown.lt k hk).1)).setCell (p := ⟨b, 1, none⟩) hBb _
  · exact (hk1.grown hgrow (fun g hg => own_cells hown hg)).setCell ⟨b, 1, none⟩ rfl _
end Go.Proofs.YtempjmpfdniecaaGreatDoor
