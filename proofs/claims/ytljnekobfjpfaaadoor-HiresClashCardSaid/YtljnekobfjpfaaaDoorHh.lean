/- The walk of hire.Close. -/
import Derived.Test.YtljnekobfjpfaaaDoorHg
namespace Go.Proofs.YtljnekobfjpfaaaDoor
open Go.RowKit

/-- The legs of a hire whose last one ends. -/
def endLegs (l : List Lg) (r : Rd) : List Lg :=
  match l[l.length - 1]? with
  | some g => l.set (l.length - 1) ⟨g.veh, g.out, r⟩
  | none => l
def closeE (h : Hr) (r : Rd) : Int := if goingE h = 0 then hireE ⟨h.key, h.driver, h.fr, h.to_, endLegs h.legs r⟩ else goingE h

theorem info_rd : (Tryd.prog.info? 31).map (·.size) = some 4 := by kernel_rfl
theorem goingE_ok {h : Hr} (hg : goingE h = 0) : hireE h = 0 ∧ openB h.legs = true := by
  unfold goingE at hg
  by_cases h0 : hireE h = 0
  · rw [if_pos h0] at hg
    refine ⟨h0, ?_⟩
    by_cases ho : openB h.legs = true
    · exact ho
    · rw [if_neg ho] at hg; cases hg
  · rw [if_neg h0] at hg; exact absurd hg h0
theorem end_ok {l : List Lg} {r : Rd} (h : ∀ g ∈ l, LgOk g) (hr : RdOk r) : ∀ g ∈ endLegs l r, LgOk g := by
  unfold endLegs
  cases hl : l[l.length - 1]? with
  | none => exact h
  | some g =>
    intro x hx
    rcases List.mem_or_eq_of_mem_set hx with hx | rfl
    · exact h x hx
    · have := h g (List.mem_of_getElem? hl)
      exact ⟨this.1, this.2.1, hr⟩

set_option maxRecDepth 100000 in
set_option maxHeartbeats 1000000 in
theorem close_any (key driver : ByteArray) (fr to_ : Int) (l : List Lg) (A : Option Addr) (n c : Nat) (r : Rd) (w : World) (hl : SlT lgEnc 9 138 w A n l) (hok : HrOk key driver l) (hr : RdOk r) (hn : n ≤ 1000000) :
    Calls Tryd.prog 62 #[.agg #[.string key, .string driver, .int .i64 fr, .int .i64 to_, .slice A n c], .agg (rdCells r).toArray] w (fun e w' => w.grownBy w' none ∧
      ∃ A' c', e = .returned (.tuple #[madeV key driver fr to_ A' n c' (closeE ⟨key, driver, fr, to_, l⟩ r), .int .i64 (closeE ⟨key, driver, fr, to_, l⟩ r)]) ∧ (closeE ⟨key, driver, fr, to_, l⟩ r = 0 → SlT lgEnc 9 138 w' A' n (endLegs l r))) := by
  obtain ⟨E, hE⟩ : ∃ E, E = closeE ⟨key, driver, fr, to_, l⟩ r := ⟨_, rfl⟩
  obtain ⟨G, hG⟩ : ∃ G, G = goingE ⟨key, driver, fr, to_, l⟩ := ⟨_, rfl⟩
  rw [← hE]
  have HE := Lib.hid hE
  have HG := Lib.hid hG
  have Hok := Lib.hid hok
  have Hend := Lib.hid (end_ok hok.2.2 hr)
  have hlen := hl.len
  clear hE hG hok
  obtain ⟨at_, st, me, fu⟩ := r
  show Calls Tryd.prog 62 #[.agg #[.string key, .string driver, .int .i64 fr, .int .i64 to_, .slice A n c], .agg #[.int .i64 at_, .string st, .int .i64 me, .int .i64 fu]] w _
  go_enter Tryd.func62, Tryd.ntmps62
  go_wp2_with fail
  refine (going_any key driver fr to_ l A n c _ (((hl.alloc _).alloc _).alloc _) Hok.out hn).mono ?_
  rintro e w1 ⟨hg1, hcase⟩
  have hbA : Blk w1 w.heap.size 36 [.string key, .string driver, .int .i64 fr, .int .i64 to_, .slice A n c] := (((Blk.at_ w rfl _ _).alloc _).alloc _).grown hg1 (by simp)
  have hbB : Blk w1 (w.heap.size + 1) 31 [.int .i64 at_, .string st, .int .i64 me, .int .i64 fu] := ((Blk.at_ (w.alloc _) (by simp) _ _).alloc _).grown hg1 (by simp)
  have hbC : Blk w1 (w.heap.size + 2) 36 [.string ⟨#[]⟩, .string ⟨#[]⟩, .int .i64 0, .int .i64 0, .slice none 0 0] := (Blk.at_ ((w.alloc _).alloc _) (by simp) _ _).grown hg1 (by simp)
  have hgw : w.grownBy w1 none := grow_trans (grow_alloc (grow_alloc (grow_alloc (World.grownBy.refl _ _) _) _) _) hg1
  have hzA : ∀ k, some w.heap.size = some k → w.heap.size ≤ k := fun k h => by cases h; omega
  have hzC : ∀ k, some (w.heap.size + 2) = some k → w.heap.size ≤ k := fun k h => by cases h; omega
  clear hg1
  rw [← HG.out] at hcase
  rcases hcase with ⟨hG0, g, c', rfl, hown⟩ | ⟨hG0, rfl⟩
  · have hgo := goingE_ok (HG.out.symm.trans hG0)
    have hn0 : 0 < n := by have := (hireE_legs hgo.1).1; exact hlen ▸ this
    have HEE := Lib.hid (show E = hireE ⟨key, driver, fr, to_, endLegs l ⟨at_, st, me, fu⟩⟩ by rw [HE.out]; unfold closeE; rw [if_pos (HG.out.symm.trans hG0)])
    subst hG0
    clear hgo
    have hgz : w.heap.size + 3 ≤ g := by have := hown.1; simp at this; omega
    have hgl := hown.lt
    obtain ⟨cs, hbg, hcs, htk⟩ := hown.blk
    have Htk := Lib.hid htk
    clear htk hown
    obtain ⟨x, hx⟩ : ∃ x, l[n - 1]? = some x := ⟨_, List.getElem?_eq_getElem (by omega)⟩
    have Hx := Lib.hid hx
    have HL := Lib.hid (show endLegs l ⟨at_, st, me, fu⟩ = l.set (n - 1) ⟨x.veh, x.out, ⟨at_, st, me, fu⟩⟩ by unfold endLegs; rw [hlen, hx])
    have hfit : (n - 1) * 9 + 5 + 4 ≤ cs.length := by omega
    have hki : (n : Int) - 1 = ((n - 1 : Nat) : Int) := by omega
    have hk1 : (n : Int) - 1 < (n : Int) := by omega
    clear hx
    go_wp2_with (first
      | (with_reducible refine wpList_store_all rfl 36 (.tmp 2) (.tmp 10) rfl w.heap.size _ _ [.string key, .string driver, .int .i64 fr, .int .i64 to_, .slice (some ⟨g, 0, none⟩) n c'] hbA rfl rfl 5 info_hr rfl rfl (by simp [Value.oneCell']) ?_
         intro w2 hbA2 hg2
         have k4 := hbA2.cell_of (i := 4) (v := .slice (some ⟨g, 0, none⟩) n c') rfl
         have hbB2 := hbB.grown hg2 (fun h => absurd (Option.some.inj h) (by omega))
         have b0 := hbB2.cell_of (i := 0) (v := .int .i64 at_) rfl
         have b1 := hbB2.cell_of (i := 1) (v := .string st) rfl
         have b2 := hbB2.cell_of (i := 2) (v := .int .i64 me) rfl
         have b3 := hbB2.cell_of (i := 3) (v := .int .i64 fu) rfl
         have hbg2 := hbg.grown hg2 (fun h => absurd (Option.some.inj h) (by omega)))
      | (with_reducible refine wpList_store_blk rfl 31 (.tmp 24) (.tmp 22) rfl g ((n - 1) * 9 + 5) _ cs [.int .i64 at_, .string st, .int .i64 me, .int .i64 fu] hbg2 rfl rfl 4 info_rd rfl hfit (by simp [Value.oneCell']) ?_
         intro w3 hbg3 hg3
         have hbA3 := hbA2.grown hg3 (fun h => absurd (Option.some.inj h) (by omega)))
      | (with_reducible refine wpList_load_all rfl 36 (.tmp 2) rfl w.heap.size _ _ _ hbA3 rfl Tryd.underlying36 rfl 5 info_hr rfl ?_))
    have hsl : SlT lgEnc 9 138 w3 (some ⟨g, 0, none⟩) n (endLegs l ⟨at_, st, me, fu⟩) := by
      rw [HL.out]
      exact SlT.spliced lg_len hcs Htk.out hlen (r := 5) (vs := [.int .i64 at_, .string st, .int .i64 me, .int .i64 fu]) Hx.out rfl (by simp) hbg3
    have hz2 := hbC.lt
    have hgw2 := grow_own hgw hg2 hzA
    have hgw3 := grow_own hgw2 hg3 (fun k h => by cases h; omega)
    have hbC3 := (hbC.grown hg2 (fun h => absurd (Option.some.inj h) (by omega))).grown hg3 (fun h => absurd (Option.some.inj h) (by omega))
    clear hbA hbB hbC hbg hg2 hg3 hgw hgw2 hbA2 hbA3 hbB2 b0 b1 b2 b3 k4 hbg2 hbg3
    refine (made_any key driver fr to_ (endLegs l ⟨at_, st, me, fu⟩) (some ⟨g, 0, none⟩) n c' w3 hsl ⟨Hok.out.1, Hok.out.2.1, Hend.out⟩ hn).mono ?_
    rintro e w4 ⟨rfl, hg4⟩
    rw [← HEE.out]
    have hsl4 := hsl.grow0 hg4
    have hbC4 := hbC3.grown hg4 (by simp)
    have hgw4 := grow_trans hgw3 hg4
    clear hsl hbC3 hgw3 hg4
    by_cases h0 : E = 0
    · have hV : madeV key driver fr to_ (some ⟨g, 0, none⟩) n c' E = .agg #[.string key, .string driver, .int .i64 fr, .int .i64 to_, .slice (some ⟨g, 0, none⟩) n c'] := by rw [h0]; rfl
      rw [hV]
      have HV := Lib.hid hV
      clear h0 hV
      go_wp2_with (first
        | (with_reducible refine wpList_store_all rfl 36 (.tmp 4) (.tmp 27) rfl (w.heap.size + 2) _ _ [.string key, .string driver, .int .i64 fr, .int .i64 to_, .slice (some ⟨g, 0, none⟩) n c'] hbC4 rfl rfl 5 info_hr rfl rfl (by simp [Value.oneCell']) ?_
           intro w5 hb5 hg5))
      refine ret_blk_tmp (p := 4) (u := 5) (ty := 36) rfl (w.heap.size + 2) _ _ _ hb5 rfl (.int .i64 E) rfl Tryd.underlying36 rfl 5 info_hr rfl rfl ?_
      exact ⟨grow_own hgw4 hg5 hzC, some ⟨g, 0, none⟩, c', by rw [HV.out], fun _ => hsl4.grown hg5 hbC4 (by decide)⟩
    · have hV : madeV key driver fr to_ (some ⟨g, 0, none⟩) n c' E = .agg #[.string ⟨#[]⟩, .string ⟨#[]⟩, .int .i64 0, .int .i64 0, .slice none 0 0] := by unfold madeV; rw [if_neg h0]
      rw [hV]
      have HV := Lib.hid hV
      have H0 := Lib.hid h0
      clear h0 hV
      go_wp2_with (first
        | (with_reducible refine wpList_store_all rfl 36 (.tmp 4) (.tmp 27) rfl (w.heap.size + 2) _ _ [.string ⟨#[]⟩, .string ⟨#[]⟩, .int .i64 0, .int .i64 0, .slice none 0 0] hbC4 rfl rfl 5 info_hr rfl rfl (by simp [Value.oneCell']) ?_
           intro w5 hb5 hg5))
      refine ret_blk_tmp (p := 4) (u := 5) (ty := 36) rfl (w.heap.size + 2) _ _ _ hb5 rfl (.int .i64 E) rfl Tryd.underlying36 rfl 5 info_hr rfl rfl ?_
      exact ⟨grow_own hgw4 hg5 hzC, some ⟨g, 0, none⟩, c', by rw [HV.out], fun h => absurd h H0.out⟩
  · have hne : (G != 0) = true := by simpa using hG0
    have HEE := Lib.hid (show E = G by rw [HE.out]; unfold closeE; rw [if_neg (fun h => hG0 (HG.out.trans h)), HG.out])
    rw [show noHire = .agg #[.string ⟨#[]⟩, .string ⟨#[]⟩, .int .i64 0, .int .i64 0, .slice none 0 0] from rfl]
    have hN := Lib.hid hG0
    have HV := Lib.hid (show madeV key driver fr to_ none n 0 E = .agg #[.string ⟨#[]⟩, .string ⟨#[]⟩, .int .i64 0, .int .i64 0, .slice none 0 0] by unfold madeV; rw [if_neg (by rw [HEE.out]; exact hG0)])
    clear hG0
    go_wp2_with (first
      | (with_reducible refine wpList_store_all rfl 36 (.tmp 2) (.tmp 10) rfl w.heap.size _ _ [.string ⟨#[]⟩, .string ⟨#[]⟩, .int .i64 0, .int .i64 0, .slice none 0 0] hbA rfl rfl 5 info_hr rfl rfl (by simp [Value.oneCell']) ?_
         intro w2 hbA2 hg2
         have hbC2 := hbC.grown hg2 (fun h => absurd (Option.some.inj h) (by omega)))
      | (with_reducible refine wpList_store_all rfl 36 (.tmp 4) (.tmp 14) rfl (w.heap.size + 2) _ _ [.string ⟨#[]⟩, .string ⟨#[]⟩, .int .i64 0, .int .i64 0, .slice none 0 0] hbC2 rfl rfl 5 info_hr rfl rfl (by simp [Value.oneCell']) ?_
         intro w3 hb3 hg3))
    refine ret_blk_tmp (p := 4) (u := 5) (ty := 36) rfl (w.heap.size + 2) _ _ _ hb3 rfl (.int .i64 G) rfl Tryd.underlying36 rfl 5 info_hr rfl rfl ?_
    exact ⟨grow_own (grow_own hgw hg2 hzA) hg3 hzC, none, 0, by rw [HV.out, HEE.out], fun h => absurd (HEE.out.symm.trans h) hN.out⟩

end Go.Proofs.YtljnekobfjpfaaaDoor
