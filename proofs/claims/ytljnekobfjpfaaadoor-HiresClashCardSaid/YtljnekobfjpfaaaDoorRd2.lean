/- The walks of the reference's CloseOf, ExtendOf, ExchangeOf (by gen_changed.py). -/
import Derived.Test.YtljnekobfjpfaaaDoorRc
namespace Go.Proofs.YtljnekobfjpfaaaDoor
open Go.RowKit

set_option maxRecDepth 100000 in
set_option maxHeartbeats 1000000 in
theorem closeOf_any (key driver : ByteArray) (fr to_ : Int) (l : List Lg) (A : Option Addr) (n c : Nat) (w : World) (hl : SlT lgEnc 9 138 w A n l) (hok : HrOk key driver l) (hn : n ≤ 1000) (r : Rd) (hr : RdOk r) :
    Calls Tryd.prog 65 #[.agg #[.string key, .string driver, .int .i64 fr, .int .i64 to_, .slice A n c], .agg (rdCells r).toArray] w (fun e w' => w.grownBy w' none ∧
      ∃ A' c', e = .returned (.tuple #[madeV key driver fr to_ A' n c' (chE l (hireE ⟨key, driver, fr, to_, endLegs l r⟩)), .int .i64 (chE l (hireE ⟨key, driver, fr, to_, endLegs l r⟩))]) ∧ (chE l (hireE ⟨key, driver, fr, to_, endLegs l r⟩) = 0 → SlT lgEnc 9 138 w' A' n (endLegs l r))) := by
  have HC := Lib.hid (fun w hl rb hR => changedClose_any key driver fr to_ l A n c w hl hok hn rb r hr hR)
  obtain ⟨E, hE⟩ : ∃ E, E = chE l (hireE ⟨key, driver, fr, to_, endLegs l r⟩) := ⟨_, rfl⟩
  rw [← hE] at HC ⊢
  clear hE hok
  obtain ⟨ra, rs, rm, rf⟩ := r
  show Calls Tryd.prog 65 #[.agg #[.string key, .string driver, .int .i64 fr, .int .i64 to_, .slice A n c], .agg #[.int .i64 ra, .string rs, .int .i64 rm, .int .i64 rf]] w _
  go_enter Tryd.func65, Tryd.ntmps65
  go_wp2_with fail
  refine (HC.out _ (((hl.alloc _).alloc _).alloc _) (w.heap.size + 1) ((Blk.at_ (w.alloc _) (by simp) _ _).alloc _)).mono ?_
  rintro e w1 ⟨hg1, A1, c1, rfl, hs1⟩
  have hC1 : Blk w1 (w.heap.size + 2) 36 [.string ⟨#[]⟩, .string ⟨#[]⟩, .int .i64 0, .int .i64 0, .slice none 0 0] := (Blk.at_ ((w.alloc _).alloc _) (by simp) _ _).grown hg1 (by simp)
  have hw1 : w.grownBy w1 none := grow_trans (grow_alloc (grow_alloc (grow_alloc (World.grownBy.refl _ _) _) _) _) hg1
  have hz : ∀ k, some (w.heap.size + 2) = some k → w.heap.size ≤ k := fun k h => by cases h; omega
  clear hg1
  by_cases h0 : E = 0
  · have hV : madeV key driver fr to_ A1 n c1 E = .agg #[.string key, .string driver, .int .i64 fr, .int .i64 (to_), .slice A1 (n) c1] := by rw [h0]; rfl
    have hsl := hs1 h0
    rw [hV]
    have HV := Lib.hid hV
    clear h0 hV hs1
    go_wp2_with (with_reducible refine wpList_store_all rfl 36 (.tmp 4) (.tmp 9) rfl (w.heap.size + 2) _ _ [.string key, .string driver, .int .i64 fr, .int .i64 (to_), .slice A1 (n) c1] hC1 rfl rfl 5 info_hr rfl rfl (by simp [Value.oneCell']) ?_
                 intro w6 hb6 hg6)
    refine ret_blk_tmp (p := 4) (u := 5) (ty := 36) rfl (w.heap.size + 2) _ _ _ hb6 rfl (.int .i64 E) rfl Tryd.underlying36 rfl 5 info_hr rfl rfl ?_
    exact ⟨grow_own hw1 hg6 hz, A1, c1, by rw [HV.out], fun _ => hsl.grown hg6 hC1 (by decide)⟩
  · have hV : madeV key driver fr to_ A1 n c1 E = .agg #[.string ⟨#[]⟩, .string ⟨#[]⟩, .int .i64 0, .int .i64 0, .slice none 0 0] := by unfold madeV; rw [if_neg h0]
    rw [hV]
    have HV := Lib.hid hV
    have H0 := Lib.hid h0
    clear h0 hV hs1
    go_wp2_with (with_reducible refine wpList_store_all rfl 36 (.tmp 4) (.tmp 9) rfl (w.heap.size + 2) _ _ [.string ⟨#[]⟩, .string ⟨#[]⟩, .int .i64 0, .int .i64 0, .slice none 0 0] hC1 rfl rfl 5 info_hr rfl rfl (by simp [Value.oneCell']) ?_
                 intro w6 hb6 hg6)
    refine ret_blk_tmp (p := 4) (u := 5) (ty := 36) rfl (w.heap.size + 2) _ _ _ hb6 rfl (.int .i64 E) rfl Tryd.underlying36 rfl 5 info_hr rfl rfl ?_
    exact ⟨grow_own hw1 hg6 hz, A1, c1, by rw [HV.out], fun h => absurd h H0.out⟩

set_option maxRecDepth 100000 in
set_option maxHeartbeats 1000000 in
theorem extendOf_any (key driver : ByteArray) (fr to_ : Int) (l : List Lg) (A : Option Addr) (n c : Nat) (w : World) (hl : SlT lgEnc 9 138 w A n l) (hok : HrOk key driver l) (hn : n ≤ 1000) (to2 : Int) :
    Calls Tryd.prog 64 #[.agg #[.string key, .string driver, .int .i64 fr, .int .i64 to_, .slice A n c], .int .i64 to2] w (fun e w' => w.grownBy w' none ∧
      ∃ A' c', e = .returned (.tuple #[madeV key driver fr to2 A' n c' (chE l (hireE ⟨key, driver, fr, to2, l⟩)), .int .i64 (chE l (hireE ⟨key, driver, fr, to2, l⟩))]) ∧ (chE l (hireE ⟨key, driver, fr, to2, l⟩) = 0 → SlT lgEnc 9 138 w' A' n (l))) := by
  have HC := Lib.hid (fun w hl tb hT => changedExtend_any key driver fr to_ l A n c w hl hok hn tb to2 hT)
  obtain ⟨E, hE⟩ : ∃ E, E = chE l (hireE ⟨key, driver, fr, to2, l⟩) := ⟨_, rfl⟩
  rw [← hE] at HC ⊢
  clear hE hok
  go_enter Tryd.func64, Tryd.ntmps64
  go_wp2_with fail
  refine (HC.out _ (((hl.alloc _).alloc _).alloc _) (w.heap.size + 1) ((Blk.at_ (w.alloc _) (by simp) _ _).alloc _)).mono ?_
  rintro e w1 ⟨hg1, A1, c1, rfl, hs1⟩
  have hC1 : Blk w1 (w.heap.size + 2) 36 [.string ⟨#[]⟩, .string ⟨#[]⟩, .int .i64 0, .int .i64 0, .slice none 0 0] := (Blk.at_ ((w.alloc _).alloc _) (by simp) _ _).grown hg1 (by simp)
  have hw1 : w.grownBy w1 none := grow_trans (grow_alloc (grow_alloc (grow_alloc (World.grownBy.refl _ _) _) _) _) hg1
  have hz : ∀ k, some (w.heap.size + 2) = some k → w.heap.size ≤ k := fun k h => by cases h; omega
  clear hg1
  by_cases h0 : E = 0
  · have hV : madeV key driver fr to2 A1 n c1 E = .agg #[.string key, .string driver, .int .i64 fr, .int .i64 (to2), .slice A1 (n) c1] := by rw [h0]; rfl
    have hsl := hs1 h0
    rw [hV]
    have HV := Lib.hid hV
    clear h0 hV hs1
    go_wp2_with (with_reducible refine wpList_store_all rfl 36 (.tmp 4) (.tmp 9) rfl (w.heap.size + 2) _ _ [.string key, .string driver, .int .i64 fr, .int .i64 (to2), .slice A1 (n) c1] hC1 rfl rfl 5 info_hr rfl rfl (by simp [Value.oneCell']) ?_
                 intro w6 hb6 hg6)
    refine ret_blk_tmp (p := 4) (u := 5) (ty := 36) rfl (w.heap.size + 2) _ _ _ hb6 rfl (.int .i64 E) rfl Tryd.underlying36 rfl 5 info_hr rfl rfl ?_
    exact ⟨grow_own hw1 hg6 hz, A1, c1, by rw [HV.out], fun _ => hsl.grown hg6 hC1 (by decide)⟩
  · have hV : madeV key driver fr to2 A1 n c1 E = .agg #[.string ⟨#[]⟩, .string ⟨#[]⟩, .int .i64 0, .int .i64 0, .slice none 0 0] := by unfold madeV; rw [if_neg h0]
    rw [hV]
    have HV := Lib.hid hV
    have H0 := Lib.hid h0
    clear h0 hV hs1
    go_wp2_with (with_reducible refine wpList_store_all rfl 36 (.tmp 4) (.tmp 9) rfl (w.heap.size + 2) _ _ [.string ⟨#[]⟩, .string ⟨#[]⟩, .int .i64 0, .int .i64 0, .slice none 0 0] hC1 rfl rfl 5 info_hr rfl rfl (by simp [Value.oneCell']) ?_
                 intro w6 hb6 hg6)
    refine ret_blk_tmp (p := 4) (u := 5) (ty := 36) rfl (w.heap.size + 2) _ _ _ hb6 rfl (.int .i64 E) rfl Tryd.underlying36 rfl 5 info_hr rfl rfl ?_
    exact ⟨grow_own hw1 hg6 hz, A1, c1, by rw [HV.out], fun h => absurd h H0.out⟩

set_option maxRecDepth 100000 in
set_option maxHeartbeats 1000000 in
theorem exchangeOf_any (key driver : ByteArray) (fr to_ : Int) (l : List Lg) (A : Option Addr) (n c : Nat) (w : World) (hl : SlT lgEnc 9 138 w A n l) (hok : HrOk key driver l) (hn : n ≤ 1000) (veh : ByteArray) (r q : Rd) (hv : veh.size ≤ 1000000) (hr : RdOk r) (hq : RdOk q) :
    Calls Tryd.prog 63 #[.agg #[.string key, .string driver, .int .i64 fr, .int .i64 to_, .slice A n c], .agg (rdCells r).toArray, .string veh, .agg (rdCells q).toArray] w (fun e w' => w.grownBy w' none ∧
      ∃ A' c', e = .returned (.tuple #[madeV key driver fr to_ A' (n + 1) c' (chE l (hireE ⟨key, driver, fr, to_, exchLegs l r veh q⟩)), .int .i64 (chE l (hireE ⟨key, driver, fr, to_, exchLegs l r veh q⟩))]) ∧ (chE l (hireE ⟨key, driver, fr, to_, exchLegs l r veh q⟩) = 0 → SlT lgEnc 9 138 w' A' (n + 1) (exchLegs l r veh q))) := by
  have HC := Lib.hid (fun w hl ib vb ob hI hV hO => changedExchange_any key driver fr to_ l A n c w hl hok hn ib vb ob veh r q hv hr hq hI hV hO)
  obtain ⟨E, hE⟩ : ∃ E, E = chE l (hireE ⟨key, driver, fr, to_, exchLegs l r veh q⟩) := ⟨_, rfl⟩
  rw [← hE] at HC ⊢
  clear hE hok
  obtain ⟨ra, rs, rm, rf⟩ := r
  obtain ⟨qa, qs, qm, qf⟩ := q
  show Calls Tryd.prog 63 #[.agg #[.string key, .string driver, .int .i64 fr, .int .i64 to_, .slice A n c], .agg #[.int .i64 ra, .string rs, .int .i64 rm, .int .i64 rf], .string veh, .agg #[.int .i64 qa, .string qs, .int .i64 qm, .int .i64 qf]] w _
  go_enter Tryd.func63, Tryd.ntmps63
  go_wp2_with fail
  refine (HC.out _ (((((hl.alloc _).alloc _).alloc _).alloc _).alloc _) (w.heap.size + 1) (w.heap.size + 2) (w.heap.size + 3) ((((Blk.at_ (w.alloc _) (by simp) _ _).alloc _).alloc _).alloc _) (((Blk.at_ ((w.alloc _).alloc _) (by simp) _ _).alloc _).alloc _) ((Blk.at_ (((w.alloc _).alloc _).alloc _) (by simp) _ _).alloc _)).mono ?_
  rintro e w1 ⟨hg1, A1, c1, rfl, hs1⟩
  have hC1 : Blk w1 (w.heap.size + 4) 36 [.string ⟨#[]⟩, .string ⟨#[]⟩, .int .i64 0, .int .i64 0, .slice none 0 0] := (Blk.at_ ((((w.alloc _).alloc _).alloc _).alloc _) (by simp) _ _).grown hg1 (by simp)
  have hw1 : w.grownBy w1 none := grow_trans (grow_alloc (grow_alloc (grow_alloc (grow_alloc (grow_alloc (World.grownBy.refl _ _) _) _) _) _) _) hg1
  have hz : ∀ k, some (w.heap.size + 4) = some k → w.heap.size ≤ k := fun k h => by cases h; omega
  clear hg1
  by_cases h0 : E = 0
  · have hV : madeV key driver fr to_ A1 (n + 1) c1 E = .agg #[.string key, .string driver, .int .i64 fr, .int .i64 (to_), .slice A1 ((n + 1)) c1] := by rw [h0]; rfl
    have hsl := hs1 h0
    rw [hV]
    have HV := Lib.hid hV
    clear h0 hV hs1
    go_wp2_with (with_reducible refine wpList_store_all rfl 36 (.tmp 8) (.tmp 13) rfl (w.heap.size + 4) _ _ [.string key, .string driver, .int .i64 fr, .int .i64 (to_), .slice A1 ((n + 1)) c1] hC1 rfl rfl 5 info_hr rfl rfl (by simp [Value.oneCell']) ?_
                 intro w6 hb6 hg6)
    refine ret_blk_tmp (p := 8) (u := 9) (ty := 36) rfl (w.heap.size + 4) _ _ _ hb6 rfl (.int .i64 E) rfl Tryd.underlying36 rfl 5 info_hr rfl rfl ?_
    exact ⟨grow_own hw1 hg6 hz, A1, c1, by rw [HV.out], fun _ => hsl.grown hg6 hC1 (by decide)⟩
  · have hV : madeV key driver fr to_ A1 (n + 1) c1 E = .agg #[.string ⟨#[]⟩, .string ⟨#[]⟩, .int .i64 0, .int .i64 0, .slice none 0 0] := by unfold madeV; rw [if_neg h0]
    rw [hV]
    have HV := Lib.hid hV
    have H0 := Lib.hid h0
    clear h0 hV hs1
    go_wp2_with (with_reducible refine wpList_store_all rfl 36 (.tmp 8) (.tmp 13) rfl (w.heap.size + 4) _ _ [.string ⟨#[]⟩, .string ⟨#[]⟩, .int .i64 0, .int .i64 0, .slice none 0 0] hC1 rfl rfl 5 info_hr rfl rfl (by simp [Value.oneCell']) ?_
                 intro w6 hb6 hg6)
    refine ret_blk_tmp (p := 8) (u := 9) (ty := 36) rfl (w.heap.size + 4) _ _ _ hb6 rfl (.int .i64 E) rfl Tryd.underlying36 rfl 5 info_hr rfl rfl ?_
    exact ⟨grow_own hw1 hg6 hz, A1, c1, by rw [HV.out], fun h => absurd h H0.out⟩

end Go.Proofs.YtljnekobfjpfaaaDoor
