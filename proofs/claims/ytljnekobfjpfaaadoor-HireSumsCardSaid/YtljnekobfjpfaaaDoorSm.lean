/- The walk of the law HireSums. -/
import Derived.Test.YtljnekobfjpfaaaDoorHl
import Derived.Test.YtljnekobfjpfaaaDoorGd
import Derived.Test.YtljnekobfjpfaaaDoorGk
import Derived.Test.YtljnekobfjpfaaaDoorRun
import Derived.Test.YtljnekobfjpfaaaDoorAr
import Derived.Test.YtljnekobfjpfaaaDoorEq
namespace Go.Proofs.YtljnekobfjpfaaaDoor
open Go.RowKit

theorem errs_kept {TS : TypeId} {Tt : List TypeId} {w0 w : World} {B sb m : Nat} {L : List (Nat × TypeId × List Value)} {X : World → Prop} (I : Kept TS Tt w0 B sb m L X w) (a b : Int) (T : TypeId) (c : Nat) :
    Calls Tryd.prog 27 #[.slice (some ⟨w.heap.size, 0, none⟩) 2 c] (w.alloc (.cells #[.int .i64 a, .int .i64 b] T)) (fun e w' => e = .returned (.int .i64 (firstE [a, b])) ∧ Kept TS Tt w0 B sb m L X w') :=
  (errs_any [a, b] w.heap.size c T _ (Blk.at_ _ rfl _ _) (by simp)).mono fun _ _ ⟨h1, h2⟩ => ⟨h1, h2 ▸ I.alloc' _⟩
theorem Kept.putT {TS : TypeId} {Tt : List TypeId} {w0 w : World} {B sb m g : Nat} {T : TypeId} {cs : List Value} {L : List (Nat × TypeId × List Value)} {X : World → Prop} (h : Kept TS Tt w0 B sb m ((g, T, cs) :: L) X w) (hT : T ∉ Tt) (i : Nat) (v : Value) : Kept TS Tt w0 B sb m ((g, T, cs.set i v) :: L) X (w.setCell ⟨g, i, none⟩ v) := by
  have hnd := List.pairwise_cons.1 h.nd
  refine h.stored (g := g) (List.mem_cons_self ..) hT (grow_setCell (World.grownBy.refl _ _) (.inl rfl) _) ((h.blk (List.mem_cons_self ..)).set_ i v) (fun x hx => ?_) (List.Pairwise.cons hnd.1 hnd.2)
  rcases List.mem_cons.1 hx with rfl | hx
  · exact .inl rfl
  · exact .inr ⟨List.mem_cons_of_mem _ hx, fun e => hnd.1 x hx e.symm⟩
theorem closedE_first (h : Hr) : firstE [hireE h, whenE (openB h.legs) 11] = closedE h := by
  unfold closedE
  by_cases h0 : hireE h = 0
  · rw [if_pos h0, h0, firstE_zero]
  · simp [firstE, h0]

set_option maxRecDepth 100000 in
set_option maxHeartbeats 4000000 in
theorem sums_walk (a0 : Option Addr) (len0 cap0 : Nat) (z0 : List Int) (w : World) (w0 : RowIn w a0 len0 cap0 z0) :
    Calls Tryd.prog 9 #[.slice a0 len0 cap0] w fun e w' => e = .returned (.bool true) ∧ Below w.heap.size w w' := by
  have hS := Strm.start (TS := 25) w0
  clear w0
  go_enter Tryd.func9, Tryd.ntmps9
  go_wp2_with fail
  refine (deal_any _ w.heap.size w.heap.size _ hS (by omega)).mono ?_
  rintro e w2 ⟨⟨da, db, dc, dd, df, dg, dh⟩, rfl, hS2, hg2⟩
  have I := (Kept.start (Tt := [138]) hS (by decide)).strm hS2 hg2
  rw [show (dlCells ⟨da, db, dc, dd, df, dg, dh⟩).toArray = #[.int .i64 da, .int .i64 db, .int .i64 dc, .int .i64 dd, .int .i64 df, .int .i64 dg, .int .i64 dh] from rfl]
  clear hS hS2 hg2
  go_wp2_with fail
  refine (ghire_any _ w.heap.size w.heap.size _ I.s (by omega)).mono ?_
  rintro e w3 ⟨k, d, f, t, A, n, c, l, rfl, hsl, hok, hn4, hS3, hg3⟩
  have I2 := (I.strm hS3 hg3).only (SlT.lasts (List.mem_singleton.2 rfl)) hsl
  have Hok := Lib.hid hok
  clear I hok hS3 hg3 hsl
  have I := I2
  clear I2
  go_upto_region 3 with fail
  have I2 := I.alloc2 90 [.int .i64 da, .int .i64 db, .int .i64 dc, .int .i64 dd, .int .i64 df, .int .i64 dg, .int .i64 dh] 36 [.string k, .string d, .int .i64 f, .int .i64 t, .slice A n c]
  obtain ⟨Db, hDb⟩ : ∃ Db, Db = w3.heap.size := ⟨_, rfl⟩
  obtain ⟨Hb, hHb⟩ : ∃ Hb, Hb = w3.heap.size + 1 := ⟨_, rfl⟩
  obtain ⟨wa, hwa⟩ : ∃ wa, wa = (w3.alloc (.cells #[.int .i64 da, .int .i64 db, .int .i64 dc, .int .i64 dd, .int .i64 df, .int .i64 dg, .int .i64 dh] 90)).alloc (.cells #[.string k, .string d, .int .i64 f, .int .i64 t, .slice A n c] 36) := ⟨_, rfl⟩
  rw [← hwa, ← hHb, ← hDb]
  rw [show ((w3.alloc (.cells [Value.int .i64 da, .int .i64 db, .int .i64 dc, .int .i64 dd, .int .i64 df, .int .i64 dg, .int .i64 dh].toArray 90)).alloc (.cells [Value.string k, .string d, .int .i64 f, .int .i64 t, .slice A n c].toArray 36)) = wa from hwa.symm, ← hHb, ← hDb] at I2
  clear I hwa hDb hHb
  have I := I2
  clear I2
  obtain ⟨CE, hCE⟩ : ∃ CE, closedE ⟨k, d, f, t, l⟩ = CE := ⟨_, rfl⟩
  obtain ⟨HE, hHE⟩ : ∃ HE, hireE ⟨k, d, f, t, l⟩ = HE := ⟨_, rfl⟩
  obtain ⟨DE, hDE⟩ : ∃ DE, dealE ⟨da, db, dc, dd, df, dg, dh⟩ = DE := ⟨_, rfl⟩
  obtain ⟨LE, hLE⟩ : ∃ LE, lateE ⟨da, db, dc, dd, df, dg, dh⟩ ⟨k, d, f, t, l⟩ = LE := ⟨_, rfl⟩
  obtain ⟨O, hO⟩ : ∃ O, openB l = O := ⟨_, rfl⟩
  obtain ⟨WO, hWO⟩ : ∃ WO, whenE O 11 = WO := ⟨_, rfl⟩
  obtain ⟨V1, hV1⟩ : ∃ V1, (if CE = 0 then sumBy kmOf l else 0) = V1 := ⟨_, rfl⟩
  obtain ⟨V2, hV2⟩ : ∃ V2, (if CE = 0 then sumBy missOf l else 0) = V2 := ⟨_, rfl⟩
  obtain ⟨V3, hV3⟩ : ∃ V3, (if LE = 0 then lateN t l else 0) = V3 := ⟨_, rfl⟩
  obtain ⟨V4, hV4⟩ : ∃ V4, (if LE = 0 then lateC dd df dg (lateN t l) else 0) = V4 := ⟨_, rfl⟩
  have C1 := Lib.hid (fun w hl => (by rw [← hV1, ← hCE]; exact kmF_any k d f t l A n c w hl Hok.out (by omega) : Calls Tryd.prog 75 #[.agg #[.string k, .string d, .int .i64 f, .int .i64 t, .slice A n c]] w (RetIE w V1 CE)))
  have C2 := Lib.hid (fun w hl => (by rw [← hV2, ← hCE]; exact missingF_any k d f t l A n c w hl Hok.out (by omega) : Calls Tryd.prog 76 #[.agg #[.string k, .string d, .int .i64 f, .int .i64 t, .slice A n c]] w (RetIE w V2 CE)))
  have C3 := Lib.hid (fun w hl => (by rw [← hV3, ← hV4, ← hLE]; exact lateF_any ⟨da, db, dc, dd, df, dg, dh⟩ k d f t l A n c w hl Hok.out (by omega) : Calls Tryd.prog 77 #[.agg #[.int .i64 da, .int .i64 db, .int .i64 dc, .int .i64 dd, .int .i64 df, .int .i64 dg, .int .i64 dh], .agg #[.string k, .string d, .int .i64 f, .int .i64 t, .slice A n c]] w (RetIIE w V3 V4 LE)))
  have C4 := Lib.hid (fun w hl => (by rw [← hO]; exact isOpen_any k d f t l A n c w hl (by omega) : Calls Tryd.prog 66 #[.agg #[.string k, .string d, .int .i64 f, .int .i64 t, .slice A n c]] w (fun e w' => e = .returned (.bool O) ∧ w.grownBy w' none)))
  have C5 := Lib.hid (fun w hl => (by rw [← hHE]; exact hireFault_any k d f t l A n c w hl Hok.out (by omega) : Calls Tryd.prog 56 #[.agg #[.string k, .string d, .int .i64 f, .int .i64 t, .slice A n c]] w (GotE w HE)))
  have C6 := Lib.hid (fun w => (by rw [← hDE]; exact dealFault_any ⟨da, db, dc, dd, df, dg, dh⟩ w : Calls Tryd.prog 58 #[.agg #[.int .i64 da, .int .i64 db, .int .i64 dc, .int .i64 dd, .int .i64 df, .int .i64 dg, .int .i64 dh]] w (fun e w' => e = .returned (.int .i64 DE) ∧ w.grownBy w' none)))
  have K3 := Lib.hid (fun (h : LE = 0) w hl => (by
    have h2 := firstE_two (show firstE [dealE ⟨da, db, dc, dd, df, dg, dh⟩, closedE ⟨k, d, f, t, l⟩] = 0 from hLE.trans h)
    have hcl := closedE_ok h2.2
    have hdl := dealE_ok h2.1
    have hho := hireE_ok hcl.1
    have hto := timeE_ok hho.1
    have hcn := closed_num hcl.1 hcl.2
    rw [← hV3, ← hV4, if_pos h, if_pos h]
    exact lateOf_any ⟨da, db, dc, dd, df, dg, dh⟩ k d f t l A n c w hl (by have := hho.2.1; have := hl.len; omega) (by omega) (fun g hg => (hcn g (List.mem_of_getElem? hg)).2) ⟨by omega, hto.2.2.1⟩ hdl.2.2.2.2.1 hdl.2.2.2.2.2.1 : Calls Tryd.prog 80 #[.agg #[.int .i64 da, .int .i64 db, .int .i64 dc, .int .i64 dd, .int .i64 df, .int .i64 dg, .int .i64 dh], .agg #[.string k, .string d, .int .i64 f, .int .i64 t, .slice A n c]] w (RetII w V3 V4)))
  have K1 := Lib.hid (fun (h : CE = 0) w hl => (by rw [← hV1, if_pos h]; exact kmOf_any k d f t l A n c w hl (fun g hg => (closed_num (closedE_ok (hCE.trans h)).1 (closedE_ok (hCE.trans h)).2 g hg).1) (by omega) : Calls Tryd.prog 78 #[.agg #[.string k, .string d, .int .i64 f, .int .i64 t, .slice A n c]] w (GotE w V1)))
  have K2 := Lib.hid (fun (h : CE = 0) w hl => (by rw [← hV2, if_pos h]; exact missingOf_any k d f t l A n c w hl (fun g hg => (closed_num (closedE_ok (hCE.trans h)).1 (closedE_ok (hCE.trans h)).2 g hg).1) (by omega) : Calls Tryd.prog 79 #[.agg #[.string k, .string d, .int .i64 f, .int .i64 t, .slice A n c]] w (GotE w V2)))
  have HW := Lib.hid (fun w => (by rw [← hWO]; exact rwhen_any O 11 w : Calls Tryd.prog 29 #[.bool O, .int .i64 11] w (fun r w' => r = .returned (.int .i64 WO) ∧ w = w')))
  have HOne := Lib.hid (show firstE [HE, WO] = CE by rw [← hHE, ← hWO, ← hO, ← hCE]; exact closedE_first _)
  have HTwo := Lib.hid (show firstE [DE, CE] = LE by rw [← hDE, ← hCE, ← hLE]; rfl)
  have HV1 := Lib.hid (fun (h : CE ≠ 0) => (show V1 = 0 by rw [← hV1, if_neg h]))
  have HV2 := Lib.hid (fun (h : CE ≠ 0) => (show V2 = 0 by rw [← hV2, if_neg h]))
  have HV3 := Lib.hid (fun (h : CE ≠ 0) => (show V3 = 0 by rw [← hV3, if_neg (fun h2 => h (firstE_two (HTwo.out.trans h2)).2)]))
  have HV4 := Lib.hid (fun (h : CE ≠ 0) => (show V4 = 0 by rw [← hV4, if_neg (fun h2 => h (firstE_two (HTwo.out.trans h2)).2)]))
  have HV3' := Lib.hid (fun (h : LE ≠ 0) => (show V3 = 0 by rw [← hV3, if_neg h]))
  have HV4' := Lib.hid (fun (h : LE ≠ 0) => (show V4 = 0 by rw [← hV4, if_neg h]))
  clear hCE hHE hDE hLE hO hWO hV1 hV2 hV3 hV4
  have hbD := I.blk (g := Db) (by repeat (first | exact List.mem_cons_self .. | apply List.mem_cons_of_mem))
  have hbH := I.blk (g := Hb) (by repeat (first | exact List.mem_cons_self .. | apply List.mem_cons_of_mem))
  go_wp2_with (first
    | (with_reducible refine wpList_load_all rfl 90 (.tmp 4) rfl Db _ _ _ hbD rfl Tryd.underlying90 rfl 7 info_dl rfl ?_)
    | (with_reducible refine wpList_load_all rfl 36 (.tmp 5) rfl Hb _ _ _ hbH rfl Tryd.underlying36 rfl 5 info_hr rfl ?_))
  refine (C1.out _ I.x).mono ?_
  rintro e w9 ⟨rfl, hg⟩
  have I2 := I.grow0 hg
  clear I hg hbD hbH
  have I := I2
  clear I2
  have hbD := I.blk (g := Db) (by repeat (first | exact List.mem_cons_self .. | apply List.mem_cons_of_mem))
  have hbH := I.blk (g := Hb) (by repeat (first | exact List.mem_cons_self .. | apply List.mem_cons_of_mem))
  go_wp2_with (first
    | (with_reducible refine wpList_load_all rfl 90 (.tmp 4) rfl Db _ _ _ hbD rfl Tryd.underlying90 rfl 7 info_dl rfl ?_)
    | (with_reducible refine wpList_load_all rfl 36 (.tmp 5) rfl Hb _ _ _ hbH rfl Tryd.underlying36 rfl 5 info_hr rfl ?_))
  refine (C2.out _ I.x).mono ?_
  rintro e w9 ⟨rfl, hg⟩
  have I2 := I.grow0 hg
  clear I hg hbD hbH
  have I := I2
  clear I2
  have hbD := I.blk (g := Db) (by repeat (first | exact List.mem_cons_self .. | apply List.mem_cons_of_mem))
  have hbH := I.blk (g := Hb) (by repeat (first | exact List.mem_cons_self .. | apply List.mem_cons_of_mem))
  go_wp2_with (first
    | (with_reducible refine wpList_load_all rfl 90 (.tmp 4) rfl Db _ _ _ hbD rfl Tryd.underlying90 rfl 7 info_dl rfl ?_)
    | (with_reducible refine wpList_load_all rfl 36 (.tmp 5) rfl Hb _ _ _ hbH rfl Tryd.underlying36 rfl 5 info_hr rfl ?_))
  refine (C3.out _ I.x).mono ?_
  rintro e w9 ⟨rfl, hg⟩
  have I2 := I.grow0 hg
  clear I hg hbD hbH
  have I := I2
  clear I2
  have hbD := I.blk (g := Db) (by repeat (first | exact List.mem_cons_self .. | apply List.mem_cons_of_mem))
  have hbH := I.blk (g := Hb) (by repeat (first | exact List.mem_cons_self .. | apply List.mem_cons_of_mem))
  go_wp2_with (first
    | (with_reducible refine wpList_load_all rfl 90 (.tmp 4) rfl Db _ _ _ hbD rfl Tryd.underlying90 rfl 7 info_dl rfl ?_)
    | (with_reducible refine wpList_load_all rfl 36 (.tmp 5) rfl Hb _ _ _ hbH rfl Tryd.underlying36 rfl 5 info_hr rfl ?_))
  refine (C4.out _ I.x).mono ?_
  rintro e w9 ⟨rfl, hg⟩
  have I2 := I.grow0 hg
  clear I hg hbD hbH
  have I := I2
  clear I2
  have hbD := I.blk (g := Db) (by repeat (first | exact List.mem_cons_self .. | apply List.mem_cons_of_mem))
  have hbH := I.blk (g := Hb) (by repeat (first | exact List.mem_cons_self .. | apply List.mem_cons_of_mem))
  go_wp2_with (first
    | (with_reducible refine wpList_load_all rfl 90 (.tmp 4) rfl Db _ _ _ hbD rfl Tryd.underlying90 rfl 7 info_dl rfl ?_)
    | (with_reducible refine wpList_load_all rfl 36 (.tmp 5) rfl Hb _ _ _ hbH rfl Tryd.underlying36 rfl 5 info_hr rfl ?_))
  refine (HW.out _).mono ?_
  rintro e w9 ⟨rfl, rfl⟩
  go_wp2_with (first
    | (with_reducible refine wpList_load_all rfl 90 (.tmp 4) rfl Db _ _ _ hbD rfl Tryd.underlying90 rfl 7 info_dl rfl ?_)
    | (with_reducible refine wpList_load_all rfl 36 (.tmp 5) rfl Hb _ _ _ hbH rfl Tryd.underlying36 rfl 5 info_hr rfl ?_))
  refine (C5.out _ I.x).mono ?_
  rintro e w9 ⟨rfl, hg⟩
  have I2 := I.grow0 hg
  clear I hg hbD hbH
  have I := I2
  clear I2
  have hbD := I.blk (g := Db) (by repeat (first | exact List.mem_cons_self .. | apply List.mem_cons_of_mem))
  have hbH := I.blk (g := Hb) (by repeat (first | exact List.mem_cons_self .. | apply List.mem_cons_of_mem))
  go_wp2_with (first
    | (with_reducible refine wpList_load_all rfl 90 (.tmp 4) rfl Db _ _ _ hbD rfl Tryd.underlying90 rfl 7 info_dl rfl ?_)
    | (with_reducible refine wpList_load_all rfl 36 (.tmp 5) rfl Hb _ _ _ hbH rfl Tryd.underlying36 rfl 5 info_hr rfl ?_))
  refine (errs_kept I HE WO _ _).mono ?_
  rintro e w9 ⟨rfl, I2⟩
  rw [HOne.out]
  clear I hbD hbH
  have I := I2
  clear I2
  have hbD := I.blk (g := Db) (by repeat (first | exact List.mem_cons_self .. | apply List.mem_cons_of_mem))
  have hbH := I.blk (g := Hb) (by repeat (first | exact List.mem_cons_self .. | apply List.mem_cons_of_mem))
  go_wp2_with (first
    | (with_reducible refine wpList_load_all rfl 90 (.tmp 4) rfl Db _ _ _ hbD rfl Tryd.underlying90 rfl 7 info_dl rfl ?_)
    | (with_reducible refine wpList_load_all rfl 36 (.tmp 5) rfl Hb _ _ _ hbH rfl Tryd.underlying36 rfl 5 info_hr rfl ?_))
  refine (C6.out _).mono ?_
  rintro e w9 ⟨rfl, hg⟩
  have I2 := I.grow0 hg
  clear I hg hbD hbH
  have I := I2
  clear I2
  have hbD := I.blk (g := Db) (by repeat (first | exact List.mem_cons_self .. | apply List.mem_cons_of_mem))
  have hbH := I.blk (g := Hb) (by repeat (first | exact List.mem_cons_self .. | apply List.mem_cons_of_mem))
  go_wp2_with (first
    | (with_reducible refine wpList_load_all rfl 90 (.tmp 4) rfl Db _ _ _ hbD rfl Tryd.underlying90 rfl 7 info_dl rfl ?_)
    | (with_reducible refine wpList_load_all rfl 36 (.tmp 5) rfl Hb _ _ _ hbH rfl Tryd.underlying36 rfl 5 info_hr rfl ?_))
  refine (errs_kept I DE CE _ _).mono ?_
  rintro e w9 ⟨rfl, I2⟩
  rw [HTwo.out]
  clear I hbD hbH
  have I := I2
  clear I2
  have hbD := I.blk (g := Db) (by repeat (first | exact List.mem_cons_self .. | apply List.mem_cons_of_mem))
  have hbH := I.blk (g := Hb) (by repeat (first | exact List.mem_cons_self .. | apply List.mem_cons_of_mem))
  by_cases h0 : CE = 0
  · have HK1 := Lib.hid (K1.out h0)
    have HK2 := Lib.hid (K2.out h0)
    subst h0
    clear K1 K2 HV1 HV2 HV3 HV4
    go_upto_region 13 with (first
      | (with_reducible refine wpList_load_all rfl 90 (.tmp 4) rfl Db _ _ _ hbD rfl Tryd.underlying90 rfl 7 info_dl rfl ?_)
      | (with_reducible refine wpList_load_all rfl 36 (.tmp 5) rfl Hb _ _ _ hbH rfl Tryd.underlying36 rfl 5 info_hr rfl ?_))
    have I2 := I.alloc 114 [.int .i64 0, .int .i64 0, .int .i64 0, .int .i64 0]
    obtain ⟨Wb, hWb⟩ : ∃ Wb, Wb = w9.heap.size := ⟨_, rfl⟩
    obtain ⟨wa, hwa⟩ : ∃ wa, wa = w9.alloc (.cells #[.int .i64 0, .int .i64 0, .int .i64 0, .int .i64 0] 114) := ⟨_, rfl⟩
    rw [← hwa, ← hWb]
    rw [show (w9.alloc (.cells [Value.int .i64 0, .int .i64 0, .int .i64 0, .int .i64 0].toArray 114)) = wa from hwa.symm, ← hWb] at I2
    clear I hbD hbH hwa hWb
    have I := I2
    clear I2
    have hne : Hb ≠ Wb := fun e => (List.pairwise_cons.1 I.nd).1 _ (by repeat (first | exact List.mem_cons_self .. | apply List.mem_cons_of_mem)) e.symm
    have mk := fun (wx : World) (hH : Blk wx Hb 36 [.string k, .string d, .int .i64 f, .int .i64 t, .slice A n c]) =>
      And.intro (hH.cell_of (i := 0) (v := .string k) rfl) (And.intro (hH.cell_of (i := 1) (v := .string d) rfl) (And.intro (hH.cell_of (i := 2) (v := .int .i64 f) rfl) (And.intro (hH.cell_of (i := 3) (v := .int .i64 t) rfl) (hH.cell_of (i := 4) (v := .slice A n c) rfl))))
    have Mk := Lib.hid mk
    have HNE := Lib.hid hne
    clear mk hne
    go_cut [70, 72] (fun a b wx => a = .int .i64 V1 ∧ b = .int .i64 V2 ∧ ∃ m, m ≤ 1000000 ∧ Kept 25 [138] (w.alloc (.cells #[.slice a0 len0 cap0, .int .i64 0] 25)) w.heap.size w.heap.size m [(Wb, 114, [.int .i64 V1, .int .i64 V2, .int .i64 0, .int .i64 0]), (Hb, 36, [.string k, .string d, .int .i64 f, .int .i64 t, .slice A n c]), (Db, 90, [.int .i64 da, .int .i64 db, .int .i64 dc, .int .i64 dd, .int .i64 df, .int .i64 dg, .int .i64 dh])] (fun w => SlT lgEnc 9 138 w A n l) wx)
    case first =>
      go_region_held3 (fun wx => wx.cell? ⟨Hb, 0, none⟩ = some (.string k) ∧ wx.cell? ⟨Hb, 1, none⟩ = some (.string d) ∧ wx.cell? ⟨Hb, 2, none⟩ = some (.int .i64 f) ∧ wx.cell? ⟨Hb, 3, none⟩ = some (.int .i64 t) ∧ wx.cell? ⟨Hb, 4, none⟩ = some (.slice A n c))
        (first
          | with_reducible exact Mk.out _ (I.blk (by repeat (first | exact List.mem_cons_self .. | apply List.mem_cons_of_mem)))
          | with_reducible exact Mk.out _ (I.drew.blk (by repeat (first | exact List.mem_cons_self .. | apply List.mem_cons_of_mem)))
          | with_reducible exact Mk.out _ ((I.blk (by repeat (first | exact List.mem_cons_self .. | apply List.mem_cons_of_mem))).far HNE.out _)
          | with_reducible exact Mk.out _ (((I.blk (by repeat (first | exact List.mem_cons_self .. | apply List.mem_cons_of_mem))).far HNE.out _).far HNE.out _))
        (first
          | (go_at_call 78; (with_reducible refine (HK1.out _ I.x).mono ?_); rintro e w2 ⟨rfl, hg⟩; have I2 := I.grow0 hg; clear I hg; have I := I2; clear I2; have zb := I.blk (g := Wb) (by repeat (first | exact List.mem_cons_self .. | apply List.mem_cons_of_mem)); have z0 := zb.cell_of (i := 0) rfl; have z1 := zb.cell_of (i := 1) rfl; have g0 := zb.frozen 0; have g1 := zb.frozen 1)
          | (go_at_call 78; (with_reducible refine (HK1.out _ I.drew.x).mono ?_); rintro e w2 ⟨rfl, hg⟩; have I2 := I.drew.grow0 hg; clear I hg; have I := I2; clear I2; have zb := I.blk (g := Wb) (by repeat (first | exact List.mem_cons_self .. | apply List.mem_cons_of_mem)); have z0 := zb.cell_of (i := 0) rfl; have z1 := zb.cell_of (i := 1) rfl; have g0 := zb.frozen 0; have g1 := zb.frozen 1)
          | (go_at_call 79; (with_reducible refine (HK2.out _ I.x).mono ?_); rintro e w2 ⟨rfl, hg⟩; have I2 := I.grow0 hg; clear I hg; have I := I2; clear I2; have zb := I.blk (g := Wb) (by repeat (first | exact List.mem_cons_self .. | apply List.mem_cons_of_mem)); have z0 := zb.cell_of (i := 0) rfl; have z1 := zb.cell_of (i := 1) rfl; have g0 := zb.frozen 0; have g1 := zb.frozen 1)
          | (go_at_call 79; (with_reducible refine (HK2.out _ (I.putT (by decide) 0 (.int .i64 V1)).x).mono ?_); rintro e w2 ⟨rfl, hg⟩; have I2 := (I.putT (by decide) 0 (.int .i64 V1)).grow0 hg; clear I hg; have I := I2; clear I2; have zb := I.blk (g := Wb) (by repeat (first | exact List.mem_cons_self .. | apply List.mem_cons_of_mem)); have z0 := zb.cell_of (i := 0) rfl; have z1 := zb.cell_of (i := 1) rfl; have g0 := zb.frozen 0; have g1 := zb.frozen 1))
      all_goals
        go_wp2_with fail
        go_meet
        first
          | exact ⟨rfl, rfl, _, Nat.le_of_ble_eq_true rfl, (I.putT (by decide) 0 (.int .i64 V1)).putT (by decide) 1 (.int .i64 V2)⟩
          | exact ⟨rfl, rfl, _, Nat.le_of_ble_eq_true rfl, (I.putT (by decide) 1 (.int .i64 V2)).putT (by decide) 0 (.int .i64 V1)⟩
          | exact ⟨rfl, rfl, _, Nat.le_of_ble_eq_true rfl, I.putT (by decide) 1 (.int .i64 V2)⟩
    case rest =>
      obtain ⟨rfl, rfl, m, hm, I1⟩ := hcut
      obtain ⟨wb, hwb⟩ : ∃ wb : World, wb = wc := ⟨_, rfl⟩
      rw [← hwb] at I1 ⊢
      clear hwb I Mk HNE HK1 HK2
      have I := I1
      clear I1
      have hbD := I.blk (g := Db) (by repeat (first | exact List.mem_cons_self .. | apply List.mem_cons_of_mem))
      have hbH := I.blk (g := Hb) (by repeat (first | exact List.mem_cons_self .. | apply List.mem_cons_of_mem))
      by_cases h1 : LE = 0
      · have HK3 := Lib.hid (K3.out h1)
        subst h1
        have hs := fun w => four_same V1 V2 V3 V4 w
        clear K3
        go_wp2_with (first
        | (with_reducible refine wpList_load_all rfl 90 (.tmp 4) rfl Db _ _ _ hbD rfl Tryd.underlying90 rfl 7 info_dl rfl ?_)
        | (with_reducible refine wpList_load_all rfl 36 (.tmp 5) rfl Hb _ _ _ hbH rfl Tryd.underlying36 rfl 5 info_hr rfl ?_))
        refine (HK3.out _ I.x).mono ?_
        rintro e w9 ⟨rfl, hg⟩
        have I2 := I.grow0 hg
        clear I hg hbD hbH
        have I := I2
        clear I2
        have zb := I.blk (g := Wb) (by repeat (first | exact List.mem_cons_self .. | apply List.mem_cons_of_mem))
        have z0 := zb.cell_of (i := 0) rfl
        have z1 := zb.cell_of (i := 1) rfl
        have z2 := zb.cell_of (i := 2) rfl
        have z3 := zb.cell_of (i := 3) rfl
        have g2 := zb.frozen 2
        have g3 := zb.frozen 3
        go_wp2_with fail
        refine (hired_any _).mono ?_
        rintro e w10 ⟨rfl, hg10⟩
        go_wp2_with fail
        go_ret
        exact ⟨ret_bool (by simp), below_of_grow (grow_trans (grow_own (grow_alloc (World.grownBy.refl _ _) _) ((I.putT (by decide) 2 (.int .i64 V3)).putT (by decide) 3 (.int .i64 V4)).g (fun k h => by cases h; exact Nat.le_refl _)) hg10)⟩
      · have hq2 : (LE == 0) = false := by simpa using h1
        have hv3 := HV3'.out h1
        have hv4 := HV4'.out h1
        subst hv3 hv4
        have hs := fun w => four_same V1 V2 0 0 w
        clear h1 K3
        have zb := I.blk (g := Wb) (by repeat (first | exact List.mem_cons_self .. | apply List.mem_cons_of_mem))
        have z0 := zb.cell_of (i := 0) rfl
        have z1 := zb.cell_of (i := 1) rfl
        have z2 := zb.cell_of (i := 2) rfl
        have z3 := zb.cell_of (i := 3) rfl
        have g2 := zb.frozen 2
        have g3 := zb.frozen 3
        go_wp2_with (first
        | (with_reducible refine wpList_load_all rfl 90 (.tmp 4) rfl Db _ _ _ hbD rfl Tryd.underlying90 rfl 7 info_dl rfl ?_)
        | (with_reducible refine wpList_load_all rfl 36 (.tmp 5) rfl Hb _ _ _ hbH rfl Tryd.underlying36 rfl 5 info_hr rfl ?_))
        refine (hired_any _).mono ?_
        rintro e w10 ⟨rfl, hg10⟩
        go_wp2_with fail
        go_ret
        exact ⟨ret_bool (by simp), below_of_grow (grow_trans (grow_own (grow_alloc (World.grownBy.refl _ _) _) I.g (fun k h => by cases h; exact Nat.le_refl _)) hg10)⟩
  · have hq : (CE == 0) = false := by simpa using h0
    have hq2 : (LE == 0) = false := by
      have h1 : LE ≠ 0 := fun h => h0 (firstE_two (HTwo.out.trans h)).2
      simpa using h1
    have hv1 := HV1.out h0
    have hv2 := HV2.out h0
    have hv3 := HV3.out h0
    have hv4 := HV4.out h0
    subst hv1 hv2 hv3 hv4
    have hs := fun w => four_same 0 0 0 0 w
    clear h0
    go_wp2_with (first
      | (with_reducible refine wpList_load_all rfl 90 (.tmp 4) rfl Db _ _ _ hbD rfl Tryd.underlying90 rfl 7 info_dl rfl ?_)
      | (with_reducible refine wpList_load_all rfl 36 (.tmp 5) rfl Hb _ _ _ hbH rfl Tryd.underlying36 rfl 5 info_hr rfl ?_))
    refine (hired_any _).mono ?_
    rintro e w10 ⟨rfl, hg10⟩
    go_wp2_with fail
    go_ret
    exact ⟨ret_bool (by simp), below_of_grow (grow_trans (grow_alloc (grow_own (grow_alloc (World.grownBy.refl _ _) _) I.g (fun k h => by cases h; exact Nat.le_refl _)) _) hg10)⟩

end Go.Proofs.YtljnekobfjpfaaaDoor
