/- Several texts as one: Kl Eq Twt Bq Td Ry Yp Hkp -/
import Derived.Test.YtempjmpfdniecaaGreatDoorN1c
import Derived.Test.YtempjmpfdniecaaGreatDoorN1b
import Derived.Test.YtempjmpfdniecaaGreatDoorN1a
import Derived.Lay
import Derived.LaidSub
import Derived.MakeChecks
import Derived.Stop.LaidErr
import Derived.Lib.LaidU8
import Derived.Shelf.Vars
set_option maxRecDepth 100000
set_option maxHeartbeats 4000000
namespace Go.Proofs.YtempjmpfdniecaaGreatDoor
open Go.RowKit
def closedE (h : Hr) : Int := if hireE h = 0 then whenE (openB h.legs) 11 else hireE h
theorem closedE_ok {h : Hr} (hc : closedE h = 0) : hireE h = 0 ∧ openB h.legs = false := by
  unfold closedE at hc
  by_cases h0 : hireE h = 0
  · rw [if_pos h0] at hc
    refine ⟨h0, ?_⟩
    cases ho : openB h.legs with
    | false => rfl
    | true => rw [ho] at hc; cases hc
  · rw [if_neg h0] at hc; exact absurd hc h0
set_option maxRecDepth 100000 in
set_option maxHeartbeats 1000000 in
theorem checkClosed_any (key driver : ByteArray) (fr to_ : Int) (l : List Lg) (A : Option Addr) (n c : Nat) (w : World) (hl : SlT lgEnc 9 135 w A n l) (hok : HrOk key driver l) (hn : n ≤ 1000) :
    Calls Tryz.prog 91 #[.agg #[.string key, .string driver, .int .i64 fr, .int .i64 to_, .slice A n c]] w (GotE w (closedE ⟨key, driver, fr, to_, l⟩)) := by
  obtain ⟨C, hC⟩ : ∃ C, C = closedE ⟨key, driver, fr, to_, l⟩ := ⟨_, rfl⟩
  obtain ⟨E, hE⟩ : ∃ E, hireE ⟨key, driver, fr, to_, l⟩ = E := ⟨_, rfl⟩
  have HCE := Lib.hid (show C = if E = 0 then whenE (openB l) 11 else E by rw [hC, ← hE]; rfl)
  have HL := Lib.hid (show E = 0 → 0 < n from fun h => by have := (hireE_legs (hE.trans h)).1; have := hl.len; simp at *; omega)
  have CE := Lib.hid (fun w hl => (by rw [← hE]; exact hcheck_any key driver fr to_ l A n c w hl hok (by omega) : Calls Tryz.prog 12 #[.agg #[.string key, .string driver, .int .i64 fr, .int .i64 to_, .slice A n c]] w (GotE w E)))
  rw [← hC]
  clear hC hE hok
  go_enter Tryz.func91, Tryz.ntmps91
  go_wp2_with fail
  refine (CE.out _ (hl.alloc _)).mono ?_
  rintro e w1 ⟨rfl, hg1⟩
  have hb1 := (Blk.at_ w rfl 30 [.string key, .string driver, .int .i64 fr, .int .i64 to_, .slice A n c]).grown hg1 (by simp)
  have hw1 := grow_trans (grow_alloc (World.grownBy.refl w none) _) hg1
  have hl1 := (hl.alloc (.cells #[.string key, .string driver, .int .i64 fr, .int .i64 to_, .slice A n c] 30)).grow0 hg1
  clear hg1 hl
  by_cases h0 : E = 0
  · have hn0 := HL.out h0
    have HF := Lib.hid (show C = whenE (openB l) 11 by rw [HCE.out, if_pos h0])
    subst h0
    go_wp2_with (with_reducible refine wpList_load_all rfl 30 (.tmp 1) rfl w.heap.size _ _ _ hb1 rfl Tryz.underlying30 rfl 5 info_hr rfl ?_)
    refine (open_any key driver fr to_ l A n c w1 hl1 hn0 (by omega)).mono ?_
    rintro e w2 ⟨rfl, hg2⟩
    obtain ⟨O, hO⟩ : ∃ O, openB l = O := ⟨_, rfl⟩
    rw [hO] at HF ⊢
    clear hO
    go_wp2_with fail
    refine (when_any _ _ _).mono ?_
    rintro e w3 ⟨rfl, rfl⟩
    go_wp2_with fail
    go_ret
    exact ⟨ret_int HF.out.symm, grow_trans hw1 hg2⟩
  · have hne : (E != 0) = true := by simpa using h0
    have HF := Lib.hid (show C = E by rw [HCE.out, if_neg h0])
    clear h0
    go_wp2_with fail
    go_ret
    exact ⟨ret_int HF.out.symm, hw1⟩
set_option maxRecDepth 100000 in
set_option maxHeartbeats 1000000 in
theorem kmF_any (key driver : ByteArray) (fr to_ : Int) (l : List Lg) (A : Option Addr) (n c : Nat) (w : World) (hl : SlT lgEnc 9 135 w A n l) (hok : HrOk key driver l) (hn : n ≤ 1000) :
    Calls Tryz.prog 22 #[.agg #[.string key, .string driver, .int .i64 fr, .int .i64 to_, .slice A n c]] w (RetIE w (if closedE ⟨key, driver, fr, to_, l⟩ = 0 then sumBy kmOf l else 0) (closedE ⟨key, driver, fr, to_, l⟩)) := by
  obtain ⟨C, hC⟩ : ∃ C, closedE ⟨key, driver, fr, to_, l⟩ = C := ⟨_, rfl⟩
  obtain ⟨V, hV⟩ : ∃ V, V = if C = 0 then sumBy kmOf l else 0 := ⟨_, rfl⟩
  have HV := Lib.hid hV
  have HN := Lib.hid (show C = 0 → ∀ g ∈ l, LgNum g from fun h g hg => (closed_num (closedE_ok (hC.trans h)).1 (closedE_ok (hC.trans h)).2 g hg).1)
  have CE := Lib.hid (fun w hl => (by rw [← hC]; exact checkClosed_any key driver fr to_ l A n c w hl hok hn : Calls Tryz.prog 91 #[.agg #[.string key, .string driver, .int .i64 fr, .int .i64 to_, .slice A n c]] w (GotE w C)))
  rw [hC, ← hV]
  clear hC hV hok
  go_enter Tryz.func22, Tryz.ntmps22
  go_wp2_with fail
  refine (CE.out _ (hl.alloc _)).mono ?_
  rintro e w1 ⟨rfl, hg1⟩
  have hb1 := (Blk.at_ w rfl 30 [.string key, .string driver, .int .i64 fr, .int .i64 to_, .slice A n c]).grown hg1 (by simp)
  have hw1 := grow_trans (grow_alloc (World.grownBy.refl w none) _) hg1
  have hl1 := (hl.alloc (.cells #[.string key, .string driver, .int .i64 fr, .int .i64 to_, .slice A n c] 30)).grow0 hg1
  clear hg1 hl
  by_cases h0 : C = 0
  · have HNum := Lib.hid (HN.out h0)
    have HF := Lib.hid (show V = sumBy kmOf l by rw [HV.out, if_pos h0])
    subst h0
    go_wp2_with (with_reducible refine wpList_load_all rfl 30 (.tmp 1) rfl w.heap.size _ _ _ hb1 rfl Tryz.underlying30 rfl 5 info_hr rfl ?_)
    refine (km_any key driver fr to_ l A n c w1 hl1 HNum.out hn).mono ?_
    rintro e w2 ⟨rfl, hg2⟩
    go_wp2_with fail
    go_ret2
    exact ⟨ret_ie HF.out.symm rfl, grow_trans hw1 hg2⟩
  · have hne : (C != 0) = true := by simpa using h0
    have HF := Lib.hid (show V = 0 by rw [HV.out, if_neg h0])
    clear h0
    go_wp2_with fail
    go_ret2
    exact ⟨ret_ie HF.out.symm rfl, hw1⟩
end Go.Proofs.YtempjmpfdniecaaGreatDoor
namespace Go.Proofs.YtempjmpfdniecaaGreatDoor
open Go.RowKit
set_option maxRecDepth 100000 in
theorem lg_same (g : Lg) (w : World) :
    (binOp .neq 135 (.agg (lgEnc g).toArray) (.agg (lgEnc g).toArray)).run Tryz.prog w = .ok (.bool false) w := by
  obtain ⟨veh, ⟨a1, s1, m1, f1⟩, ⟨a2, s2, m2, f2⟩⟩ := g
  show (binOp .neq 135 (.agg #[.string veh, .int .i64 a1, .string s1, .int .i64 m1, .int .i64 f1, .int .i64 a2, .string s2, .int .i64 m2, .int .i64 f2]) (.agg #[.string veh, .int .i64 a1, .string s1, .int .i64 m1, .int .i64 f1, .int .i64 a2, .string s2, .int .i64 m2, .int .i64 f2])).run Tryz.prog w = _
  have hS : Tryz.prog.underlying 135 = some (.struct (Tryz.prog.fieldsOf 135)) := by kernel_rfl
  have hp : Tryz.prog.stoodInHeld 135 = false := by kernel_rfl
  have hS2 : Tryz.prog.underlying 48 = some (.struct (Tryz.prog.fieldsOf 48)) := by kernel_rfl
  have hp2 : Tryz.prog.stoodInHeld 48 = false := by kernel_rfl
  have e1 : ∀ w : World, (Op.equalIn 9999 48 (.agg #[.int .i64 a1, .string s1, .int .i64 m1, .int .i64 f1]) (.agg #[.int .i64 a1, .string s1, .int .i64 m1, .int .i64 f1])).run Tryz.prog w = .ok true w := fun w => by
    rw [show (9999 : Nat) = 9998 + 1 from rfl, run_equalIn_agg w 9998 48 _ _ hS2 hp2]
    simp only [Program.fieldsOf, Tryz.underlying48]
    have u3 := Tryz.underlying3
    have u9 := Tryz.underlying9
    go_simp
  rw [run_neq_struct, show (10000 : Nat) = 9999 + 1 from rfl, run_equalIn_agg w 9999 135 _ _ hS hp]
  simp only [Program.fieldsOf, Tryz.underlying135]
  have u3 := Tryz.underlying3
  have u9 := Tryz.underlying9
  clear hS hp hS2 hp2
  go_simp
set_option maxRecDepth 100000 in
set_option maxHeartbeats 1000000 in
theorem equalLegs_any (l : List Lg) (A1 A2 : Option Addr) (n c1 c2 : Nat) (w : World) (h1 : SlT lgEnc 9 135 w A1 n l) (h2 : SlT lgEnc 9 135 w A2 n l) (hn : n ≤ 1000000) :
    Calls Tryz.prog 85 #[.slice A1 n c1, .slice A2 n c2] w (fun e w' => e = .returned (.bool true) ∧ w.grownBy w' none) := by
  have hlen := h1.len
  go_enter Tryz.func85, Tryz.ntmps85
  go_wp2_with fail
  go_loopw [13] (fun i wr => ∃ k : Nat, k ≤ n ∧ i = .int .i64 k ∧ w.grownBy wr none) (fun i _ => n - (intOf i).toNat)
  case atStart => exact ⟨0, Nat.zero_le _, rfl, World.grownBy.refl _ _⟩
  case round =>
    obtain ⟨k, hk, rfl, hgr⟩ := hrel
    by_cases hlt : k < n
    · obtain ⟨b1, o1, rfl, hb1, hr1⟩ := (h1.grow0 hgr).get (by omega)
      obtain ⟨b2, o2, rfl, hb2, hr2⟩ := (h2.grow0 hgr).get (by omega)
      obtain ⟨g, hg⟩ : ∃ g, l[k]? = some g := ⟨_, List.getElem?_eq_getElem (by omega)⟩
      have hs := fun w => lg_same g w
      have q1 := hr1 k g hg
      have q2 := hr2 k g hg
      obtain ⟨veh, ⟨a1, s1, m1, f1⟩, ⟨a2, s2, m2, f2⟩⟩ := g
      have hs' : ∀ w : World, (binOp .neq 135 (.agg #[.string veh, .int .i64 a1, .string s1, .int .i64 m1, .int .i64 f1, .int .i64 a2, .string s2, .int .i64 m2, .int .i64 f2]) (.agg #[.string veh, .int .i64 a1, .string s1, .int .i64 m1, .int .i64 f1, .int .i64 a2, .string s2, .int .i64 m2, .int .i64 f2])).run Tryz.prog w = .ok (.bool false) w := hs
      have p0 : wr.cell? ⟨b1, o1 + k * 9, none⟩ = some (.string veh) := q1 0 _ rfl
      have p1 := q1 1 _ rfl
      have p2 := q1 2 _ rfl
      have p3 := q1 3 _ rfl
      have p4 := q1 4 _ rfl
      have p5 := q1 5 _ rfl
      have p6 := q1 6 _ rfl
      have p7 := q1 7 _ rfl
      have p8 := q1 8 _ rfl
      have r0 : wr.cell? ⟨b2, o2 + k * 9, none⟩ = some (.string veh) := q2 0 _ rfl
      have r1 := q2 1 _ rfl
      have r2 := q2 2 _ rfl
      have r3 := q2 3 _ rfl
      have r4 := q2 4 _ rfl
      have r5 := q2 5 _ rfl
      have r6 := q2 6 _ rfl
      have r7 := q2 7 _ rfl
      have r8 := q2 8 _ rfl
      have d0 : (0 : Int) ≤ (k : Int) := by omega
      have d1 : (k : Int) < (n : Int) := by omega
      clear hs hr1 hr2 q1 q2 hg
      go_wp2_with fail
      go_quiet (fail)
      go_wp2_with fail
      go_roundw
      case rel => exact ⟨k + 1, by omega, by go_num, grow_drewN hgr _⟩
      case measure => simp [intOf]; omega
    · go_wp2_with fail
      go_ret
      exact ⟨rfl, hgr⟩
set_option maxRecDepth 100000 in
set_option maxHeartbeats 1000000 in
theorem sameHire_any (key driver : ByteArray) (fr to_ : Int) (l : List Lg) (A1 A2 : Option Addr) (n c1 c2 : Nat) (w : World) (h1 : SlT lgEnc 9 135 w A1 n l) (h2 : SlT lgEnc 9 135 w A2 n l) (hn : n ≤ 1000000) :
    Calls Tryz.prog 16 #[.agg #[.string key, .string driver, .int .i64 fr, .int .i64 to_, .slice A1 n c1], .agg #[.string key, .string driver, .int .i64 fr, .int .i64 to_, .slice A2 n c2]] w (fun e w' => e = .returned (.bool true) ∧ w.grownBy w' none) := by
  go_enter Tryz.func16, Tryz.ntmps16
  go_wp2_with fail
  refine (equalLegs_any l A1 A2 n c1 c2 _ ((h1.alloc _).alloc _) ((h2.alloc _).alloc _) hn).mono ?_
  rintro e w1 ⟨rfl, hg1⟩
  go_wp2_with fail
  go_ret
  exact ⟨rfl, grow_trans (grow_alloc (grow_alloc (World.grownBy.refl _ _) _) _) hg1⟩
end Go.Proofs.YtempjmpfdniecaaGreatDoor
namespace Go.Proofs.YtempjmpfdniecaaGreatDoor
open Go.RowKit Go.ChangeShapes
theorem var_at {P : Program} {w : World} {n : String} {g : Nat} {cs : Array Value} (hg : P.globalNamed n = some g) (h : w.var? P n = some cs) : ∃ T f, w.heap[g]? = some (.cells cs T f) := by
  unfold World.var? at h
  rw [hg] at h
  simp only [Option.bind_some] at h
  split at h
  · rename_i c T f he
    cases h
    exact ⟨T, f, he⟩
  · cases h
theorem star_err : "*" ++ "errors.errorString" = "*errors.errorString" := by decide
theorem row_err (u : TypeId) (h : Tryz.prog.typeName? 3 u = some "*errors.errorString") : u = 384 :=
  typeName_ptr_named (nm := "errors.errorString") (by rw [star_err]; kernel_rfl) (by kernel_rfl) (by decide) u (by rw [star_err]; exact h)
theorem txtW_of {l : List (String × DataW Unit)} {W : World} (x1 x2 : List UInt8) (hL : laidMet Tryz.prog l W) (hS : W.ShapedOpen Tryz.prog)
    (h1 : l.filter (fun x => x.1 == "internal/strconv.uint64pow10") = [("internal/strconv.uint64pow10", Lib.tabData .u64 Lib.pow10Tab)])
    (h2 : l.filter (fun x => x.1 == "strconv.ErrSyntax") = [("strconv.ErrSyntax", .iface "*errors.errorString" (.ptr (.agg [.lit (.string x1)])))])
    (h3 : l.filter (fun x => x.1 == "strconv.ErrRange") = [("strconv.ErrRange", .iface "*errors.errorString" (.ptr (.agg [.lit (.string x2)])))]) : TxtW W := by
  have c1 := hL.filter (fun x => x.1 == "internal/strconv.uint64pow10")
  have c2 := hL.filter (fun x => x.1 == "strconv.ErrSyntax")
  have c3 := hL.filter (fun x => x.1 == "strconv.ErrRange")
  rw [h1] at c1
  rw [h2] at c2
  rw [h3] at c3
  refine ⟨?_, ?_, ?_, ?_⟩
  · have hg : Tryz.prog.globalNamed "internal/strconv.uint64pow10" = some 3 := by kernel_rfl
    have h := Lib.tabIs_of_head (t := 377) (e := 300) hg (by kernel_rfl) Tryz.underlying377 Tryz.underlying300 (by kernel_rfl) (by kernel_rfl) c1
    exact var_at hg h
  · obtain ⟨m, hm⟩ := cell_of_shapedOpen_int (P := Tryz.prog) (g := 0) (t := 3) (zero := #[.int .i64 0]) hS (of_decide_eq_true (by kernel_rfl)) (by kernel_rfl) rfl (by kernel_rfl) (by kernel_rfl) Tryz.underlying3
    unfold World.cell? at hm
    split at hm
    · rename_i c T f he
      exact ⟨c, T, f, m, he, by simpa using hm⟩
    · cases hm
  · have hg : Tryz.prog.globalNamed "strconv.ErrSyntax" = some 1 := by kernel_rfl
    obtain ⟨a, s, hv, _⟩ := laid_sentinel c2 hg (by kernel_rfl) Tryz.underlying130 row_err Tryz.underlying384 Tryz.underlying386 rfl rfl Tryz.underlying9 (by kernel_rfl) (by kernel_rfl)
    obtain ⟨T, f, h⟩ := var_at hg hv
    exact ⟨T, f, _, _, h⟩
  · have hg : Tryz.prog.globalNamed "strconv.ErrRange" = some 2 := by kernel_rfl
    obtain ⟨a, s, hv, _⟩ := laid_sentinel c3 hg (by kernel_rfl) Tryz.underlying130 row_err Tryz.underlying384 Tryz.underlying386 rfl rfl Tryz.underlying9 (by kernel_rfl) (by kernel_rfl)
    obtain ⟨T, f, h⟩ := var_at hg hv
    exact ⟨T, f, _, _, h⟩
end Go.Proofs.YtempjmpfdniecaaGreatDoor
namespace Go.Proofs.YtempjmpfdniecaaGreatDoor
open Go.RowKit
set_option maxHeartbeats 400000 in
theorem formed_nil (w : World) : Calls Tryz.prog 253 #[.slice none 0 0] w (GotE w 0) := by
  go_enter Tryz.func253, Tryz.ntmps253
  go_wp2_with fail
  go_loopw [10] (fun i wr => i = .int .i64 0 ∧ wr = w) (fun _ _ => 0)
  case atStart => exact ⟨rfl, rfl⟩
  case round =>
    obtain ⟨rfl, rfl⟩ := hrel
    go_wp2_with fail
    go_ret
    exact ⟨rfl, World.grownBy.refl _ _⟩
set_option maxHeartbeats 400000 in
theorem checkOdds_nil (w : World) : Calls Tryz.prog 191 #[.slice none 0 0] w (GotE w 0) := by
  go_enter Tryz.func191, Tryz.ntmps191
  go_wp2_with fail
  refine (formed_nil _).mono ?_
  rintro e w1 ⟨rfl, hg1⟩
  go_wp2_with fail
  refine (when_any _ _ _).mono ?_
  rintro e w2 ⟨rfl, rfl⟩
  go_wp2_with fail
  refine (first_any [0, whenE false 2] _ _ _ _ (Blk.at_ _ rfl _ _) (by simp)).mono ?_
  rintro e w6 ⟨rfl, rfl⟩
  go_wp2_with fail
  go_ret
  exact ⟨rfl, grow_alloc hg1 _⟩
set_option maxHeartbeats 400000 in
theorem spread_nil (w : World) : Calls Tryz.prog 192 #[.slice none 0 0] w (fun e w' => ∃ g c, e = .returned (.tuple #[.slice (some ⟨g, 0, none⟩) 1 c, .int .i64 1]) ∧ g < w'.heap.size ∧ w'.cell? ⟨g, 0, none⟩ = some (.int .i64 1) ∧ w.grownBy w' none) := by
  go_enter Tryz.func192, Tryz.ntmps192
  go_wp2_with fail
  go_loopw [4, 5, 14] (fun s n i wr => s = .slice (some ⟨w.heap.size, 0, none⟩) 1 1 ∧ n = .int .i64 1 ∧ i = .int .i64 0 ∧ wr = w.alloc (.cells #[.int .i64 1] 3)) (fun _ _ _ _ => 0)
  case atStart => exact ⟨rfl, rfl, rfl, rfl⟩
  case round =>
    obtain ⟨rfl, rfl, rfl, rfl⟩ := hrel
    go_wp2_with fail
    go_ret2
    exact ⟨_, _, rfl, by simp, (Blk.at_ w rfl 3 [.int .i64 1]).cell_of rfl, grow_alloc (World.grownBy.refl _ _) _⟩
theorem info_fr : (Tryz.prog.info? 196).map (·.size) = some 2 := by kernel_rfl
set_option maxRecDepth 100000 in
set_option maxHeartbeats 400000 in
theorem lowest_one (w : World) : Calls Tryz.prog 193 #[.int .i64 1, .int .i64 1] w (fun e w' => e = .returned (.agg #[.int .i64 1, .int .i64 1]) ∧ w.grownBy w' none) := by
  go_enter Tryz.func193, Tryz.ntmps193
  go_wp2_with fail
  go_loopw [5, 6] (fun a b wr => a = .int .i64 1 ∧ (b = .int .i64 0 ∨ b = .int .i64 1) ∧ w.grownBy wr none ∧ Blk wr w.heap.size 196 [.int .i64 0, .int .i64 0]) (fun _ b _ => (intOf b).toNat)
  case atStart => exact ⟨rfl, .inr rfl, grow_alloc (World.grownBy.refl _ _) _, Blk.at_ w rfl _ _⟩
  case round =>
    obtain ⟨rfl, hk, hgr, hb⟩ := hrel
    rcases hk with rfl | rfl
    · go_wp2_with fail
      refine wp_region_still_tail 7 (by kernel_rfl) (by kernel_rfl) ?_
      change wpStill _ _ (World.drew _) _ _ _
      simp only [List.take_succ_cons, List.take_zero, List.drop_succ_cons, List.drop_zero]
      repeat still_step
      refine wpStill_nil ?_
      change wpList _ _ _ _ _ (World.drew _)
      go_wp2_with (with_reducible refine wpList_store_all rfl 196 (.tmp 4) (.tmp 24) rfl w.heap.size _ _ [.int .i64 1, .int .i64 1] hb.drew rfl rfl 2 info_fr rfl rfl (by simp [Value.oneCell']) ?_
                   intro w2 hb2 hg2)
      refine ret_blk (p := 4) (ty := 196) rfl w.heap.size _ _ _ hb2 rfl Tryz.underlying196 rfl 2 info_fr rfl rfl ?_
      exact ⟨rfl, grow_own (grow_drew hgr) hg2 (fun k h => by cases h; exact Nat.le_refl _)⟩
    · go_wp2_with fail
      go_quiet (fail)
      go_wp2_with fail
      go_roundw
      case rel => exact ⟨rfl, .inl rfl, grow_drewN hgr _, hb.drewN _⟩
      case measure => simp [intOf]
set_option maxRecDepth 100000 in
set_option maxHeartbeats 1000000 in
theorem bspread_nil (w : World) : Calls Tryz.prog 95 #[.slice none 0 0] w (fun e w' => ∃ A c, e = .returned (.tuple #[.slice A 1 c, .int .i64 0]) ∧ w.grownBy w' none) := by
  go_enter Tryz.func95, Tryz.ntmps95
  go_wp2_with fail
  refine (checkOdds_nil _).mono ?_
  rintro e w1 ⟨rfl, hg1⟩
  go_wp2_with fail
  refine (spread_nil _).mono ?_
  rintro e w2 ⟨g, c, rfl, hlt, hc, hg2⟩
  have hgw : w.grownBy w2 none := grow_trans hg1 hg2
  clear hg1 hg2
  go_wp2_with fail
  go_loopw [7, 22] (fun s i wr => w2.grownBy wr none ∧ ((i = .int .i64 0 ∧ s = .slice none 0 0) ∨ (i = .int .i64 1 ∧ ∃ A c, s = .slice A 1 c))) (fun _ i _ => 1 - (intOf i).toNat)
  case atStart => exact ⟨World.grownBy.refl _ _, .inl ⟨rfl, rfl⟩⟩
  case round =>
    obtain ⟨hgr, hs⟩ := hrel
    rcases hs with ⟨rfl, rfl⟩ | ⟨rfl, A, c', rfl⟩
    · have hc1 : wr.cell? ⟨g, 0, none⟩ = some (.int .i64 1) := (World.cell?_of_block (hgr.block g hlt (by simp))).trans hc
      go_wp2_with fail
      refine (lowest_one _).mono ?_
      rintro e w3 ⟨rfl, hg3⟩
      go_wp2_with fail
      go_roundw
      case rel => exact ⟨grow_drew (grow_alloc (grow_alloc (grow_trans hgr hg3) _) _), .inr ⟨rfl, _, _, rfl⟩⟩
      case measure => simp [intOf]
    · go_wp2_with fail
      go_ret2
      exact ⟨_, _, rfl, grow_trans hgw hgr⟩
end Go.Proofs.YtempjmpfdniecaaGreatDoor
namespace Go.Proofs.YtempjmpfdniecaaGreatDoor
open Go.RowKit
theorem timeE_okT {a b : Int} (h : timeE a b = 0) : 0 ≤ a ∧ a < b ∧ b ≤ 5761439 := by
  unfold timeE at h
  split at h
  · cases h
  · omega
theorem tdays_any (fr tt : Int) (w : World) :
  Calls Tryz.prog 93 #[.agg #[.int .i64 fr, .int .i64 tt]] w (fun e w' => e = .returned (.tuple #[.int .i64 (if timeE fr tt = 0 then daysV fr tt else 0), .int .i64 (timeE fr tt)]) ∧ w.grownBy w' none) := by
 refine gw_enter ⟨12, w, none, []⟩ Tryz.func93 rfl Tryz.ntmps93 rfl (mem0 (X := []) allF_nil allL_nil) ?_
 refine sr_ ?_
 refine wl_box rfl rfl rfl fun g1 => ?_
 refine sg_ rfl (sg_ rfl (nn_ (gw_seq (sr_ ?_))))
 refine wl_ov (ov_loads rz27 rfl (fun _ hm => hm.blkI 0 rfl) rfl rfl) rfl ?_
 refine wl_callv rfl cb70 rfl rfl (fun wx hm => (time_any _ _ wx)) ?_
 refine sg_ rfl (nn_ (sr_ (mv_ rfl (wl_ov (ov_neq rfl rfl) rfl (nn_ ?_)))))
 refine gw_cond rfl (fun hh => ?_) (fun hh => ?_)
 ·have h1 : ¬ (timeE fr tt = 0) := by simpa using hh
  clear hh
  refine sr_ (mv_ rfl (sg_ rfl (sg_ rfl (nn_ ?_))))
  refine gw_ret ?_
  refine nx_then_ret ?_
  refine nx_ret2 rfl rfl rfl fun wx hm => ?_
  exact ⟨by rw [if_neg h1], hm.g⟩
 have h1 : timeE fr tt = 0 := by simpa using hh
 clear hh
 refine gw_skip (nx_then (sr_ ?_))
 obtain ⟨h2, h3, h4⟩ := timeE_okT h1
 refine wl_ov (ov_loads rz27 rfl (fun _ hm => hm.blkI 0 rfl) rfl rfl) rfl ?_
 refine wl_callv rfl cb173 rfl rfl (fun wx hm => (days_any _ _ wx (by omega) (by omega) (by omega))) ?_
 refine sg_ rfl (sg_ rfl (nn_ ?_))
 refine gw_ret ?_
 refine nx_ret2 rfl rfl rfl fun wx hm => ?_
 exact ⟨by rw [if_pos h1, h1], hm.g⟩
end Go.Proofs.YtempjmpfdniecaaGreatDoor
namespace Go.Proofs.YtempjmpfdniecaaGreatDoor
open Go.RowKit
theorem ready_open : isOpenV ⟨⟨#[115]⟩, [0, 9, 0, 0, 0, 0, 0, 0, 0, 0, 0, 0, 0, 0]⟩ 8 = true ∧ isOpenE ⟨⟨#[115]⟩, [0, 9, 0, 0, 0, 0, 0, 0, 0, 0, 0, 0, 0, 0]⟩ 8 = 0 := ⟨by kernel_rfl, by kernel_rfl⟩
theorem ready_days : (if timeE 0 1441 = 0 then daysV 0 1441 else 0) = 2 ∧ timeE 0 1441 = 0 := ⟨by decide +kernel, by decide +kernel⟩
theorem ready_hire : hireE ⟨⟨#[104]⟩, ⟨#[100]⟩, 5, 9, [startLeg ⟨#[118]⟩ ⟨5, ⟨#[115]⟩, 0, 0⟩]⟩ = 0 := by kernel_rfl
set_option maxRecDepth 100000 in
set_option maxHeartbeats 1000000 in
theorem ready_any (w : World) : Calls Tryz.prog 23 #[] w (fun e w' => e = .returned (.bool true) ∧ w.grownBy w' none) := by
  have cD : ∀ w, Calls Tryz.prog 93 #[.agg #[.int .i64 0, .int .i64 1441]] w (fun e w' => e = .returned (.tuple #[.int .i64 2, .int .i64 0]) ∧ w.grownBy w' none) := fun w => by
    have h := tdays_any 0 1441 w
    rw [ready_days.1, ready_days.2] at h
    exact h
  have cO : ∀ w, Calls Tryz.prog 94 #[.agg #[.string ⟨#[115]⟩, .int .i64 0, .int .i64 9, .int .i64 0, .int .i64 0, .int .i64 0, .int .i64 0, .int .i64 0, .int .i64 0, .int .i64 0, .int .i64 0, .int .i64 0, .int .i64 0, .int .i64 0, .int .i64 0], .int .i64 8] w (RetBE w true 0) := fun w => by
    have hs : ∀ h ∈ [0, 9, 0, 0, 0, 0, 0, 0, 0, 0, 0, 0, 0, (0 : Int)], 0 ≤ h ∧ h ≤ 9 := by decide
    have h := lotOpen_any ⟨#[115]⟩ [0, 9, 0, 0, 0, 0, 0, 0, 0, 0, 0, 0, 0, 0] 8 w ⟨rfl, (by decide : (⟨#[115]⟩ : ByteArray).size ≤ 1000000), fun h hh => by have := hs h hh; omega⟩ (fun h hh => by have := hs h hh; omega)
    rw [ready_open.1, ready_open.2] at h
    exact h
  have cH : ∀ w, Calls Tryz.prog 96 #[.string ⟨#[104]⟩, .string ⟨#[100]⟩, .agg #[.int .i64 5, .int .i64 9], .string ⟨#[118]⟩, .agg #[.int .i64 5, .string ⟨#[115]⟩, .int .i64 0, .int .i64 0]] w (fun e w' => ∃ A, e = .returned (.tuple #[.agg #[.string ⟨#[104]⟩, .string ⟨#[100]⟩, .int .i64 5, .int .i64 9, .slice A 1 1], .int .i64 0]) ∧ w.grownBy w' none) := fun w => by
    have h := start_any ⟨#[104]⟩ ⟨#[100]⟩ 5 9 ⟨#[118]⟩ ⟨5, ⟨#[115]⟩, 0, 0⟩ w (by decide) (by decide) (by decide) (by decide : (⟨#[115]⟩ : ByteArray).size ≤ 1000000)
    rw [ready_hire] at h
    exact h.mono fun e w' ⟨A, h1, _, h3⟩ => ⟨A, h1, h3⟩
  have CD := Lib.hid cD
  have CO := Lib.hid cO
  have CH := Lib.hid cH
  clear cD cO cH
  go_enter Tryz.func23, Tryz.ntmps23
  go_wp2_with fail
  refine (CD.out _).mono ?_
  rintro e w1 ⟨rfl, hg1⟩
  go_wp2_with fail
  refine (CO.out _).mono ?_
  rintro e w2 ⟨rfl, hg2⟩
  go_wp2_with fail
  refine (bspread_nil _).mono ?_
  rintro e w3 ⟨A3, c3, rfl, hg3⟩
  go_wp2_with fail
  refine (CH.out _).mono ?_
  rintro e w4 ⟨A4, rfl, hg4⟩
  go_wp2_with fail
  go_ret
  exact ⟨rfl, grow_alloc (grow_trans (grow_trans (grow_trans hg1 hg2) hg3) hg4) _⟩
end Go.Proofs.YtempjmpfdniecaaGreatDoor
namespace Go.Proofs.YtempjmpfdniecaaGreatDoor
open Go.RowKit
section
variable {α : Type}
/-- One is put into a list that is sorted from behind. -/
def insR (lt : α → α → Bool) (x : α) : List α → List α
  | [] => [x]
  | y :: r => if lt x y = true then y :: insR lt x r else x :: y :: r
theorem insR_mem {lt : α → α → Bool} {x z : α} : ∀ {l : List α}, z ∈ insR lt x l → z = x ∨ z ∈ l
  | [], h => .inl (List.mem_singleton.1 h)
  | y :: r, h => by
    unfold insR at h
    split at h
    · rcases List.mem_cons.1 h with rfl | h
      · exact .inr (List.mem_cons_self ..)
      · rcases insR_mem h with h | h
        · exact .inl h
        · exact .inr (List.mem_cons_of_mem _ h)
    · rcases List.mem_cons.1 h with h | h
      · exact .inl h
      · exact .inr h
theorem insR_len {lt : α → α → Bool} {x : α} : ∀ {l : List α}, (insR lt x l).length = l.length + 1
  | [] => rfl
  | y :: r => by
    have := insR_len (lt := lt) (x := x) (l := r)
    unfold insR
    split
    · rw [List.length_cons, this, List.length_cons]
    · rw [List.length_cons]
theorem sink_ins {lt : α → α → Bool} : ∀ {j : Nat} {l : List α} {x : α}, l[j]? = some x → sink lt j l = (insR lt x (l.take j).reverse).reverse ++ l.drop (j + 1)
  | 0, l, x, h => by
    obtain ⟨h1, rfl⟩ := List.getElem?_eq_some_iff.1 h
    show l = [l[0]] ++ l.drop 1
    rw [List.singleton_append, ← List.drop_eq_getElem_cons h1, List.drop_zero]
  | j + 1, l, x, h => by
    obtain ⟨h1, hx⟩ := List.getElem?_eq_some_iff.1 h
    obtain ⟨y, hy⟩ : ∃ y, l[j]? = some y := ⟨_, List.getElem?_eq_getElem (by omega)⟩
    have ht : (l.take (j + 1)).reverse = y :: (l.take j).reverse := by
      rw [List.take_add_one, hy]; simp
    rw [ht]
    by_cases hl : lt x y = true
    · have hs : ((l.set (j + 1) y).set j x)[j]? = some x := List.getElem?_set_self (by rw [List.length_set]; omega)
      rw [sink_yes h hy hl, sink_ins hs]
      have e1 : ((l.set (j + 1) y).set j x).take j = l.take j := by
        rw [List.take_set_of_le (by omega), List.take_set_of_le (by omega)]
      have e2 : ((l.set (j + 1) y).set j x).drop (j + 1) = y :: l.drop (j + 2) := by
        rw [List.drop_set_of_lt (by omega), List.drop_eq_getElem_cons (by rw [List.length_set]; omega), List.getElem_set_self, List.drop_set_of_lt (by omega)]
      rw [e1, e2]
      unfold insR
      rw [if_pos hl]; simp
      cases (l.take j).reverse <;> rfl
    · have hl2 : lt x y = false := by simpa using hl
      rw [sink_no h hy hl2]
      unfold insR
      rw [if_neg hl]
      obtain ⟨h2, hy2⟩ := List.getElem?_eq_some_iff.1 hy
      conv => lhs; rw [← List.take_append_drop j l, List.drop_eq_getElem_cons h2, List.drop_eq_getElem_cons h1, hx, hy2]
      simp
theorem isortF_fold {lt : α → α → Bool} : ∀ (f i : Nat) (l : List α), i + f = l.length → isortF lt f i l = ((l.drop i).foldl (fun a x => insR lt x a) (l.take i).reverse).reverse
  | 0, i, l, h => by
    rw [List.drop_eq_nil_of_le (by omega), List.take_of_length_le (by omega)]
    show l = l.reverse.reverse
    rw [List.reverse_reverse]
  | f + 1, i, l, h => by
    obtain ⟨x, hx⟩ : ∃ x, l[i]? = some x := ⟨_, List.getElem?_eq_getElem (by omega)⟩
    obtain ⟨h1, hx1⟩ := List.getElem?_eq_some_iff.1 hx
    have hlen : (insR lt x (l.take i).reverse).reverse.length = i + 1 := by
      rw [List.length_reverse, insR_len, List.length_reverse, List.length_take]; omega
    show isortF lt f (i + 1) (sink lt i l) = _
    rw [isortF_fold f (i + 1) (sink lt i l) (by rw [sink_len]; omega), sink_ins hx]
    rw [show i + 1 = (insR lt x (l.take i).reverse).reverse.length from hlen.symm, List.drop_left, List.take_left, List.reverse_reverse, hlen, List.drop_eq_getElem_cons h1, hx1]
    rfl
theorem isort_fold {lt : α → α → Bool} (l : List α) : isort lt l = (l.foldl (fun a x => insR lt x a) []).reverse := by
  cases l with
  | nil => rfl
  | cons x r =>
    unfold isort
    rw [isortF_fold _ _ _ (by rw [List.length_cons]; omega)]
    rfl
theorem insR_pair {lt : α → α → Bool} {R : α → α → Prop} (tr : ∀ a b c, R a b → R b c → R a c) {x : α} : ∀ {l : List α}, l.Pairwise (fun a b => R b a) → (∀ y ∈ l, (lt x y = true → R x y) ∧ (lt x y = false → R y x)) → (insR lt x l).Pairwise (fun a b => R b a)
  | [], _, _ => List.pairwise_singleton _ _
  | y :: r, hp, hc => by
    obtain ⟨hp1, hp2⟩ := List.pairwise_cons.1 hp
    have hy := hc y (List.mem_cons_self ..)
    unfold insR
    split
    · rename_i h
      refine List.pairwise_cons.2 ⟨fun z hz => ?_, insR_pair (R := R) tr hp2 fun z hz => hc z (List.mem_cons_of_mem _ hz)⟩
      rcases insR_mem hz with rfl | hz
      · exact hy.1 h
      · exact hp1 z hz
    · rename_i h
      have h2 := hy.2 (by simpa using h)
      refine List.pairwise_cons.2 ⟨fun z hz => ?_, hp⟩
      rcases List.mem_cons.1 hz with rfl | hz
      · exact h2
      · exact tr _ _ _ (hp1 z hz) h2
theorem fold_pair {lt : α → α → Bool} {R : α → α → Prop} (tr : ∀ a b c, R a b → R b c → R a c) : ∀ {l acc : List α}, acc.Pairwise (fun a b => R b a) → (∀ y ∈ acc, ∀ x ∈ l, (lt x y = true → R x y) ∧ (lt x y = false → R y x)) → l.Pairwise (fun y x => (lt x y = true → R x y) ∧ (lt x y = false → R y x)) → (l.foldl (fun a x => insR lt x a) acc).Pairwise (fun a b => R b a)
  | [], _, h, _, _ => h
  | x :: r, acc, h, hc, hp => by
    obtain ⟨hp1, hp2⟩ := List.pairwise_cons.1 hp
    refine fold_pair (R := R) tr (l := r) (acc := insR lt x acc) (insR_pair (R := R) tr h fun y hy => hc y hy x (List.mem_cons_self ..)) (fun y hy z hz => ?_) hp2
    rcases insR_mem hy with rfl | hy
    · exact hp1 z hz
    · exact hc y hy z (List.mem_cons_of_mem _ hz)
/-- Sorting by insertion is stable, and sorts. -/
theorem isort_pair {lt : α → α → Bool} {R : α → α → Prop} (tr : ∀ a b c, R a b → R b c → R a c) {l : List α} (hp : l.Pairwise (fun y x => (lt x y = true → R x y) ∧ (lt x y = false → R y x))) : (isort lt l).Pairwise R := by
  rw [isort_fold, List.pairwise_reverse]
  exact fold_pair (R := R) tr List.Pairwise.nil (fun _ h => by cases h) hp
end
end Go.Proofs.YtempjmpfdniecaaGreatDoor
namespace Go.Proofs.YtempjmpfdniecaaGreatDoor
open Go.RowKit
theorem hkGot.open {t : ByteArray} {w w' : World} {e : Ending} (h : hrGot t w e w') : ∃ A n c, e = .returned (.tuple #[.agg #[.string (hrH t).key, .string (hrH t).driver, .int .i64 (hrH t).fr, .int .i64 (hrH t).to_, .slice A n c], .int .i64 (hrAt t), .int .i64 (hrE t)]) ∧ SlT lgEnc 9 135 w' A n (hrH t).legs ∧ w.grownBy w' none := by
  obtain ⟨k, d, f, t2, A, n, c, he, hH, hs, hg⟩ := h
  refine ⟨A, n, c, ?_, hs, hg⟩
  rw [he, show k = (hrH t).key from (congrArg Hr.key hH).symm, show d = (hrH t).driver from (congrArg Hr.driver hH).symm, show f = (hrH t).fr from (congrArg Hr.fr hH).symm, show t2 = (hrH t).to_ from (congrArg Hr.to_ hH).symm]
/-- Events in their order. -/
def evR (a b : Ev) : Prop := ¬ evOrd b a < 0
theorem evR_tr {a b d : Ev} (h1 : evR a b) (h2 : evR b d) : evR a d := fun h => by
  by_cases e1 : evOrd b a = 0
  · obtain ⟨ha, hv⟩ := evOrd_zero.1 e1
    refine h2 ?_
    rw [evOrd_neg] at h ⊢
    rw [ha, hv]; exact h
  · exact h2 (evOrd_trans h (evOrd_total h1 e1))
theorem evs_sorted (l : List Ev) : (isort evLt l).Pairwise evR := isort_pair (R := evR) (lt := evLt) (fun _ _ _ h1 h2 => evR_tr h1 h2) (List.pairwise_iff_getElem.2 fun _ _ _ _ _ => ⟨fun h h2 => evOrd_irrefl (evOrd_trans (of_decide_eq_true h) h2), fun h => of_decide_eq_false h⟩)
theorem evs_next {l : List Ev} {j : Nat} {x y : Ev} (h : l.Pairwise evR) (hy : l[j]? = some y) (hx : l[j + 1]? = some x) : ¬ evOrd x y < 0 := by
  obtain ⟨h1, rfl⟩ := List.getElem?_eq_some_iff.1 hy
  obtain ⟨h2, rfl⟩ := List.getElem?_eq_some_iff.1 hx
  exact List.pairwise_iff_getElem.1 h j (j + 1) h1 h2 (Nat.lt_succ_self j)
theorem closeE_ok {h : Hr} {r : Rd} (h0 : closeE h r = 0) : hireE ⟨h.key, h.driver, h.fr, h.to_, endLegs h.legs r⟩ = 0 := by
  unfold closeE at h0
  by_cases hg : goingE h = 0
  · rw [if_pos hg] at h0; exact h0
  · rw [if_neg hg] at h0; exact absurd h0 hg
theorem closeE_shut {h : Hr} {r : Rd} (h0 : hireE h = 0) (ho : openB h.legs = false) : closeE h r = 11 := by
  have hg : goingE h = 11 := by unfold goingE; rw [if_pos h0, if_neg (by rw [ho]; decide)]
  unfold closeE
  rw [hg, if_neg (by decide)]
theorem endLegs_lenK (l : List Lg) (r : Rd) : (endLegs l r).length = l.length := by
  unfold endLegs
  cases l[l.length - 1]? with
  | none => rfl
  | some g => exact List.length_set ..
theorem evSorted_any (l : List Ev) (A : Option Addr) (n c0 : Nat) (w : World) (hl : SlT evEnc 5 45 w A n l) (hn : n ≤ 1000) (hs : l.Pairwise evR) (hk : ∀ x ∈ l, EvOk x) :
  Calls Tryz.prog 17 #[.slice A n c0, .func (.func 18) #[] #[]] w (fun e w' => e = .returned (.bool true) ∧ w.grownBy w' none) := by
 refine gw_enter ⟨25, w, none, []⟩ Tryz.func17 rfl Tryz.ntmps17 rfl (mem0 (X := [SlOld evEnc 5 45 w.heap.size none A n l]) (allF_cons hl.old allF_nil) (allL_cons SlOld.lasts allL_nil)) ?_
 refine sr_ ?_
 have hlen := hl.len
 refine sg_ rfl (nn_ (gw_seq (sr_ (mv_ rfl (wl_ov (ov_len es39 rfl) rfl ?_)))))
 refine wl_ov (ov_sub rfl rfl (by omega) (by omega)) rfl ?_
 refine sg_ rfl (nn_ (gw_block ?_))
 refine gw_loop (γ := Nat) (fun (i : Nat) => i ≤ n) (fun (i : Nat) => [(0, .slice A n c0), (1, .func (.func 18) #[] #[]), (5, .int .i64 (((i : Nat) : Int) - 1))]) (fun (i : Nat) => fun _ => True) (fun (i : Nat) => []) (fun (i : Nat) => []) (fun (i : Nat) => [SlOld evEnc 5 45 w.heap.size none A n l]) (fun (i : Nat) => i) n (Nat.le_refl _) ⟨rfl, rfl, rfl, trivial⟩ (fun _ hm => hm.pick [] [] [0] rfl rfl) ?_
 intro i hinv
 replace hinv : i ≤ n := hinv
 refine gw_seq (sr_ (mv_ rfl ?_))
 refine wl_ov (ov_gtr rfl rfl) rfl ?_
 refine nn_ ?_
 refine gw_cond rfl (fun hh => ?_) (fun hh => ?_)
 ·have hi : 0 < ((i : Nat) : Int) - 1 := by simpa using hh
  clear hh
  refine gw_skip (nx_then (gw_seq (gw_block (gw_seq ?_))))
  obtain ⟨j, rfl⟩ : ∃ j, i = j + 2 := ⟨i - 2, by omega⟩
  have ej : (((j + 2 : Nat) : Int) - 1) = ((j + 1 : Nat) : Int) := by omega
  refine gw_set 5 (v' := .int .i64 ((j + 1 : Nat) : Int)) rfl (congrArg (Value.int .i64) ej) ?_
  obtain ⟨b, off, hA, _, _⟩ := hl.get (by omega)
  subst hA
  obtain ⟨x, hx⟩ : ∃ x, l[j + 1]? = some x := ⟨_, List.getElem?_eq_getElem (by omega)⟩
  obtain ⟨x0, x1, x2, x3, x4⟩ := x
  obtain ⟨y, hy⟩ : ∃ y, l[j]? = some y := ⟨_, List.getElem?_eq_getElem (by omega)⟩
  obtain ⟨y0, y1, y2, y3, y4⟩ := y
  have hkx := (hk _ (List.mem_of_getElem? hx)).1
  have hky := (hk _ (List.mem_of_getElem? hy)).1
  have hle := evs_next hs hy hx
  dsimp only at hkx hky
  refine gd (fun wz => (SlOld evEnc 5 45 w.heap.size none (some ⟨b, off, none⟩) n l) wz ∧ True) mixed (fun _ hm => ⟨hm.fa 0, trivial⟩) fun z => ?_
  refine wt 0 12 1 rfl z (ov_move rfl) ?_
  refine wt 1 12 3 rfl z (ov_move rfl) ?_
  refine wt 2 12 7 rfl z (ov_move rfl) ?_
  refine wt 3 12 15 rfl z (ov_index (j := j + 1) es39 rfl rfl (by omega)) ?_
  refine wt 4 12 31 rfl z (ov_elem (vs := [.int .i64 x0, .string x1, .string x2, .int .i64 x3, .string x4]) rz45 rfl (fun _ hm => (hm.1).1) hx rfl rfl) ?_
  refine wt 5 12 63 rfl z (ov_move rfl) ?_
  refine wt 6 12 127 rfl z (ov_move rfl) ?_
  refine wt 7 12 255 rfl z (ov_sub rfl rfl (by omega) (by omega)) ?_
  refine wa_set 20 (v' := .int .i64 ((j : Nat) : Int)) rfl (congrArg (Value.int .i64) (by omega)) ?_
  refine wt 8 12 511 rfl z (ov_index (j := j) es39 rfl rfl (by omega)) ?_
  refine wt 9 12 1023 rfl z (ov_elem (vs := [.int .i64 y0, .string y1, .string y2, .int .i64 y3, .string y4]) rz45 rfl (fun _ hm => (hm.1).1) hy rfl rfl) ?_
  refine wa1 10 rfl ?_
  refine wl_callv rfl cb18 rfl rfl (fun wx hm => (eventOrder_any x0 x1 x2 x3 x4 y0 y1 y2 y3 y4 wx hkx hky)) ?_
  refine wl_nil ?_
  refine nw 12 2047 (fun _ hm => ⟨hm.fa 0, trivial⟩) fun z => ?_
  refine wt 11 12 4095 rfl z (ov_lss rfl rfl) ?_
  refine wa_done (by kernel_rfl) ?_
  refine nx_then ?_
  refine gw_set 24 (v' := .bool false) rfl (congrArg Value.bool (decide_eq_false hle)) ?_
  refine cf_ rfl (gw_skip (nx_blk_nrm (nx_then (gw_region (mv_ rfl ?_)))))
  refine wl_ov (ov_sub rfl rfl (by omega) (by omega)) rfl ?_
  refine sg_ rfl (wl_nil ?_)
  exact nx_round (j + 1) (by omega) (by omega) ⟨rfl, rfl, (some_int (by omega)), trivial⟩ (fun _ hm => hm.pick [] [] [0] rfl rfl)
 have hi : ¬ (0 < ((i : Nat) : Int) - 1) := by simpa using hh
 clear hh
 refine gw_exit ?_
 refine nx_then_exit (nx_then_exit ?_)
 refine nx_blk_here ?_
 refine nx_then (sr_ (sg_ rfl (nn_ ?_)))
 refine gw_ret ?_
 refine nx_ret1 rfl rfl fun wx hm => ?_
 exact ⟨rfl, hm.g⟩
theorem hiresKeep_walk (a0 : Option Addr) (len0 cap0 : Nat) (z0 : List Int) (w : World) (hR : RowIn w a0 len0 cap0 z0) (htx : TxtW w) :
  Calls Tryz.prog 3 #[.slice a0 len0 cap0] w fun e w' => e = .returned (.bool true) ∧ Below w.heap.size w w' := by
 refine gw_enter ⟨116, w, none, []⟩ Tryz.func3 rfl Tryz.ntmps3 rfl (mem0 (X := []) allF_nil allL_nil) ?_
 refine sr_ (sg_ rfl (nn_ (sr_ (mv_ rfl ?_))))
 refine wl_ov (ov_build (cs := [.slice a0 len0 cap0, .int .i64 0]) rfl (by kernel_rfl)) rfl ?_
 refine wl_box rfl rfl rfl fun sb => ?_
 refine sg_ rfl (nn_ ?_)
 refine gw_law [135, 45] hR 0 rfl fun w1 B hg1 hsb => ?_
 refine sr_ ?_
 refine wl_also (Y := TxtO w1.heap.size (some sb)) (TxtO.lasts) (fun wx hm => txt_law htx hg1 hsb hm.g) ?_
 refine mv_ rfl (mv_ rfl ?_)
 refine wl_buildSlice (e := 3) (cs := [.int .i64 0, .int .i64 100]) rfl (by kernel_rfl) rfl fun g1 => ?_
 refine wl_got (γ := Int) (val := fun v => .int .i64 v) (φ := fun v => v ∈ ([0, 100] : List Int)) rfl cb11 rfl rfl rfl rfl (fun wx hm => (pick_any [0, 100] _ _ _ wx B sb _ hm.k (by omega) (by simp) (by simp) (hm.blkI 0 rfl) (hm.neRow 0 rfl rfl))) fun pf hpf => ?_
 have bpf : 0 ≤ pf ∧ pf ≤ 100 := mem_rng hpf (by decide)
 have bpf0 := bpf.1
 have bpf1 := bpf.2
 clear bpf
 refine wl_calls (γ := ByteArray × ByteArray × Int × Int × Option Addr × Nat × Nat × List Lg) (val := (fun g => .agg #[.string g.1, .string g.2.1, .int .i64 g.2.2.1, .int .i64 g.2.2.2.1, .slice g.2.2.2.2.1 g.2.2.2.2.2.1 g.2.2.2.2.2.2.1])) (φ := (fun g => HrOk g.1 g.2.1 g.2.2.2.2.2.2.2 ∧ hireE (⟨g.1, g.2.1, g.2.2.1, g.2.2.2.1, g.2.2.2.2.2.2.2⟩ : Hr) = 0 ∧ g.2.2.2.2.2.1 ≤ 4 ∧ g.2.2.2.2.2.2.2.length = g.2.2.2.2.2.1)) (Y := (fun g => fun wy => SlT lgEnc 9 135 wy g.2.2.2.2.1 g.2.2.2.2.2.1 g.2.2.2.2.2.2.2)) (m' := 0 + 1 + 1500) rfl cb10 rfl rfl rfl rfl (fun wx hm => (rightHireR_any ⟨#[104, 49]⟩ pf wx B sb _ hm.k (by omega) (by decide) (by decide +kernel) (by omega) (by omega)).mono fun _ _ ⟨k, d, f, t2, A, n, c, ls, he, h1, h2, h3, h4, h5, hS, hg⟩ => ⟨(k, d, f, t2, A, n, c, ls), he, ⟨h2, h5, h4, h1.len⟩, hS, hg, h1⟩) (fun _ => SlT.lasts2 rfl) ?_
 rintro ⟨k, d, f, t2, A, n, c, ls⟩ hH
 dsimp only at hH ⊢
 obtain ⟨hok, h0, hn4, hln⟩ := hH
 have hB := hrB_of h0
 have hts := hirTx_sz (l := ls) hB hB.2.2.2.2.1
 have hl20 : ls.length ≤ 20 := hB.2.2.2.2.2
 have htsz : (hirTx (⟨k, d, f, t2, ls⟩ : Hr) ls).size ≤ 200000 := by omega
 obtain ⟨hE0, hHH⟩ := hr_back h0 htsz
 dsimp only at hE0 hHH
 refine wl_alloc zc30 rfl fun g2 => ?_
 refine wl_stores (cs' := [.string k, .string d, .int .i64 f, .int .i64 t2, .slice A n c]) 0 rz30 rfl rfl rfl rfl rfl rfl rfl rfl ?_
 refine nn_ (gw_seq (sr_ ?_))
 refine wl_ov (ov_loads rz30 rfl (fun _ hm => hm.blkI 0 rfl) rfl rfl) rfl ?_
 refine wl_callv (v := .int .i64 0) rfl cb12 rfl rfl (fun wx hm => (by have h := hcheck_any k d f t2 ls A n c wx (hm.fact 0 rfl) hok (by omega); rw [h0] at h; exact h)) ?_
 refine wl_ov (ov_neq rfl rfl) rfl ?_
 refine wl_set 29 (v' := .bool false) rfl (congrArg Value.bool (by decide)) ?_
 refine nn_ (cf_ rfl (gw_skip (nx_then (sr_ ?_))))
 refine wl_ov (ov_loads rz30 rfl (fun _ hm => hm.blkI 0 rfl) rfl rfl) rfl ?_
 refine wl_callv rfl cb13 rfl rfl (fun wx hm => (hirText_right k d f t2 ls A n c wx (hm.fact 1 rfl).1 (hm.fact 0 rfl) hok (by omega) h0)) ?_
 refine mv_ rfl (wl_ov (ov_extract rfl rfl) rfl (wl_ov (ov_extract rfl rfl) rfl (sg_ rfl (sg_ rfl (nn_ (sr_ (mv_ rfl ?_)))))))
 refine wl_callx (γ := Option Addr × Nat × Nat) (val := (fun g => .tuple #[.agg #[.string k, .string d, .int .i64 f, .int .i64 t2, .slice g.1 g.2.1 g.2.2], .int .i64 (hrAt (hirTx (⟨k, d, f, t2, ls⟩ : Hr) ls)), .int .i64 0])) (φ := (fun g => g.2.1 = ls.length)) (Y := (fun g => fun wy => SlT lgEnc 9 135 wy g.1 g.2.1 ls)) rfl cb14 rfl rfl (fun wx hm => (hRead_w (hirTx (⟨k, d, f, t2, ls⟩ : Hr) ls) wx (hm.fact 1 rfl).1 (by omega)).mono fun _ _ h => by
  obtain ⟨A, n, c, he, hsl, hg⟩ := hkGot.open h
  rw [hE0, hHH] at he
  rw [hHH] at hsl
  exact ⟨(A, n, c), he, hsl.len.symm, hg, hsl⟩) (fun _ => SlT.lasts2 rfl) ?_
 rintro ⟨A3, n3, c3⟩ hn3
 dsimp only at hn3 ⊢
 replace hn3 : n = n3 := (hn3.trans hln).symm
 subst hn3
 refine mv_ rfl (wl_ov (ov_extract rfl rfl) rfl (wl_ov (ov_extract rfl rfl) rfl (wl_ov (ov_extract rfl rfl) rfl ?_)))
 refine wl_alloc zc30 rfl fun g3 => ?_
 refine wl_stores (cs' := [.string k, .string d, .int .i64 f, .int .i64 t2, .slice A3 n c3]) 0 rz30 rfl rfl rfl rfl rfl rfl rfl rfl ?_
 refine sg_ rfl (sg_ rfl (nn_ (sr_ ?_)))
 refine wl_ov (ov_loads rz30 rfl (fun _ hm => hm.blkI 1 rfl) rfl rfl) rfl ?_
 refine wl_callx (γ := Option Addr × Nat × Nat) (val := (fun g => .tuple #[.slice g.1 g.2.1 g.2.2, .int .i64 0])) (φ := (fun g => g.2.1 ≤ 8)) (Y := (fun g => fun wy => SlT evEnc 5 45 wy g.1 g.2.1 (isort evLt (hirEvs ls)))) rfl cb15 rfl rfl (fun wx hm => (hirEvents_right k d f t2 ls A n c wx (hm.fact 1 rfl) hok hn4 h0).mono fun _ _ ⟨E, q, ec, he, h1, h2, hg⟩ => ⟨(E, q, ec), he, h2, hg, h1⟩) (fun _ => SlT.lasts2 rfl) ?_
 rintro ⟨E1, q1, ec1⟩ hq1
 dsimp only at hq1 ⊢
 refine mv_ rfl (wl_ov (ov_extract rfl rfl) rfl (wl_ov (ov_extract rfl rfl) rfl (sg_ rfl (sg_ rfl (nn_ (gw_seq (sr_ (mv_ rfl (wl_ov (ov_neq rfl rfl) rfl ?_)))))))))
 refine wl_set 47 (v' := .bool false) rfl (congrArg Value.bool (by decide)) ?_
 refine mv_ rfl (wl_guard_on rfl rfl rfl (mv_ rfl (wl_guard_on rfl rfl rfl (wl_ov (ov_neq rfl rfl) rfl ?_))))
 refine wl_set 50 (v' := .bool false) rfl (congrArg Value.bool (by decide)) ?_
 refine pf_ rfl rfl (mv_ rfl (wl_guard_on rfl rfl rfl (mv_ rfl (wl_guard_on rfl rfl rfl (wl_ov (ov_neq rfl rfl) rfl ?_)))))
 refine wl_set 54 (v' := .bool false) rfl (congrArg Value.bool (by decide)) ?_
 refine pf_ rfl rfl (mv_ rfl (wl_guard_on rfl rfl rfl ?_))
 refine wl_ov (ov_loads rz30 rfl (fun _ hm => hm.blkI 0 rfl) rfl rfl) rfl ?_
 refine wl_guard_on rfl rfl rfl ?_
 refine wl_ov (ov_loads rz30 rfl (fun _ hm => hm.blkI 1 rfl) rfl rfl) rfl ?_
 refine wl_guard_on rfl rfl rfl ?_
 refine wl_callv rfl cb16 rfl rfl (fun wx hm => (sameHire_any k d f t2 ls A3 A n c3 c wx (hm.fact 1 rfl) (hm.fact 2 rfl) (by omega))) ?_
 refine wl_guard_on rfl rfl rfl (wl_ov (ov_un_not rfl) rfl ?_)
 refine wl_set 60 (v' := .bool false) rfl (congrArg Value.bool (by decide)) ?_
 refine pf_ rfl rfl (mv_ rfl (wl_guard_on rfl rfl rfl (mv_ rfl (wl_guard_on rfl rfl rfl ?_))))
 refine wl_callv rfl cb17 rfl rfl (fun wx hm => (evSorted_any (isort evLt (hirEvs ls)) E1 q1 ec1 wx (hm.fact 0 rfl) (by omega) (evs_sorted _) (fun x hx => hirEvs_ok hB.2.2.2.2.1 x (isort_mem.1 hx)))) ?_
 refine wl_guard_on rfl rfl rfl (wl_ov (ov_un_not rfl) rfl ?_)
 refine wl_set 65 (v' := .bool false) rfl (congrArg Value.bool (by decide)) ?_
 refine pf_ rfl rfl (nn_ (cf_ rfl (gw_skip (nx_then (sr_ (mv_ rfl (mv_ rfl ?_)))))))
 refine wl_buildSlice (e := 3) (cs := [.int .i64 200, .int .i64 3000, .int .i64 9000]) rfl (by kernel_rfl) rfl fun g4 => ?_
 refine wl_got (γ := Int) (val := fun v => .int .i64 v) (φ := fun v => v ∈ ([200, 3000, 9000] : List Int)) rfl cb11 rfl rfl rfl rfl (fun wx hm => (pick_any [200, 3000, 9000] _ _ _ wx B sb _ hm.k (by omega) (by simp) (by simp) (hm.blkI 0 rfl) (hm.neRow 0 rfl rfl))) fun pr hpr => ?_
 have bpr : 200 ≤ pr ∧ pr ≤ 9000 := mem_rng hpr (by decide)
 have bpr0 := bpr.1
 have bpr1 := bpr.2
 clear bpr
 refine wl_calls (γ := Int × ByteArray × Int × Int) (val := (fun g => .agg #[.int .i64 g.1, .string g.2.1, .int .i64 g.2.2.1, .int .i64 g.2.2.2])) (φ := (fun g => RdOk ⟨g.1, g.2.1, g.2.2.1, g.2.2.2⟩)) (Y := (fun g => fun _ => True)) (m' := 0 + 1 + 1500 + 1 + 10) rfl cb19 rfl rfl rfl rfl (fun wx hm => (greading_any pr wx B sb _ hm.k (by omega) (by omega) (by omega)).mono fun _ _ ⟨r, hok, he, hS, hg⟩ => ⟨(r.at_, r.st, r.meter, r.fuel), he, hok, hS, hg, trivial⟩) (fun _ => Lasts2.true_) ?_
 rintro ⟨ra, rs, rm, rf⟩ hr
 dsimp only at hr ⊢
 obtain ⟨CE, hCE⟩ : ∃ z, z = closeE (⟨k, d, f, t2, ls⟩ : Hr) (⟨ra, rs, rm, rf⟩ : Rd) := ⟨_, rfl⟩
 refine wl_alloc zc48 rfl fun g6 => ?_
 refine wl_stores (cs' := [.int .i64 ra, .string rs, .int .i64 rm, .int .i64 rf]) 0 rz48 rfl rfl rfl rfl rfl rfl rfl rfl ?_
 refine nn_ (gw_seq (sr_ ?_))
 refine wl_ov (ov_loads rz30 rfl (fun _ hm => hm.blkI 3 rfl) rfl rfl) rfl ?_
 refine wl_ov (ov_loads rz48 rfl (fun _ hm => hm.blkI 0 rfl) rfl rfl) rfl ?_
 by_cases hCE0 : CE = 0
 ·have h5 := closeE_ok (hCE.symm.trans hCE0)
  dsimp only at h5
  have hok5 : HrOk k d (endLegs ls (⟨ra, rs, rm, rf⟩ : Rd)) := ⟨hok.1, hok.2.1, end_ok hok.2.2 hr⟩
  have hlen5 := endLegs_lenK ls (⟨ra, rs, rm, rf⟩ : Rd)
  refine wl_callx (γ := Option Addr × Nat) (val := (fun g => .tuple #[.agg #[.string k, .string d, .int .i64 f, .int .i64 t2, .slice g.1 n g.2], .int .i64 0])) (φ := (fun g => True)) (Y := (fun g => fun wy => SlT lgEnc 9 135 wy g.1 n (endLegs ls (⟨ra, rs, rm, rf⟩ : Rd)))) rfl cb20 rfl rfl (fun wx hm => (by have h := close_any k d f t2 ls A n c (⟨ra, rs, rm, rf⟩ : Rd) wx (hm.fact 3 rfl) hok hr (by omega); rw [← hCE, hCE0] at h; exact h.mono fun _ _ ⟨hg, A5, c5, he, hs⟩ => ⟨(A5, c5), by rw [he]; unfold madeV; rw [if_pos rfl], trivial, hg, hs rfl⟩)) (fun _ => SlT.lasts2 rfl) ?_
  rintro ⟨A5, c5⟩ hphi
  dsimp only
  clear hphi
  rcases Bool.eq_false_or_eq_true (openB (endLegs ls (⟨ra, rs, rm, rf⟩ : Rd))) with hob | hob
  ·refine mv_ rfl (wl_ov (ov_extract rfl rfl) rfl (wl_ov (ov_extract rfl rfl) rfl ?_))
   refine wl_alloc zc30 rfl fun g7 => ?_
   refine wl_stores (cs' := [.string k, .string d, .int .i64 f, .int .i64 t2, .slice A5 n c5]) 0 rz30 rfl rfl rfl rfl rfl rfl rfl rfl ?_
   refine sg_ rfl (nn_ (sr_ (mv_ rfl (wl_ov (ov_eql rfl rfl) rfl ?_))))
   refine wl_set 79 (v' := .bool true) rfl (congrArg Value.bool (by decide)) ?_
   refine mv_ rfl (wl_guard_on rfl rfl rfl ?_)
   refine wl_ov (ov_loads rz30 rfl (fun _ hm => hm.blkI 0 rfl) rfl rfl) rfl ?_
   refine wl_guard_on rfl rfl rfl ?_
   refine wl_callv rfl cb21 rfl rfl (fun wx hm => (isOpen_any k d f t2 (endLegs ls (⟨ra, rs, rm, rf⟩ : Rd)) A5 n c5 wx (hm.fact 0 rfl) (by omega))) ?_
   refine wl_guard_on rfl rfl rfl (wl_ov (ov_un_not rfl) rfl (pt_ rfl rfl (nn_ ?_)))
   refine gw_set 84 (v' := .bool false) rfl (congrArg Value.bool (by rw [hob]; rfl)) ?_
   refine cf_ rfl (gw_skip (nx_then (sr_ ?_)))
   refine wl_callv rfl cb23 rfl rfl (fun wx hm => (ready_any wx)) ?_
   refine sg_ rfl (nn_ ?_)
   refine gw_ret ?_
   refine nx_ret1 rfl rfl fun wx hm => ?_
   exact ⟨rfl, law_end hg1 hsb hm.g⟩
  have hcl5 : closedE ⟨k, d, f, t2, endLegs ls (⟨ra, rs, rm, rf⟩ : Rd)⟩ = 0 := by unfold closedE; rw [if_pos h5, hob]; rfl
  obtain ⟨KM, hKM⟩ : ∃ z, z = sumBy kmOf (endLegs ls (⟨ra, rs, rm, rf⟩ : Rd)) := ⟨_, rfl⟩
  have hKM0 : 0 ≤ KM := by
   have h := (sumBy_bound (l := endLegs ls (⟨ra, rs, rm, rf⟩ : Rd)) (f := kmOf) (fun x hx => kmOf_bound (closed_num h5 hob x hx).1)).1
   rw [← hKM] at h; omega
  refine mv_ rfl (wl_ov (ov_extract rfl rfl) rfl (wl_ov (ov_extract rfl rfl) rfl ?_))
  refine wl_alloc zc30 rfl fun g8 => ?_
  refine wl_stores (cs' := [.string k, .string d, .int .i64 f, .int .i64 t2, .slice A5 n c5]) 0 rz30 rfl rfl rfl rfl rfl rfl rfl rfl ?_
  refine sg_ rfl (nn_ (sr_ (mv_ rfl (wl_ov (ov_eql rfl rfl) rfl ?_))))
  refine wl_set 79 (v' := .bool true) rfl (congrArg Value.bool (by decide)) ?_
  refine mv_ rfl (wl_guard_on rfl rfl rfl ?_)
  refine wl_ov (ov_loads rz30 rfl (fun _ hm => hm.blkI 0 rfl) rfl rfl) rfl ?_
  refine wl_guard_on rfl rfl rfl ?_
  refine wl_callv rfl cb21 rfl rfl (fun wx hm => (isOpen_any k d f t2 (endLegs ls (⟨ra, rs, rm, rf⟩ : Rd)) A5 n c5 wx (hm.fact 0 rfl) (by omega))) ?_
  refine wl_guard_on rfl rfl rfl (wl_ov (ov_un_not rfl) rfl (pt_ rfl rfl (nn_ ?_)))
  refine gw_set 84 (v' := .bool true) rfl (congrArg Value.bool (by rw [hob]; rfl)) ?_
  refine ct_ rfl (sr_ ?_)
  refine wl_ov (ov_loads rz30 rfl (fun _ hm => hm.blkI 0 rfl) rfl rfl) rfl ?_
  refine wl_callv (v := .tuple #[.int .i64 KM, .int .i64 0]) rfl cb22 rfl rfl (fun wx hm => (by have h := kmF_any k d f t2 (endLegs ls (⟨ra, rs, rm, rf⟩ : Rd)) A5 n c5 wx (hm.fact 0 rfl) hok5 (by omega); rw [hcl5, if_pos rfl, ← hKM] at h; exact h)) ?_
  refine mv_ rfl (wl_ov (ov_extract rfl rfl) rfl (wl_ov (ov_extract rfl rfl) rfl (sg_ rfl (sg_ rfl (nn_ (sr_ ?_))))))
  refine wl_ov (ov_loads rz30 rfl (fun _ hm => hm.blkI 0 rfl) rfl rfl) rfl ?_
  refine wl_ov (ov_loads rz48 rfl (fun _ hm => hm.blkI 1 rfl) rfl rfl) rfl ?_
  refine wl_callv (v := .tuple #[.agg #[.string ⟨#[]⟩, .string ⟨#[]⟩, .int .i64 0, .int .i64 0, .slice none 0 0], .int .i64 11]) rfl cb20 rfl rfl (fun wx hm => (by have h := close_any k d f t2 (endLegs ls (⟨ra, rs, rm, rf⟩ : Rd)) A5 n c5 (⟨ra, rs, rm, rf⟩ : Rd) wx (hm.fact 0 rfl) hok5 hr (by omega); rw [closeE_shut h5 hob] at h; exact h.mono fun _ _ ⟨hg, A6, c6, he, _⟩ => ⟨by rw [he]; unfold madeV; rw [if_neg (by decide)], hg⟩)) ?_
  refine mv_ rfl (wl_ov (ov_extract rfl rfl) rfl (wl_ov (ov_extract rfl rfl) rfl ?_))
  refine wl_alloc zc30 rfl fun g9 => ?_
  refine wl_stores (cs' := [.string ⟨#[]⟩, .string ⟨#[]⟩, .int .i64 0, .int .i64 0, .slice none 0 0]) 0 rz30 rfl rfl rfl rfl rfl rfl rfl rfl ?_
  refine sg_ rfl (nn_ (sr_ (mv_ rfl (wl_ov (ov_eql rfl rfl) rfl ?_))))
  refine wl_set 97 (v' := .bool true) rfl (congrArg Value.bool (by decide)) ?_
  refine mv_ rfl (wl_guard_on rfl rfl rfl (mv_ rfl (wl_guard_on rfl rfl rfl ?_)))
  refine wl_ov (ov_geq rfl rfl) rfl ?_
  refine pt_ rfl rfl (mv_ rfl ?_)
  refine wl_set 102 (v' := .bool true) rfl (congrArg Value.bool (decide_eq_true hKM0)) ?_
  refine wl_guard_on rfl rfl rfl (mv_ rfl (wl_guard_on rfl rfl rfl (wl_ov (ov_eql rfl rfl) rfl ?_)))
  refine wl_set 104 (v' := .bool true) rfl (congrArg Value.bool (by decide)) ?_
  refine pt_ rfl rfl (mv_ rfl (wl_guard_on rfl rfl rfl (fd_ fo30_3 rfl rfl (wl_guard_on rfl rfl rfl (lk_ sc28 0 rfl rfl rfl (wl_guard_on rfl rfl rfl (wl_ov (ov_len es28 rfl) rfl ?_)))))))
  refine wl_set 109 (v' := .int .i64 0) rfl rfl ?_
  refine wl_guard_on rfl rfl rfl (wl_ov (ov_eql rfl rfl) rfl ?_)
  refine wl_set 110 (v' := .bool true) rfl (congrArg Value.bool (by decide)) ?_
  refine pt_ rfl rfl (mv_ rfl (wl_guard_on rfl rfl rfl ?_))
  refine wl_callv rfl cb23 rfl rfl (fun wx hm => (ready_any wx)) ?_
  refine pt_ rfl rfl (sg_ rfl (nn_ ?_))
  refine gw_ret ?_
  refine nx_then_ret ?_
  refine nx_ret1 rfl rfl fun wx hm => ?_
  exact ⟨rfl, law_end hg1 hsb hm.g⟩
 refine wl_callv (v := .tuple #[.agg #[.string ⟨#[]⟩, .string ⟨#[]⟩, .int .i64 0, .int .i64 0, .slice none 0 0], .int .i64 CE]) rfl cb20 rfl rfl (fun wx hm => (by have h := close_any k d f t2 ls A n c (⟨ra, rs, rm, rf⟩ : Rd) wx (hm.fact 3 rfl) hok hr (by omega); rw [← hCE] at h; exact h.mono fun _ _ ⟨hg, A6, c6, he, _⟩ => ⟨by rw [he]; unfold madeV; rw [if_neg hCE0], hg⟩)) ?_
 refine mv_ rfl (wl_ov (ov_extract rfl rfl) rfl (wl_ov (ov_extract rfl rfl) rfl ?_))
 refine wl_alloc zc30 rfl fun g10 => ?_
 refine wl_stores (cs' := [.string ⟨#[]⟩, .string ⟨#[]⟩, .int .i64 0, .int .i64 0, .slice none 0 0]) 0 rz30 rfl rfl rfl rfl rfl rfl rfl rfl ?_
 refine sg_ rfl (nn_ (sr_ (mv_ rfl (wl_ov (ov_eql rfl rfl) rfl (mv_ rfl ?_)))))
 refine wl_set 80 (v' := .bool false) rfl (congrArg Value.bool (decide_eq_false hCE0)) ?_
 refine goff rfl rfl rfl (goff rfl rfl rfl (goff rfl rfl rfl (pf_ rfl rfl (nn_ (cf_ rfl (gw_skip (nx_then (sr_ ?_))))))))
 refine wl_callv rfl cb23 rfl rfl (fun wx hm => (ready_any wx)) ?_
 refine sg_ rfl (nn_ ?_)
 refine gw_ret ?_
 refine nx_ret1 rfl rfl fun wx hm => ?_
 exact ⟨rfl, law_end hg1 hsb hm.g⟩
theorem hiresKeep_law {l : List (String × DataW Unit)} (y1 y2 : List UInt8) (a0 : Option Addr) (len0 cap0 : Nat) (z0 : List Int) (W : World) (hR : RowIn W a0 len0 cap0 z0) (hL : laidMet Tryz.prog l W) (hS : W.ShapedOpen Tryz.prog)
    (h1 : l.filter (fun x => x.1 == "internal/strconv.uint64pow10") = [("internal/strconv.uint64pow10", Lib.tabData .u64 Lib.pow10Tab)])
    (h2 : l.filter (fun x => x.1 == "strconv.ErrSyntax") = [("strconv.ErrSyntax", .iface "*errors.errorString" (.ptr (.agg [.lit (.string y1)])))])
    (h3 : l.filter (fun x => x.1 == "strconv.ErrRange") = [("strconv.ErrRange", .iface "*errors.errorString" (.ptr (.agg [.lit (.string y2)])))]) :
    Calls Tryz.prog 3 #[.slice a0 len0 cap0] W fun e w' => e = .returned (.bool true) ∧ Below W.heap.size W w' :=
  hiresKeep_walk a0 len0 cap0 z0 W hR (txtW_of y1 y2 hL hS h1 h2 h3)
end Go.Proofs.YtempjmpfdniecaaGreatDoor
