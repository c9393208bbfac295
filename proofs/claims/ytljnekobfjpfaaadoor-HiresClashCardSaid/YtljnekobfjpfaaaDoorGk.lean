/- The walk of the generator Hire (by gen_hire.py). -/
import Derived.Test.YtljnekobfjpfaaaDoorGj
import Derived.Test.YtljnekobfjpfaaaDoorGh
import Derived.IntWalk
namespace Go.Proofs.YtljnekobfjpfaaaDoor
open Go.RowKit

theorem rightHire_kept {w0 w : World} {B sb m : Nat} {L : List (Nat × TypeId × List Value)} {X : World → Prop} (I : Kept 25 [138] w0 B sb m L X w) (key : ByteArray) (fr : Int) (hm : m ≤ 10000000000) (hkey : key.size ≤ 100) (hkb : keyB key = true) (hf0 : 0 ≤ fr) (hf1 : fr ≤ 5000000) :
    Calls Tryd.prog 117 #[.pointer (some ⟨sb, 0, none⟩), .string key, .int .i64 fr] w (fun e w' => ∃ (k d : ByteArray) (f t : Int) (A : Option Addr) (n c : Nat) (l : List Lg), e = .returned (.agg #[.string k, .string d, .int .i64 f, .int .i64 t, .slice A n c]) ∧ HrOk k d l ∧ 1 ≤ n ∧ n ≤ 4 ∧ Kept 25 [138] w0 B sb (m + 1500) L (fun w => X w ∧ SlT lgEnc 9 138 w A n l) w') :=
  (rightHire_any key fr w B sb m I.s hm hkey hkb hf0 hf1).mono fun _ _ ⟨k, d, f, t, A, n, c, l, he, hsl, hok, h1, h4, hS, hg⟩ => ⟨k, d, f, t, A, n, c, l, he, hok, h1, h4, (I.strm hS hg).also (SlT.lasts (List.mem_singleton.2 rfl)) hsl⟩
theorem h1_key : keyB ⟨#[104, 49]⟩ = true := by kernel_rfl

set_option maxRecDepth 100000 in
set_option maxHeartbeats 4000000 in
theorem ghire_any (w : World) (B sb m : Nat) (hS : Strm 25 w B sb m) (hm : m ≤ 1000000000) :
    Calls Tryd.prog 55 #[.pointer (some ⟨sb, 0, none⟩)] w (fun e w' => ∃ (k d : ByteArray) (f t : Int) (A : Option Addr) (n c : Nat) (l : List Lg), e = .returned (.agg #[.string k, .string d, .int .i64 f, .int .i64 t, .slice A n c]) ∧ SlT lgEnc 9 138 w' A n l ∧ HrOk k d l ∧ n ≤ 4 ∧ Strm 25 w' B sb (m + 2000) ∧ w.grownBy w' (some sb)) := by
  go_enter Tryd.func55, Tryd.ntmps55
  go_wp2_with fail
  have I := Kept.start (Tt := [138]) hS (by decide)
  clear hS
  refine (pick_kept (I.alloc2 36 [.string ⟨#[]⟩, .string ⟨#[]⟩, .int .i64 0, .int .i64 0, .slice none 0 0] _ _) [0, 100, 1440] (List.Mem.head _) (by omega) (by with_unfolding_all rfl) (by with_unfolding_all rfl) (by decide) (by decide)).mono ?_
  rintro e w1 ⟨fr, hfr, rfl, I2⟩
  have hfb : 0 ≤ fr ∧ fr ≤ 1440 := by simp at hfr; omega
  have hf0 := hfb.1
  have hf1 := hfb.2
  clear I hfr hfb
  have I := I2.sub (L' := [(w.heap.size, 36, [.string ⟨#[]⟩, .string ⟨#[]⟩, .int .i64 0, .int .i64 0, .slice none 0 0])]) (List.Sublist.cons _ (List.Sublist.refl _))
  clear I2
  go_wp2_with fail
  refine (rightHire_kept I ⟨#[104, 49]⟩ fr (by omega) (by decide) h1_key (by omega) (by omega)).mono ?_
  rintro e w3 ⟨k1, d1, f1, t1, A1, n1, c1, l1, rfl, hok, hn1, hn4, I2⟩
  have Hok := Lib.hid hok
  have I3 := (I2.only (SlT.lasts (by decide)) I2.x.2).alloc 36 [.string k1, .string d1, .int .i64 f1, .int .i64 t1, .slice A1 n1 c1]
  clear I I2 hok
  obtain ⟨Hb, hHb⟩ : ∃ Hb, Hb = w3.heap.size := ⟨_, rfl⟩
  rw [← hHb] at I3
  have I := I3
  clear I3
  go_wp2_with fail
  rw [← hHb]
  clear hHb
  refine (flip_kept I 10 (by omega) (by omega) (by omega)).mono ?_
  rintro e w4 ⟨fl, rfl, I2⟩
  clear I
  have I := I2
  clear I2
  cases fl
  · have hbH := I.blk (List.mem_cons_self ..)
    have hbR := I.blk (g := w.heap.size) (by repeat (first | exact List.mem_cons_self .. | apply List.mem_cons_of_mem))
    go_wp2_with (first
      | (with_reducible refine wpList_load_all rfl 36 (.tmp 3) rfl Hb _ _ _ hbH rfl Tryd.underlying36 rfl 5 info_hr rfl ?_)
      | (with_reducible refine wpList_store_all rfl 36 (.tmp 2) (.tmp 15) rfl w.heap.size _ _ [.string k1, .string d1, .int .i64 f1, .int .i64 t1, .slice A1 n1 c1] hbR rfl rfl 5 info_hr rfl rfl (by simp [Value.oneCell']) ?_
         intro w9 hb9 hg9))
    have I9 := I.stored (L' := []) (g := w.heap.size) (by repeat (first | exact List.mem_cons_self .. | apply List.mem_cons_of_mem)) (by decide) hg9 hb9 (fun x hx => by cases hx) List.Pairwise.nil
    refine ret_blk (p := 2) (ty := 36) rfl w.heap.size _ _ _ hb9 rfl Tryd.underlying36 rfl 5 info_hr rfl rfl ?_
    exact ⟨_, _, _, _, _, _, _, _, rfl, I9.x, Hok.out, by omega, I9.s.more (by omega), I9.g⟩

  · have hbH := I.blk (g := Hb) (by repeat (first | exact List.mem_cons_self .. | apply List.mem_cons_of_mem))
    have q4 := hbH.cell_of (i := 4) (v := .slice A1 n1 c1) rfl
    clear hbH
    go_wp2_with fail
    refine (cloneLegs_any l1 A1 n1 c1 _ I.x (by omega) (by omega)).mono ?_
    rintro e w5 ⟨g, c2, rfl, hown, hg5⟩
    obtain ⟨cs, hbL, hfit, htk⟩ := hown.blk
    have Hf := Lib.hid (show Fit cs n1 l1 from ⟨hfit, htk, I.x.len⟩)
    have I2 := I.free.add hg5 hown.1 hbL
    clear q4 I hown hbL hfit htk hg5
    have I := I2
    clear I2
    have hbH := I.blk (g := Hb) (by repeat (first | exact List.mem_cons_self .. | apply List.mem_cons_of_mem))
    have q4 := hbH.cell_of (i := 4) (v := .slice A1 n1 c1) rfl
    have p4 := hbH.frozen 4
    have I2 := I.put2 (hbH.set_ 4 (.slice (some ⟨g, 0, none⟩) n1 c2)) (grow_setCell (World.grownBy.refl _ _) (p := ⟨Hb, 4, none⟩) (.inl rfl) _)
    go_wp2_with fail
    refine (next_kept I2 6 (by omega) (by omega) (by omega)).mono ?_
    rintro e w6 ⟨v, hv, rfl, I3⟩
    have hvc : v = 0 ∨ v = 1 ∨ v = 2 ∨ v = 3 ∨ v = 4 ∨ v = 5 := by rcases hv with ⟨h1, h2 | h2⟩ <;> omega
    clear I I2 q4 p4 hbH hv
    have I := (I3.more (m' := m + 1900) (by omega)).sub (L' := [(g, 138, cs), (Hb, 36, [.string k1, .string d1, .int .i64 f1, .int .i64 t1, .slice (some ⟨g, 0, none⟩) n1 c2]), (w.heap.size, 36, [.string ⟨#[]⟩, .string ⟨#[]⟩, .int .i64 0, .int .i64 0, .slice none 0 0])]) (List.Sublist.refl _)
    clear I3
    rcases hvc with rfl | rfl | rfl | rfl | rfl | rfl
    · go_wp2_with fail
      refine (some_kept (I.alloc _ _) [⟨#[104, 49]⟩, ⟨#[]⟩, ⟨#[65]⟩] (List.Mem.head _) (by omega) (by with_unfolding_all rfl) (by with_unfolding_all rfl) (by decide) (by decide)).mono ?_
      rintro e w2 ⟨ka, hka, rfl, I2⟩
      have hska : ka.size ≤ 100 := mem_small hka (by decide)
      clear I hka
      have I := I2.sub (List.Sublist.cons _ (List.Sublist.refl _))
      clear I2
      go_wp2_with fail
      refine (some_kept (I.alloc _ _) [⟨#[97, 110, 110]⟩, ⟨#[]⟩] (List.Mem.head _) (by omega) (by with_unfolding_all rfl) (by with_unfolding_all rfl) (by decide) (by decide)).mono ?_
      rintro e w2 ⟨da, hda, rfl, I2⟩
      have hsda : da.size ≤ 100 := mem_small hda (by decide)
      clear I hda
      have I := I2.sub (List.Sublist.cons _ (List.Sublist.refl _))
      clear I2
      have hbH := I.blk (g := Hb) (by repeat (first | exact List.mem_cons_self .. | apply List.mem_cons_of_mem))
      have q0 := hbH.cell_of (i := 0) (v := .string k1) rfl
      have p0 := hbH.frozen 0
      have q1 := hbH.cell_of (i := 1) (v := .string d1) rfl
      have p1 := hbH.frozen 1
      clear hbH
      go_upto_region 20 with fail
      have I2 := I.put2 (((I.blk (g := Hb) (by repeat (first | exact List.mem_cons_self .. | apply List.mem_cons_of_mem))).set_ 0 (.string ka)).set_ 1 (.string da)) (grow_setCell (grow_setCell (World.grownBy.refl _ _) (p := ⟨Hb, 0, none⟩) (.inl rfl) _) (p := ⟨Hb, 1, none⟩) (.inl rfl) _)
      have I3 := I2.legs Hf.out (by decide)
      clear I I2 q0 q1 p0 p1
      have I := I3
      clear I3
      have hbH := I.blk (List.mem_cons_self ..)
      have hbR := I.blk (g := w.heap.size) (by repeat (first | exact List.mem_cons_self .. | apply List.mem_cons_of_mem))
      go_wp2_with (first
        | (with_reducible refine wpList_load_all rfl 36 (.tmp 3) rfl Hb _ _ _ hbH rfl Tryd.underlying36 rfl 5 info_hr rfl ?_)
        | (with_reducible refine wpList_store_all rfl 36 (.tmp 2) (.tmp 95) rfl w.heap.size _ _ [.string ka, .string da, .int .i64 f1, .int .i64 t1, .slice (some ⟨g, 0, none⟩) n1 c2] hbR rfl rfl 5 info_hr rfl rfl (by simp [Value.oneCell']) ?_
           intro w9 hb9 hg9))
      have I9 := I.stored (L' := []) (g := w.heap.size) (by repeat (first | exact List.mem_cons_self .. | apply List.mem_cons_of_mem)) (by decide) hg9 hb9 (fun x hx => by cases hx) List.Pairwise.nil
      refine ret_blk (p := 2) (ty := 36) rfl w.heap.size _ _ _ hb9 rfl Tryd.underlying36 rfl 5 info_hr rfl rfl ?_
      exact ⟨_, _, _, _, _, _, _, _, rfl, I9.x, ⟨by omega, by omega, Hok.out.2.2⟩, by omega, I9.s.more (by omega), I9.g⟩
    · go_wp2_with fail
      refine (time_kept I (by omega)).mono ?_
      rintro e w2 ⟨f2, t2, _, _, rfl, I2⟩
      clear I
      have I := I2
      clear I2
      have hbH := I.blk (g := Hb) (by repeat (first | exact List.mem_cons_self .. | apply List.mem_cons_of_mem))
      have q2 := hbH.cell_of (i := 2) (v := .int .i64 f1) rfl
      have p2 := hbH.frozen 2
      have q3 := hbH.cell_of (i := 3) (v := .int .i64 t1) rfl
      have p3 := hbH.frozen 3
      clear hbH
      go_upto_region 20 with fail
      have I2 := I.put2 (((I.blk (g := Hb) (by repeat (first | exact List.mem_cons_self .. | apply List.mem_cons_of_mem))).set_ 2 (.int .i64 f2)).set_ 3 (.int .i64 t2)) (grow_setCell (grow_setCell (World.grownBy.refl _ _) (p := ⟨Hb, 2, none⟩) (.inl rfl) _) (p := ⟨Hb, 3, none⟩) (.inl rfl) _)
      have I3 := I2.legs Hf.out (by decide)
      clear I I2 q2 q3 p2 p3
      have I := I3
      clear I3
      have hbH := I.blk (List.mem_cons_self ..)
      have hbR := I.blk (g := w.heap.size) (by repeat (first | exact List.mem_cons_self .. | apply List.mem_cons_of_mem))
      go_wp2_with (first
        | (with_reducible refine wpList_load_all rfl 36 (.tmp 3) rfl Hb _ _ _ hbH rfl Tryd.underlying36 rfl 5 info_hr rfl ?_)
        | (with_reducible refine wpList_store_all rfl 36 (.tmp 2) (.tmp 95) rfl w.heap.size _ _ [.string k1, .string d1, .int .i64 f2, .int .i64 t2, .slice (some ⟨g, 0, none⟩) n1 c2] hbR rfl rfl 5 info_hr rfl rfl (by simp [Value.oneCell']) ?_
           intro w9 hb9 hg9))
      have I9 := I.stored (L' := []) (g := w.heap.size) (by repeat (first | exact List.mem_cons_self .. | apply List.mem_cons_of_mem)) (by decide) hg9 hb9 (fun x hx => by cases hx) List.Pairwise.nil
      refine ret_blk (p := 2) (ty := 36) rfl w.heap.size _ _ _ hb9 rfl Tryd.underlying36 rfl 5 info_hr rfl rfl ?_
      exact ⟨_, _, _, _, _, _, _, _, rfl, I9.x, Hok.out, by omega, I9.s.more (by omega), I9.g⟩
    · have hbH := I.blk (g := Hb) (by repeat (first | exact List.mem_cons_self .. | apply List.mem_cons_of_mem))
      have q4 := hbH.cell_of (i := 4) (v := .slice (some ⟨g, 0, none⟩) n1 c2) rfl
      have p4 := hbH.frozen 4
      clear hbH
      go_upto_region 20 with fail
      have I2 := I.put2 ((I.blk (g := Hb) (by repeat (first | exact List.mem_cons_self .. | apply List.mem_cons_of_mem))).set_ 4 (.slice none 0 0)) (grow_setCell (World.grownBy.refl _ _) (p := ⟨Hb, 4, none⟩) (.inl rfl) _)
      have I3 := (I2.sub (List.Sublist.cons _ (List.Sublist.refl _)))
      have I4 : Kept 25 [138] w B sb _ _ (fun w => SlT lgEnc 9 138 w none 0 []) _ := ⟨I3.s, I3.g, I3.b, I3.nd, by decide, SlT.lasts (List.mem_singleton.2 rfl), SlT.nil_ _ _⟩
      clear I I2 I3 q4 p4
      have I := I4
      clear I4
      have hbH := I.blk (List.mem_cons_self ..)
      have hbR := I.blk (g := w.heap.size) (by repeat (first | exact List.mem_cons_self .. | apply List.mem_cons_of_mem))
      go_wp2_with (first
        | (with_reducible refine wpList_load_all rfl 36 (.tmp 3) rfl Hb _ _ _ hbH rfl Tryd.underlying36 rfl 5 info_hr rfl ?_)
        | (with_reducible refine wpList_store_all rfl 36 (.tmp 2) (.tmp 95) rfl w.heap.size _ _ [.string k1, .string d1, .int .i64 f1, .int .i64 t1, .slice none 0 0] hbR rfl rfl 5 info_hr rfl rfl (by simp [Value.oneCell']) ?_
           intro w9 hb9 hg9))
      have I9 := I.stored (L' := []) (g := w.heap.size) (by repeat (first | exact List.mem_cons_self .. | apply List.mem_cons_of_mem)) (by decide) hg9 hb9 (fun x hx => by cases hx) List.Pairwise.nil
      refine ret_blk (p := 2) (ty := 36) rfl w.heap.size _ _ _ hb9 rfl Tryd.underlying36 rfl 5 info_hr rfl rfl ?_
      exact ⟨_, _, _, _, _, _, _, _, rfl, I9.x, ⟨Hok.out.1, Hok.out.2.1, fun _ h => by cases h⟩, by omega, I9.s.more (by omega), I9.g⟩
    · have mk := fun (wx : World) (hH : Blk wx Hb 36 [.string k1, .string d1, .int .i64 f1, .int .i64 t1, .slice (some ⟨g, 0, none⟩) n1 c2]) => hH.cell_of (i := 4) (v := .slice (some ⟨g, 0, none⟩) n1 c2) rfl
      have Mk := Lib.hid mk
      clear mk
      go_upto_region 15 with fail
      go_cut [4] (fun p wx => ∃ j : Nat, j < n1 ∧ p = .pointer (some ⟨g, j * 9, none⟩) ∧ Kept 25 [] w B sb (m + 1900 + 1) [(g, 138, cs), (Hb, 36, [.string k1, .string d1, .int .i64 f1, .int .i64 t1, .slice (some ⟨g, 0, none⟩) n1 c2]), (w.heap.size, 36, [.string ⟨#[]⟩, .string ⟨#[]⟩, .int .i64 0, .int .i64 0, .slice none 0 0])] (fun _ => True) wx)
      case first =>
        go_region_held3 (fun wx => wx.cell? ⟨Hb, 4, none⟩ = some (.slice (some ⟨g, 0, none⟩) n1 c2))
          (first
            | with_reducible exact Mk.out _ (I.blk (by repeat (first | exact List.mem_cons_self .. | apply List.mem_cons_of_mem)))
            | with_reducible exact Mk.out _ (I.drew.blk (by repeat (first | exact List.mem_cons_self .. | apply List.mem_cons_of_mem))))
          (first
            | (go_at_call 92; (with_reducible refine (next_kept I (n1 : Int) (by omega) (by omega) (by omega)).mono ?_); rintro e w2 ⟨v, hv, rfl, I2⟩; have hvn : 0 ≤ v ∧ v < (n1 : Int) := (by rcases hv with ⟨h1, h2 | h2⟩ <;> omega); obtain ⟨j, rfl⟩ : ∃ j : Nat, v = (j : Int) := ⟨v.toNat, by omega⟩; have hj : j < n1 := (by omega); have hj0 := hvn.1; have hj1 := hvn.2; clear I hv hvn; have I := I2; clear I2)
            | (go_at_call 92; (with_reducible refine (next_kept I.drew (n1 : Int) (by omega) (by omega) (by omega)).mono ?_); rintro e w2 ⟨v, hv, rfl, I2⟩; have hvn : 0 ≤ v ∧ v < (n1 : Int) := (by rcases hv with ⟨h1, h2 | h2⟩ <;> omega); obtain ⟨j, rfl⟩ : ∃ j : Nat, v = (j : Int) := ⟨v.toNat, by omega⟩; have hj : j < n1 := (by omega); have hj0 := hvn.1; have hj1 := hvn.2; clear I hv hvn; have I := I2; clear I2))
        all_goals
          go_wp2_with fail
          go_meet
          exact ⟨j, hj, rfl, I⟩
      case rest =>
        obtain ⟨j, hj, rfl, I1⟩ := hcut
        obtain ⟨wb, hwb⟩ : ∃ wb : World, wb = wc := ⟨_, rfl⟩
        rw [← hwb] at I1 ⊢
        clear hwb I Mk
        have I := I1
        clear I1
        obtain ⟨x, hx⟩ : ∃ x, l1[j]? = some x := ⟨_, List.getElem?_eq_getElem (by have := Hf.out.2.2; omega)⟩
        have Hx := Lib.hid hx
        have Hxo := Lib.hid (Hok.out.2.2 x (List.mem_of_getElem? hx))
        have hjl : j * 9 + 9 ≤ cs.length := by have := Hf.out.1; omega
        clear hx
        go_wp2_with fail
        refine (some_kept (I.alloc _ _) [⟨#[118, 49]⟩, ⟨#[]⟩, ⟨#[65]⟩] (List.Mem.head _) (by omega) (by with_unfolding_all rfl) (by with_unfolding_all rfl) (by decide) (by decide)).mono ?_
        rintro e w2 ⟨ve, hve, rfl, I2⟩
        have hsve : ve.size ≤ 100 := mem_small hve (by decide)
        clear I hve
        have I := I2.sub (List.Sublist.cons _ (List.Sublist.refl _))
        clear I2
        go_wp2_with fail
        refine (odd_kept I 0 500 (by omega) (by omega) (by omega) (by omega)).mono ?_
        rintro e w2 ⟨at_, hat, rfl, I2⟩
        clear I hat
        have I := I2
        clear I2
        have hbL := I.blk (g := g) (by repeat (first | exact List.mem_cons_self .. | apply List.mem_cons_of_mem))
        have q0 := hbL.cell_of (i := j * 9) (v := .string x.veh) (Hf.out.get (r := 0) Hx.out rfl)
        have q1 := hbL.cell_of (i := j * 9 + 1) (v := .int .i64 x.out.at_) (Hf.out.get (r := 1) Hx.out rfl)
        have p0 := hbL.frozen (j * 9)
        have p1 := hbL.frozen (j * 9 + 1)
        clear hbL
        go_upto_region 20 with fail
        have I2 := I.put (((I.blk (g := g) (by repeat (first | exact List.mem_cons_self .. | apply List.mem_cons_of_mem))).set_ (j * 9) (.string ve)).set_ (j * 9 + 1) (.int .i64 at_)) (grow_setCell (grow_setCell (World.grownBy.refl _ _) (p := ⟨g, j * 9, none⟩) (.inl rfl) _) (p := ⟨g, j * 9 + 1, none⟩) (.inl rfl) _)
        have hx2 : (l1.set j ⟨ve, x.out, x.inn⟩)[j]? = some ⟨ve, x.out, x.inn⟩ := List.getElem?_set_self (by have := Hf.out.2.2; omega)
        have hf2 := ((Hf.out.set_ (r := 0) (y := ⟨ve, x.out, x.inn⟩) (v := .string ve) Hx.out rfl (by omega)).set_ (r := 1) (y := ⟨ve, ⟨at_, x.out.st, x.out.meter, x.out.fuel⟩, x.inn⟩) (v := .int .i64 at_) hx2 rfl (by omega))
        have I3 := I2.legs hf2 (by decide)
        have hok2 := legs_set (j := j) (y := ⟨ve, ⟨at_, x.out.st, x.out.meter, x.out.fuel⟩, x.inn⟩) (legs_set (j := j) (y := ⟨ve, x.out, x.inn⟩) Hok.out.2.2 ⟨by show ve.size ≤ _; omega, Hxo.out.2⟩) ⟨by show ve.size ≤ _; omega, Hxo.out.2⟩
        have Hok2 := Lib.hid hok2
        clear I I2 q0 q1 p0 p1 hx2 hf2 hok2
        have I := I3
        clear I3
        have hbH := I.blk (List.mem_cons_self ..)
        have hbR := I.blk (g := w.heap.size) (by repeat (first | exact List.mem_cons_self .. | apply List.mem_cons_of_mem))
        go_wp2_with (first
          | (with_reducible refine wpList_load_all rfl 36 (.tmp 3) rfl Hb _ _ _ hbH rfl Tryd.underlying36 rfl 5 info_hr rfl ?_)
          | (with_reducible refine wpList_store_all rfl 36 (.tmp 2) (.tmp 95) rfl w.heap.size _ _ [.string k1, .string d1, .int .i64 f1, .int .i64 t1, .slice (some ⟨g, 0, none⟩) n1 c2] hbR rfl rfl 5 info_hr rfl rfl (by simp [Value.oneCell']) ?_
             intro w9 hb9 hg9))
        have I9 := I.stored (L' := []) (g := w.heap.size) (by repeat (first | exact List.mem_cons_self .. | apply List.mem_cons_of_mem)) (by decide) hg9 hb9 (fun x hx => by cases hx) List.Pairwise.nil
        refine ret_blk (p := 2) (ty := 36) rfl w.heap.size _ _ _ hb9 rfl Tryd.underlying36 rfl 5 info_hr rfl rfl ?_
        exact ⟨_, _, _, _, _, _, _, _, rfl, I9.x, ⟨Hok.out.1, Hok.out.2.1, Hok2.out⟩, by omega, I9.s.more (by omega), I9.g⟩
    · have mk := fun (wx : World) (hH : Blk wx Hb 36 [.string k1, .string d1, .int .i64 f1, .int .i64 t1, .slice (some ⟨g, 0, none⟩) n1 c2]) => hH.cell_of (i := 4) (v := .slice (some ⟨g, 0, none⟩) n1 c2) rfl
      have Mk := Lib.hid mk
      clear mk
      go_upto_region 18 with fail
      go_cut [5] (fun p wx => ∃ j : Nat, j < n1 ∧ p = .pointer (some ⟨g, j * 9, none⟩) ∧ Kept 25 [] w B sb (m + 1900 + 1) [(g, 138, cs), (Hb, 36, [.string k1, .string d1, .int .i64 f1, .int .i64 t1, .slice (some ⟨g, 0, none⟩) n1 c2]), (w.heap.size, 36, [.string ⟨#[]⟩, .string ⟨#[]⟩, .int .i64 0, .int .i64 0, .slice none 0 0])] (fun _ => True) wx)
      case first =>
        go_region_held3 (fun wx => wx.cell? ⟨Hb, 4, none⟩ = some (.slice (some ⟨g, 0, none⟩) n1 c2))
          (first
            | with_reducible exact Mk.out _ (I.blk (by repeat (first | exact List.mem_cons_self .. | apply List.mem_cons_of_mem)))
            | with_reducible exact Mk.out _ (I.drew.blk (by repeat (first | exact List.mem_cons_self .. | apply List.mem_cons_of_mem))))
          (first
            | (go_at_call 92; (with_reducible refine (next_kept I (n1 : Int) (by omega) (by omega) (by omega)).mono ?_); rintro e w2 ⟨v, hv, rfl, I2⟩; have hvn : 0 ≤ v ∧ v < (n1 : Int) := (by rcases hv with ⟨h1, h2 | h2⟩ <;> omega); obtain ⟨j, rfl⟩ : ∃ j : Nat, v = (j : Int) := ⟨v.toNat, by omega⟩; have hj : j < n1 := (by omega); have hj0 := hvn.1; have hj1 := hvn.2; clear I hv hvn; have I := I2; clear I2)
            | (go_at_call 92; (with_reducible refine (next_kept I.drew (n1 : Int) (by omega) (by omega) (by omega)).mono ?_); rintro e w2 ⟨v, hv, rfl, I2⟩; have hvn : 0 ≤ v ∧ v < (n1 : Int) := (by rcases hv with ⟨h1, h2 | h2⟩ <;> omega); obtain ⟨j, rfl⟩ : ∃ j : Nat, v = (j : Int) := ⟨v.toNat, by omega⟩; have hj : j < n1 := (by omega); have hj0 := hvn.1; have hj1 := hvn.2; clear I hv hvn; have I := I2; clear I2))
        all_goals
          go_wp2_with fail
          go_meet
          exact ⟨j, hj, rfl, I⟩
      case rest =>
        obtain ⟨j, hj, rfl, I1⟩ := hcut
        obtain ⟨wb, hwb⟩ : ∃ wb : World, wb = wc := ⟨_, rfl⟩
        rw [← hwb] at I1 ⊢
        clear hwb I Mk
        have I := I1
        clear I1
        obtain ⟨x, hx⟩ : ∃ x, l1[j]? = some x := ⟨_, List.getElem?_eq_getElem (by have := Hf.out.2.2; omega)⟩
        have Hx := Lib.hid hx
        have Hxo := Lib.hid (Hok.out.2.2 x (List.mem_of_getElem? hx))
        have hjl : j * 9 + 9 ≤ cs.length := by have := Hf.out.1; omega
        clear hx
        go_wp2_with fail
        refine (pick_kept (I.alloc _ _) [-1, 0, 100, 5000] (List.Mem.head _) (by omega) (by with_unfolding_all rfl) (by with_unfolding_all rfl) (by decide) (by decide)).mono ?_
        rintro e w2 ⟨pv, hpv, rfl, I2⟩
        have hbpv : -100000000 ≤ pv ∧ pv ≤ 100000000 := mem_far hpv (by decide)
        clear I hpv
        have I := I2.sub (List.Sublist.cons _ (List.Sublist.refl _))
        clear I2
        have hp0 := hbpv.1
        have hp1 := hbpv.2
        go_wp2_with fail
        refine (reading_kept I pv (by omega) (by omega) (by omega)).mono ?_
        rintro e w2 ⟨⟨ra, rs, rm, rf⟩, hr, rfl, I2⟩
        rw [show (rdCells ⟨ra, rs, rm, rf⟩).toArray = #[.int .i64 ra, .string rs, .int .i64 rm, .int .i64 rf] from rfl]
        have Hr := Lib.hid hr
        clear I hr
        have I := I2
        clear I2
        have hbL := I.blk (g := g) (by repeat (first | exact List.mem_cons_self .. | apply List.mem_cons_of_mem))
        go_upto_region 20 with (with_reducible refine wpList_store_blk rfl 31 (.tmp 94) (.tmp 92) rfl g (j * 9 + 5) _ cs [.int .i64 ra, .string rs, .int .i64 rm, .int .i64 rf] hbL rfl rfl 4 info_rd rfl (by omega) (by simp [Value.oneCell']) ?_
                                intro w7 hb7 hg7)
        have I2 := I.put hb7 hg7
        have hf2 := Hf.out.splice (r := 5) (y := ⟨x.veh, x.out, ⟨ra, rs, rm, rf⟩⟩) (vs := [.int .i64 ra, .string rs, .int .i64 rm, .int .i64 rf]) Hx.out rfl (Nat.le_refl 9)
        have I3 := I2.legs hf2 (by decide)
        have hok2 := legs_set (j := j) (y := ⟨x.veh, x.out, ⟨ra, rs, rm, rf⟩⟩) Hok.out.2.2 ⟨Hxo.out.1, Hxo.out.2.1, Hr.out⟩
        have Hok2 := Lib.hid hok2
        clear I I2 hbL hb7 hg7 hf2 hok2
        have I := I3
        clear I3
        have hbH := I.blk (List.mem_cons_self ..)
        have hbR := I.blk (g := w.heap.size) (by repeat (first | exact List.mem_cons_self .. | apply List.mem_cons_of_mem))
        go_wp2_with (first
          | (with_reducible refine wpList_load_all rfl 36 (.tmp 3) rfl Hb _ _ _ hbH rfl Tryd.underlying36 rfl 5 info_hr rfl ?_)
          | (with_reducible refine wpList_store_all rfl 36 (.tmp 2) (.tmp 95) rfl w.heap.size _ _ [.string k1, .string d1, .int .i64 f1, .int .i64 t1, .slice (some ⟨g, 0, none⟩) n1 c2] hbR rfl rfl 5 info_hr rfl rfl (by simp [Value.oneCell']) ?_
             intro w9 hb9 hg9))
        have I9 := I.stored (L' := []) (g := w.heap.size) (by repeat (first | exact List.mem_cons_self .. | apply List.mem_cons_of_mem)) (by decide) hg9 hb9 (fun x hx => by cases hx) List.Pairwise.nil
        refine ret_blk (p := 2) (ty := 36) rfl w.heap.size _ _ _ hb9 rfl Tryd.underlying36 rfl 5 info_hr rfl rfl ?_
        exact ⟨_, _, _, _, _, _, _, _, rfl, I9.x, ⟨Hok.out.1, Hok.out.2.1, Hok2.out⟩, by omega, I9.s.more (by omega), I9.g⟩
    · have mk := fun (wx : World) (hH : Blk wx Hb 36 [.string k1, .string d1, .int .i64 f1, .int .i64 t1, .slice (some ⟨g, 0, none⟩) n1 c2]) => hH.cell_of (i := 4) (v := .slice (some ⟨g, 0, none⟩) n1 c2) rfl
      have Mk := Lib.hid mk
      clear mk
      go_upto_region 6 with fail
      go_cut [6] (fun p wx => ∃ j : Nat, j < n1 ∧ p = .pointer (some ⟨g, j * 9, none⟩) ∧ Kept 25 [] w B sb (m + 1900 + 1) [(g, 138, cs), (Hb, 36, [.string k1, .string d1, .int .i64 f1, .int .i64 t1, .slice (some ⟨g, 0, none⟩) n1 c2]), (w.heap.size, 36, [.string ⟨#[]⟩, .string ⟨#[]⟩, .int .i64 0, .int .i64 0, .slice none 0 0])] (fun _ => True) wx)
      case first =>
        go_region_held3 (fun wx => wx.cell? ⟨Hb, 4, none⟩ = some (.slice (some ⟨g, 0, none⟩) n1 c2))
          (first
            | with_reducible exact Mk.out _ (I.blk (by repeat (first | exact List.mem_cons_self .. | apply List.mem_cons_of_mem)))
            | with_reducible exact Mk.out _ (I.drew.blk (by repeat (first | exact List.mem_cons_self .. | apply List.mem_cons_of_mem))))
          (first
            | (go_at_call 92; (with_reducible refine (next_kept I (n1 : Int) (by omega) (by omega) (by omega)).mono ?_); rintro e w2 ⟨v, hv, rfl, I2⟩; have hvn : 0 ≤ v ∧ v < (n1 : Int) := (by rcases hv with ⟨h1, h2 | h2⟩ <;> omega); obtain ⟨j, rfl⟩ : ∃ j : Nat, v = (j : Int) := ⟨v.toNat, by omega⟩; have hj : j < n1 := (by omega); have hj0 := hvn.1; have hj1 := hvn.2; clear I hv hvn; have I := I2; clear I2)
            | (go_at_call 92; (with_reducible refine (next_kept I.drew (n1 : Int) (by omega) (by omega) (by omega)).mono ?_); rintro e w2 ⟨v, hv, rfl, I2⟩; have hvn : 0 ≤ v ∧ v < (n1 : Int) := (by rcases hv with ⟨h1, h2 | h2⟩ <;> omega); obtain ⟨j, rfl⟩ : ∃ j : Nat, v = (j : Int) := ⟨v.toNat, by omega⟩; have hj : j < n1 := (by omega); have hj0 := hvn.1; have hj1 := hvn.2; clear I hv hvn; have I := I2; clear I2))
        all_goals
          go_wp2_with fail
          go_meet
          exact ⟨j, hj, rfl, I⟩
      case rest =>
        obtain ⟨j, hj, rfl, I1⟩ := hcut
        obtain ⟨wb, hwb⟩ : ∃ wb : World, wb = wc := ⟨_, rfl⟩
        rw [← hwb] at I1 ⊢
        clear hwb I Mk
        have I := I1
        clear I1
        obtain ⟨x, hx⟩ : ∃ x, l1[j]? = some x := ⟨_, List.getElem?_eq_getElem (by have := Hf.out.2.2; omega)⟩
        have Hx := Lib.hid hx
        have Hxo := Lib.hid (Hok.out.2.2 x (List.mem_of_getElem? hx))
        have hjl : j * 9 + 9 ≤ cs.length := by have := Hf.out.1; omega
        clear hx
        go_wp2_with fail
        refine (pick_kept (I.alloc _ _) [0, 0, 1] (List.Mem.head _) (by omega) (by with_unfolding_all rfl) (by with_unfolding_all rfl) (by decide) (by decide)).mono ?_
        rintro e w2 ⟨pv, hpv, rfl, I2⟩
        have hbpv : -100000000 ≤ pv ∧ pv ≤ 100000000 := mem_far hpv (by decide)
        clear I hpv
        have I := I2.sub (List.Sublist.cons _ (List.Sublist.refl _))
        clear I2
        have hbL := I.blk (g := g) (by repeat (first | exact List.mem_cons_self .. | apply List.mem_cons_of_mem))
        go_upto_region 20 with (with_reducible refine wpList_store_blk rfl 31 (.tmp 36) (.tmp 34) rfl g (j * 9 + 5) _ cs [.int .i64 (-1), .string ⟨#[]⟩, .int .i64 pv, .int .i64 0] hbL rfl rfl 4 info_rd rfl (by omega) (by simp [Value.oneCell']) ?_
                                intro w7 hb7 hg7)
        have I2 := I.put hb7 hg7
        have hf2 := Hf.out.splice (r := 5) (y := ⟨x.veh, x.out, ⟨-1, ⟨#[]⟩, pv, 0⟩⟩) (vs := [.int .i64 (-1), .string ⟨#[]⟩, .int .i64 pv, .int .i64 0]) Hx.out rfl (Nat.le_refl 9)
        have I3 := I2.legs hf2 (by decide)
        have hok2 := legs_set (j := j) (y := ⟨x.veh, x.out, ⟨-1, ⟨#[]⟩, pv, 0⟩⟩) Hok.out.2.2 ⟨Hxo.out.1, Hxo.out.2.1, (show (⟨#[]⟩ : ByteArray).size ≤ 1000000 by decide)⟩
        have Hok2 := Lib.hid hok2
        clear I I2 hbL hb7 hg7 hf2 hok2
        have I := I3
        clear I3
        have hbH := I.blk (List.mem_cons_self ..)
        have hbR := I.blk (g := w.heap.size) (by repeat (first | exact List.mem_cons_self .. | apply List.mem_cons_of_mem))
        go_wp2_with (first
          | (with_reducible refine wpList_load_all rfl 36 (.tmp 3) rfl Hb _ _ _ hbH rfl Tryd.underlying36 rfl 5 info_hr rfl ?_)
          | (with_reducible refine wpList_store_all rfl 36 (.tmp 2) (.tmp 95) rfl w.heap.size _ _ [.string k1, .string d1, .int .i64 f1, .int .i64 t1, .slice (some ⟨g, 0, none⟩) n1 c2] hbR rfl rfl 5 info_hr rfl rfl (by simp [Value.oneCell']) ?_
             intro w9 hb9 hg9))
        have I9 := I.stored (L' := []) (g := w.heap.size) (by repeat (first | exact List.mem_cons_self .. | apply List.mem_cons_of_mem)) (by decide) hg9 hb9 (fun x hx => by cases hx) List.Pairwise.nil
        refine ret_blk (p := 2) (ty := 36) rfl w.heap.size _ _ _ hb9 rfl Tryd.underlying36 rfl 5 info_hr rfl rfl ?_
        exact ⟨_, _, _, _, _, _, _, _, rfl, I9.x, ⟨Hok.out.1, Hok.out.2.1, Hok2.out⟩, by omega, I9.s.more (by omega), I9.g⟩

end Go.Proofs.YtljnekobfjpfaaaDoor
