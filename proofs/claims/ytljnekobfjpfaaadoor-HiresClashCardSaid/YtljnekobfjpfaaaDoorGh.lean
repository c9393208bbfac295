/- The walk of the generator of a right hire (by gen_rh.py). -/
import Derived.Test.YtljnekobfjpfaaaDoorGn
import Derived.Test.YtljnekobfjpfaaaDoorKg
import Derived.IntWalk
namespace Go.Proofs.YtljnekobfjpfaaaDoor
open Go.RowKit

/-- A hire stands in block H, its legs in memory; block R waits for the result. -/
def Gen (w0 : World) (B sb m R H lo hi : Nat) (w : World) : Prop :=
  ∃ (k d : ByteArray) (f t : Int) (A : Option Addr) (n c : Nat) (l : List Lg), Kept 25 [138] w0 B sb m [(R, 36, [.string ⟨#[]⟩, .string ⟨#[]⟩, .int .i64 0, .int .i64 0, .slice none 0 0]), (H, 36, [.string k, .string d, .int .i64 f, .int .i64 t, .slice A n c])] (fun w => SlT lgEnc 9 138 w A n l) w ∧ HrOk k d l ∧ lo ≤ n ∧ n ≤ hi
theorem Gen.more {w0 w : World} {B sb m m' R H lo hi lo' hi' : Nat} (h : Gen w0 B sb m R H lo hi w) (hm : m ≤ m') (hl : lo' ≤ lo) (hh : hi ≤ hi') : Gen w0 B sb m' R H lo' hi' w := by
  obtain ⟨k, d, f, t, A, n, c, l, hk, hok, h1, h2⟩ := h
  exact ⟨k, d, f, t, A, n, c, l, hk.more hm, hok, Nat.le_trans hl h1, Nat.le_trans h2 hh⟩
/-- Behind a region that makes a hire: its error, and the hire in a new block; where there is no error it has just as many legs. -/
def Made (w0 : World) (B sb m R : Nat) (X : List (Nat × TypeId × List Value)) (Y : World → Prop) (many : Nat) (p e : Value) (w : World) : Prop :=
  ∃ (H : Nat) (E : Int) (k d : ByteArray) (f t : Int) (A : Option Addr) (n c : Nat) (l : List Lg), p = .pointer (some ⟨H, 0, none⟩) ∧ e = .int .i64 E ∧
    Kept 25 [138] w0 B sb m ((H, 36, [.string k, .string d, .int .i64 f, .int .i64 t, .slice A n c]) :: (X ++ [(R, 36, [.string ⟨#[]⟩, .string ⟨#[]⟩, .int .i64 0, .int .i64 0, .slice none 0 0])])) (fun w => Y w ∧ SlT lgEnc 9 138 w A n l) w ∧ HrOk k d l ∧ (E = 0 → n = many)
/-- The inner loop: how often it has gone round, the moment, the hire. -/
def RhRel (w0 : World) (B sb m R H : Nat) (J fr : Int) (a i : Value) (w : World) : Prop :=
  ∃ (j : Nat) (at_ : Int) (k d : ByteArray) (f t : Int) (A : Option Addr) (n c : Nat) (l : List Lg), (j : Int) ≤ J ∧ 0 ≤ at_ ∧ at_ ≤ fr + 500 * j ∧ a = .int .i64 at_ ∧ i = .int .i64 j ∧
    Kept 25 [138] w0 B sb (m + 50 * j) [(H, 36, [.string k, .string d, .int .i64 f, .int .i64 t, .slice A n c]), (R, 36, [.string ⟨#[]⟩, .string ⟨#[]⟩, .int .i64 0, .int .i64 0, .slice none 0 0])] (fun w => SlT lgEnc 9 138 w A n l) w ∧ HrOk k d l ∧ 1 ≤ n ∧ n ≤ 1 + j

set_option maxRecDepth 100000 in
set_option maxHeartbeats 40000000 in
theorem rightHire_any (key : ByteArray) (fr : Int) (w : World) (B sb m : Nat) (hS : Strm 25 w B sb m) (hm : m ≤ 10000000000) (hkey : key.size ≤ 100) (hkb : keyB key = true) (hf0 : 0 ≤ fr) (hf1 : fr ≤ 5000000) :
    Calls Tryd.prog 117 #[.pointer (some ⟨sb, 0, none⟩), .string key, .int .i64 fr] w (fun e w' => ∃ (k d : ByteArray) (f t : Int) (A : Option Addr) (n c : Nat) (l : List Lg), e = .returned (.agg #[.string k, .string d, .int .i64 f, .int .i64 t, .slice A n c]) ∧ SlT lgEnc 9 138 w' A n l ∧ HrOk k d l ∧ 1 ≤ n ∧ n ≤ 4 ∧ Strm 25 w' B sb (m + 1500) ∧ w.grownBy w' (some sb)) := by
  go_enter Tryd.func117, Tryd.ntmps117
  go_wp2_with fail
  go_loopw [19] (fun i wr => ∃ k : Nat, k ≤ 6 ∧ i = .int .i64 k ∧ Kept 25 [138] w B sb (m + 200 * k) [(w.heap.size, 36, [.string ⟨#[]⟩, .string ⟨#[]⟩, .int .i64 0, .int .i64 0, .slice none 0 0])] (fun _ => True) wr) (fun i _ => 6 - (intOf i).toNat)
  case atStart => exact ⟨0, by omega, rfl, (Kept.start hS (by decide)).alloc _ _⟩
  case round =>
    obtain ⟨k, hk, rfl, I⟩ := hrel
    clear hS
    by_cases hk6 : k < 6
    · go_wp2_with fail
      refine (pick_kept (I.alloc _ _) [60, 100, 1440, 2000, 3000] (List.Mem.head _) (by omega) (by with_unfolding_all rfl) (by with_unfolding_all rfl) (by decide) (by decide)).mono ?_
      rintro e w1 ⟨v, hv, rfl, I2⟩
      have hvb : -100000000 ≤ v ∧ v ≤ 100000000 := mem_far hv (by decide)
      have hv0 := hvb.1
      have hv1 := hvb.2
      clear I
      have I := I2.sub (L' := [(w.heap.size, 36, [.string ⟨#[]⟩, .string ⟨#[]⟩, .int .i64 0, .int .i64 0, .slice none 0 0])]) (List.Sublist.cons _ (List.Sublist.refl _))
      clear I2 hv hvb
      go_wp2_with fail
      obtain ⟨T, hT⟩ : ∃ T, T = fr + v := ⟨_, rfl⟩
      rw [← hT]
      have hT0 : -200000000 ≤ T := by omega
      have hT1 : T ≤ 200000000 := by omega
      have I2 := I.alloc 28 [.int .i64 fr, .int .i64 T]
      obtain ⟨W, hW⟩ : ∃ W, W = w1.heap.size := ⟨_, rfl⟩
      obtain ⟨wa, hwa⟩ : ∃ wa, wa = w1.alloc (.cells #[.int .i64 fr, .int .i64 T] 28) := ⟨_, rfl⟩
      rw [← hW]
      have I3 : Kept 25 [138] w B sb (m + 200 * k + 1) [(W, 28, [.int .i64 fr, .int .i64 T]), (w.heap.size, 36, [.string ⟨#[]⟩, .string ⟨#[]⟩, .int .i64 0, .int .i64 0, .slice none 0 0])] (fun _ => True) wa := by rw [hW, hwa]; exact I2
      rw [← hwa]
      clear I I2 hT hW hwa
      have I := I3
      clear I3
      have mk := fun (wx : World) (hH : Blk wx W 28 [.int .i64 fr, .int .i64 T]) => And.intro (hH.cell_of (i := 0) (v := .int .i64 fr) rfl) (hH.cell_of (i := 1) (v := .int .i64 T) rfl)
      have Mk := Lib.hid mk
      clear mk
      have tok1 : True := trivial
      have tok2 : True := trivial
      go_upto_region 4 with fail
      go_cut [8, 9] (fun p e wx => Made w B sb (m + 200 * k + 1 + 1 + 1 + 10) w.heap.size [] (fun _ => True) 1 p e wx)
      case first =>
        go_region_held3 (fun wx => wx.cell? ⟨W, 0, none⟩ = some (.int .i64 fr) ∧ wx.cell? ⟨W, 1, none⟩ = some (.int .i64 T))
          (first
            | with_reducible exact Mk.out _ ((I.blk (by repeat (first | exact List.mem_cons_self .. | apply List.mem_cons_of_mem))).far5 ((I.blk (by repeat (first | exact List.mem_cons_self .. | apply List.mem_cons_of_mem))).ne_type (t' := 36) (cs' := [.string ⟨#[]⟩, .string ⟨#[]⟩, .int .i64 0, .int .i64 0, .slice none 0 0]) (I.blk (by repeat (first | exact List.mem_cons_self .. | apply List.mem_cons_of_mem))) (by decide)) _ _ _ _ _)
            | with_reducible exact Mk.out _ (I.blk (by repeat (first | exact List.mem_cons_self .. | apply List.mem_cons_of_mem)))
            | with_reducible exact Mk.out _ ((I.alloc _ _).blk (by repeat (first | exact List.mem_cons_self .. | apply List.mem_cons_of_mem)))
            | with_reducible exact Mk.out _ ((I.alloc2 _ _ _ _).blk (by repeat (first | exact List.mem_cons_self .. | apply List.mem_cons_of_mem)))
            | with_reducible exact Mk.out _ ((I.alloc3 _ _ _ _ _ _).blk (by repeat (first | exact List.mem_cons_self .. | apply List.mem_cons_of_mem)))
            | with_reducible exact Mk.out _ (I.drew.blk (by repeat (first | exact List.mem_cons_self .. | apply List.mem_cons_of_mem)))
            | with_reducible exact Mk.out _ ((I.alloc _ _).drew.blk (by repeat (first | exact List.mem_cons_self .. | apply List.mem_cons_of_mem)))
            | with_reducible exact Mk.out _ ((I.alloc2 _ _ _ _).drew.blk (by repeat (first | exact List.mem_cons_self .. | apply List.mem_cons_of_mem)))
            | with_reducible exact Mk.out _ ((I.alloc3 _ _ _ _ _ _).drew.blk (by repeat (first | exact List.mem_cons_self .. | apply List.mem_cons_of_mem)))
            | fail)
          (first
            | (go_at_call 12; have tk := tok1; clear tk; (with_reducible refine (some_kept (I.alloc _ _).drew [⟨#[97, 110, 110]⟩, ⟨#[97, 110, 110]⟩, ⟨#[98, 111, 98]⟩, ⟨#[99, 105, 100]⟩] (by repeat (first | exact List.mem_cons_self .. | apply List.mem_cons_of_mem)) (by omega) (by with_unfolding_all rfl) (by with_unfolding_all rfl) (by decide) (by decide)).mono ?_); rintro e w2 ⟨dr, hdr, rfl, I2⟩; have hsdr : dr.size ≤ 100 := mem_small hdr (by decide); clear hdr; clear tok1; clear I; have I := I2; clear I2)
            | (go_at_call 12; have tk := tok1; clear tk; (with_reducible refine (some_kept (I.alloc2 _ _ _ _).drew [⟨#[97, 110, 110]⟩, ⟨#[97, 110, 110]⟩, ⟨#[98, 111, 98]⟩, ⟨#[99, 105, 100]⟩] (by repeat (first | exact List.mem_cons_self .. | apply List.mem_cons_of_mem)) (by omega) (by with_unfolding_all rfl) (by with_unfolding_all rfl) (by decide) (by decide)).mono ?_); rintro e w2 ⟨dr, hdr, rfl, I2⟩; have hsdr : dr.size ≤ 100 := mem_small hdr (by decide); clear hdr; clear tok1; clear I; have I := I2; clear I2)
            | (go_at_call 12; have tk := tok1; clear tk; (with_reducible refine (some_kept (I.alloc3 _ _ _ _ _ _).drew [⟨#[97, 110, 110]⟩, ⟨#[97, 110, 110]⟩, ⟨#[98, 111, 98]⟩, ⟨#[99, 105, 100]⟩] (by repeat (first | exact List.mem_cons_self .. | apply List.mem_cons_of_mem)) (by omega) (by with_unfolding_all rfl) (by with_unfolding_all rfl) (by decide) (by decide)).mono ?_); rintro e w2 ⟨dr, hdr, rfl, I2⟩; have hsdr : dr.size ≤ 100 := mem_small hdr (by decide); clear hdr; clear tok1; clear I; have I := I2; clear I2)
            | (go_at_call 12; have tk := tok2; clear tk; (with_reducible refine (some_kept I [⟨#[118, 49]⟩, ⟨#[118, 49]⟩, ⟨#[118, 50]⟩, ⟨#[118, 51]⟩] (by repeat (first | exact List.mem_cons_self .. | apply List.mem_cons_of_mem)) (by omega) (by with_unfolding_all rfl) (by with_unfolding_all rfl) (by decide) (by decide)).mono ?_); rintro e w2 ⟨ve, hve, rfl, I2⟩; have hsve : ve.size ≤ 100 := mem_small hve (by decide); clear hve; clear tok2; clear I; have I := I2; clear I2)
            | (go_at_call 12; have tk := tok2; clear tk; (with_reducible refine (some_kept (I.alloc _ _) [⟨#[118, 49]⟩, ⟨#[118, 49]⟩, ⟨#[118, 50]⟩, ⟨#[118, 51]⟩] (by repeat (first | exact List.mem_cons_self .. | apply List.mem_cons_of_mem)) (by omega) (by with_unfolding_all rfl) (by with_unfolding_all rfl) (by decide) (by decide)).mono ?_); rintro e w2 ⟨ve, hve, rfl, I2⟩; have hsve : ve.size ≤ 100 := mem_small hve (by decide); clear hve; clear tok2; clear I; have I := I2; clear I2)
            | (go_at_call 12; have tk := tok2; clear tk; (with_reducible refine (some_kept (I.alloc2 _ _ _ _) [⟨#[118, 49]⟩, ⟨#[118, 49]⟩, ⟨#[118, 50]⟩, ⟨#[118, 51]⟩] (by repeat (first | exact List.mem_cons_self .. | apply List.mem_cons_of_mem)) (by omega) (by with_unfolding_all rfl) (by with_unfolding_all rfl) (by decide) (by decide)).mono ?_); rintro e w2 ⟨ve, hve, rfl, I2⟩; have hsve : ve.size ≤ 100 := mem_small hve (by decide); clear hve; clear tok2; clear I; have I := I2; clear I2)
            | (go_at_call 14; (with_reducible refine (reading_kept I fr (by omega) (by omega) (by omega)).mono ?_); rintro e w2 ⟨r, hr, rfl, I2⟩; have Hr := Lib.hid hr; clear hr; clear I; have I := I2; clear I2)
            | (go_at_call 14; (with_reducible refine (reading_kept (I.alloc _ _) fr (by omega) (by omega) (by omega)).mono ?_); rintro e w2 ⟨r, hr, rfl, I2⟩; have Hr := Lib.hid hr; clear hr; clear I; have I := I2; clear I2)
            | (go_at_call 17; (with_reducible refine (startOf_gen key dr fr T ve r _ (by omega) (by omega) (by omega) Hr.out).mono ?_); rintro e w2 ⟨k2, d2, f2, t2, A2, n2, c2, l2, rfl, hsl, hok2, hn2, hE2, hg⟩; have I2 := (I.grow0 hg).also (SlT.lasts (by decide)) hsl; have HE2 := Lib.hid hE2; have HE3 := Lib.hid hE2; clear hsl hg hE2; clear I; have I := I2; clear I2; have zb := I.blk (t := 36) (cs := [.string ⟨#[]⟩, .string ⟨#[]⟩, .int .i64 0, .int .i64 0, .slice none 0 0]) (by repeat (first | exact List.mem_cons_self .. | apply List.mem_cons_of_mem)); have z0 := zb.cell_of (i := 0) rfl; have g0 := zb.frozen 0; have z1 := zb.cell_of (i := 1) rfl; have g1 := zb.frozen 1; have z2 := zb.cell_of (i := 2) rfl; have g2 := zb.frozen 2; have z3 := zb.cell_of (i := 3) rfl; have g3 := zb.frozen 3; have z4 := zb.cell_of (i := 4) rfl; have g4 := zb.frozen 4)
            | (go_at_call 17; (with_reducible refine (startOf_gen key dr fr T ve r _ (by omega) (by omega) (by omega) Hr.out).mono ?_); rintro e w2 ⟨k2, d2, f2, t2, A2, n2, c2, l2, rfl, hsl, hok2, hn2, hE2, hg⟩; have I2 := ((I.alloc _ _).grow0 hg).also (SlT.lasts (by decide)) hsl; have HE2 := Lib.hid hE2; have HE3 := Lib.hid hE2; clear hsl hg hE2; clear I; have I := I2; clear I2; have zb := I.blk (t := 36) (cs := [.string ⟨#[]⟩, .string ⟨#[]⟩, .int .i64 0, .int .i64 0, .slice none 0 0]) (by repeat (first | exact List.mem_cons_self .. | apply List.mem_cons_of_mem)); have z0 := zb.cell_of (i := 0) rfl; have g0 := zb.frozen 0; have z1 := zb.cell_of (i := 1) rfl; have g1 := zb.frozen 1; have z2 := zb.cell_of (i := 2) rfl; have g2 := zb.frozen 2; have z3 := zb.cell_of (i := 3) rfl; have g3 := zb.frozen 3; have z4 := zb.cell_of (i := 4) rfl; have g4 := zb.frozen 4)
            | fail)
        all_goals
          go_wp2_with fail
          go_meet
          first
            | (refine ⟨_, _, k2, d2, f2, t2, A2, n2, c2, l2, rfl, rfl, I.stored (T := 36) (cs := [.string ⟨#[]⟩, .string ⟨#[]⟩, .int .i64 0, .int .i64 0, .slice none 0 0]) (by repeat (first | exact List.mem_cons_self .. | apply List.mem_cons_of_mem)) (by decide) (World.own5 _ _ _ _ _ _ _) ((I.blk (by repeat (first | exact List.mem_cons_self .. | apply List.mem_cons_of_mem))).set5 _ _ _ _ _) ?_ ?_, hok2, HE3.out⟩
               · intro x hx
                 have hnd := I.nd
                 simp only [List.pairwise_cons, List.mem_cons, List.mem_nil_iff, or_false, forall_eq_or_imp, forall_eq] at hnd
                 simp only [List.mem_cons, List.mem_append, List.mem_nil_iff, or_false, false_or] at hx
                 rcases hx with rfl | hx
                 · exact .inl rfl
                 · refine .inr ?_
                   first
                     | (subst hx
                        exact ⟨(by repeat (first | exact List.mem_cons_self .. | apply List.mem_cons_of_mem)), by omega⟩)
                     | (rcases hx with rfl | rfl <;> exact ⟨(by repeat (first | exact List.mem_cons_self .. | apply List.mem_cons_of_mem)), by omega⟩)
               · have hnd := I.nd
                 simp only [List.pairwise_cons, List.mem_cons, List.mem_nil_iff, or_false, forall_eq_or_imp, forall_eq] at hnd
                 refine List.Pairwise.cons (fun y hy => ?_) ?_
                 · simp only [List.mem_cons, List.mem_append, List.mem_nil_iff, or_false, false_or] at hy
                   first
                     | (subst hy
                        show _ ≠ _
                        omega)
                     | (rcases hy with rfl | rfl <;> (show _ ≠ _; omega))
                 · first
                     | exact List.pairwise_singleton _ _
                     | exact List.Pairwise.cons (fun y hy => by rw [List.mem_singleton.1 hy]; show _ ≠ _; omega) (List.pairwise_singleton _ _))
            | (refine ⟨_, _, k2, d2, f2, t2, A2, n2, c2, l2, rfl, rfl, (I.alloc 36 [.string k2, .string d2, .int .i64 f2, .int .i64 t2, .slice A2 n2 c2]).sub (List.Sublist.cons_cons _ ?_), hok2, HE3.out⟩
               repeat (first | exact List.Sublist.refl _ | apply List.Sublist.cons))
      case rest =>
        obtain ⟨H1, E, k2, d2, f2, t2, A2, n2, c2, l2, rfl, rfl, I1, hok2, hE⟩ := hcut
        obtain ⟨wb, hwb⟩ : ∃ wb : World, wb = wc := ⟨_, rfl⟩
        rw [← hwb] at I1 ⊢
        simp only [List.nil_append] at I1
        have Hok2 := Lib.hid hok2
        clear hwb I hok2
        by_cases h0 : E = 0
        · have hn2 := hE h0
          subst h0
          clear hE
          have I := I1.only (SlT.lasts (by decide)) I1.x.2
          clear I1
          go_wp2_with fail
          refine (pick_kept (I.alloc _ _) [0, 0, 1, 2] (List.Mem.head _) (by omega) rfl rfl (by decide) (by decide)).mono ?_
          rintro e w2 ⟨J, hJ, rfl, I2⟩
          have hJb : 0 ≤ J ∧ J ≤ 2 := by simp at hJ; omega
          have hJ0 := hJb.1
          have hJ1 := hJb.2
          clear I hJ hJb
          have I := I2.sub (List.Sublist.cons _ (List.Sublist.refl _))
          clear I2
          go_wp2_with fail
          go_loopw [10, 49] (fun a i wr => RhRel w B sb (m + 200 * k + 20) w.heap.size H1 J fr a i wr) (fun _ i _ => (J - intOf i).toNat)
          case atStart => exact ⟨0, fr, k2, d2, f2, t2, A2, n2, c2, l2, by omega, by omega, by omega, rfl, rfl, (I.sub (List.Sublist.refl _)).more (by omega), Hok2.out, by omega, by omega⟩
          case round =>
            obtain ⟨j, a, k3, d3, f3, t3, A3, n3, c3, l3, hj, ha0, ha1, rfl, rfl, I3, hok3, hn3, hn4⟩ := hrel
            have Hok3 := Lib.hid hok3
            clear hok3 I
            have I := I3
            clear I3
            by_cases hjJ : (j : Int) < J
            · go_wp2_with fail
              refine (pick_kept (I.alloc _ _) [1, 30, 100, 500] (List.Mem.head _) (by omega) rfl rfl (by decide) (by decide)).mono ?_
              rintro e w3 ⟨v2, hv2, rfl, I2⟩
              have hvb2 : 1 ≤ v2 ∧ v2 ≤ 500 := by simp at hv2; omega
              have hv20 := hvb2.1
              have hv21 := hvb2.2
              clear I hv2 hvb2
              have I := I2.sub (List.Sublist.cons _ (List.Sublist.refl _))
              clear I2
              go_wp2_with fail
              obtain ⟨a2, ha2⟩ : ∃ a2, a2 = a + v2 := ⟨_, rfl⟩
              rw [← ha2]
              have ha20 : 0 ≤ a2 := by omega
              have ha21 : a2 ≤ fr + 500 * (j + 1) := by omega
              clear ha2
              refine (reading_kept I a2 (by omega) (by omega) (by omega)).mono ?_
              rintro e w4 ⟨⟨ra, rs, rm, rf⟩, hr, rfl, I2⟩
              rw [show (rdCells ⟨ra, rs, rm, rf⟩).toArray = #[.int .i64 ra, .string rs, .int .i64 rm, .int .i64 rf] from rfl]
              have Hr := Lib.hid hr
              clear I hr
              have I := I2
              clear I2
              go_wp2_with fail
              refine (reading_kept (I.alloc _ _) a2 (by omega) (by omega) (by omega)).mono ?_
              rintro e w5 ⟨⟨qa, qs, qm, qf⟩, hq, rfl, I2⟩
              rw [show (rdCells ⟨qa, qs, qm, qf⟩).toArray = #[.int .i64 qa, .string qs, .int .i64 qm, .int .i64 qf] from rfl]
              have c1 := (I2.blk (List.mem_cons_self ..)).cell_of (i := 1) (v := .string rs) rfl
              have hz4 := (I2.blk (List.mem_cons_self ..)).lt
              clear I hq
              have I := I2
              clear I2
              go_wp2_with fail
              have I2 := I.alloc 31 [.int .i64 qa, .string rs, .int .i64 qm, .int .i64 qf]
              obtain ⟨P, hP⟩ : ∃ P, P = w4.heap.size := ⟨_, rfl⟩
              obtain ⟨Q, hQ⟩ : ∃ Q, Q = w5.heap.size := ⟨_, rfl⟩
              obtain ⟨wa, hwa⟩ : ∃ wa, wa = w5.alloc (.cells #[.int .i64 qa, .string rs, .int .i64 qm, .int .i64 qf] 31) := ⟨_, rfl⟩
              rw [← hP, ← hQ]
              have I3 : Kept 25 [138] w B sb (m + 200 * k + 20 + 50 * j + 1 + 10 + 10) [(Q, 31, [.int .i64 qa, .string rs, .int .i64 qm, .int .i64 qf]), (P, 31, [.int .i64 ra, .string rs, .int .i64 rm, .int .i64 rf]), (H1, 36, [.string k3, .string d3, .int .i64 f3, .int .i64 t3, .slice A3 n3 c3]), (w.heap.size, 36, [.string ⟨#[]⟩, .string ⟨#[]⟩, .int .i64 0, .int .i64 0, .slice none 0 0])] (fun w => SlT lgEnc 9 138 w A3 n3 l3) wa := by rw [hP, hQ, hwa]; exact I2
              rw [← hwa]
              clear I I2 hP hQ hwa c1 hz4
              have I := I3
              clear I3
              have mk := fun (wx : World) (hH : Blk wx H1 36 [.string k3, .string d3, .int .i64 f3, .int .i64 t3, .slice A3 n3 c3]) (hP : Blk wx P 31 [.int .i64 ra, .string rs, .int .i64 rm, .int .i64 rf]) (hQ : Blk wx Q 31 [.int .i64 qa, .string rs, .int .i64 qm, .int .i64 qf]) =>
                And.intro (hH.cell_of (i := 0) (v := .string k3) rfl) (And.intro (hH.cell_of (i := 1) (v := .string d3) rfl) (And.intro (hH.cell_of (i := 2) (v := .int .i64 f3) rfl) (And.intro (hH.cell_of (i := 3) (v := .int .i64 t3) rfl) (And.intro (hH.cell_of (i := 4) (v := .slice A3 n3 c3) rfl)
                (And.intro (hP.cell_of (i := 0) (v := .int .i64 ra) rfl) (And.intro (hP.cell_of (i := 1) (v := .string rs) rfl) (And.intro (hP.cell_of (i := 2) (v := .int .i64 rm) rfl) (And.intro (hP.cell_of (i := 3) (v := .int .i64 rf) rfl)
                (And.intro (hQ.cell_of (i := 0) (v := .int .i64 qa) rfl) (And.intro (hQ.cell_of (i := 1) (v := .string rs) rfl) (And.intro (hQ.cell_of (i := 2) (v := .int .i64 qm) rfl) (hQ.cell_of (i := 3) (v := .int .i64 qf) rfl))))))))))))
              have Mk := Lib.hid mk
              clear mk
              have hrs : rs.size ≤ 1000000 := Hr.out
              go_upto_region 13 with fail
              go_cut [13, 14] (fun p e wx => Made w B sb (m + 200 * k + 20 + 50 * j + 1 + 10 + 10 + 1) w.heap.size [(H1, 36, [.string k3, .string d3, .int .i64 f3, .int .i64 t3, .slice A3 n3 c3])] (fun w => SlT lgEnc 9 138 w A3 n3 l3) (n3 + 1) p e wx)
              case first =>
                go_region_held3 (fun wx => wx.cell? ⟨H1, 0, none⟩ = some (.string k3) ∧ wx.cell? ⟨H1, 1, none⟩ = some (.string d3) ∧ wx.cell? ⟨H1, 2, none⟩ = some (.int .i64 f3) ∧ wx.cell? ⟨H1, 3, none⟩ = some (.int .i64 t3) ∧ wx.cell? ⟨H1, 4, none⟩ = some (.slice A3 n3 c3) ∧ wx.cell? ⟨P, 0, none⟩ = some (.int .i64 ra) ∧ wx.cell? ⟨P, 1, none⟩ = some (.string rs) ∧ wx.cell? ⟨P, 2, none⟩ = some (.int .i64 rm) ∧ wx.cell? ⟨P, 3, none⟩ = some (.int .i64 rf) ∧ wx.cell? ⟨Q, 0, none⟩ = some (.int .i64 qa) ∧ wx.cell? ⟨Q, 1, none⟩ = some (.string rs) ∧ wx.cell? ⟨Q, 2, none⟩ = some (.int .i64 qm) ∧ wx.cell? ⟨Q, 3, none⟩ = some (.int .i64 qf))
                  (first
                    | with_reducible exact Mk.out _ ((I.blk (by repeat (first | exact List.mem_cons_self .. | apply List.mem_cons_of_mem))).far5 (by have hnd := I.nd; simp only [List.pairwise_cons, List.mem_cons, List.mem_nil_iff, or_false, forall_eq_or_imp, forall_eq] at hnd; omega) _ _ _ _ _) ((I.blk (by repeat (first | exact List.mem_cons_self .. | apply List.mem_cons_of_mem))).far5 (by have hnd := I.nd; simp only [List.pairwise_cons, List.mem_cons, List.mem_nil_iff, or_false, forall_eq_or_imp, forall_eq] at hnd; omega) _ _ _ _ _) ((I.blk (by repeat (first | exact List.mem_cons_self .. | apply List.mem_cons_of_mem))).far5 (by have hnd := I.nd; simp only [List.pairwise_cons, List.mem_cons, List.mem_nil_iff, or_false, forall_eq_or_imp, forall_eq] at hnd; omega) _ _ _ _ _)
                    | with_reducible exact Mk.out _ (I.blk (by repeat (first | exact List.mem_cons_self .. | apply List.mem_cons_of_mem))) (I.blk (by repeat (first | exact List.mem_cons_self .. | apply List.mem_cons_of_mem))) (I.blk (by repeat (first | exact List.mem_cons_self .. | apply List.mem_cons_of_mem)))
                    | with_reducible exact Mk.out _ ((I.alloc _ _).blk (by repeat (first | exact List.mem_cons_self .. | apply List.mem_cons_of_mem))) ((I.alloc _ _).blk (by repeat (first | exact List.mem_cons_self .. | apply List.mem_cons_of_mem))) ((I.alloc _ _).blk (by repeat (first | exact List.mem_cons_self .. | apply List.mem_cons_of_mem)))
                    | with_reducible exact Mk.out _ ((I.alloc2 _ _ _ _).blk (by repeat (first | exact List.mem_cons_self .. | apply List.mem_cons_of_mem))) ((I.alloc2 _ _ _ _).blk (by repeat (first | exact List.mem_cons_self .. | apply List.mem_cons_of_mem))) ((I.alloc2 _ _ _ _).blk (by repeat (first | exact List.mem_cons_self .. | apply List.mem_cons_of_mem)))
                    | with_reducible exact Mk.out _ (I.drew.blk (by repeat (first | exact List.mem_cons_self .. | apply List.mem_cons_of_mem))) (I.drew.blk (by repeat (first | exact List.mem_cons_self .. | apply List.mem_cons_of_mem))) (I.drew.blk (by repeat (first | exact List.mem_cons_self .. | apply List.mem_cons_of_mem)))
                    | with_reducible exact Mk.out _ ((I.alloc _ _).drew.blk (by repeat (first | exact List.mem_cons_self .. | apply List.mem_cons_of_mem))) ((I.alloc _ _).drew.blk (by repeat (first | exact List.mem_cons_self .. | apply List.mem_cons_of_mem))) ((I.alloc _ _).drew.blk (by repeat (first | exact List.mem_cons_self .. | apply List.mem_cons_of_mem)))
                    | with_reducible exact Mk.out _ ((I.alloc2 _ _ _ _).drew.blk (by repeat (first | exact List.mem_cons_self .. | apply List.mem_cons_of_mem))) ((I.alloc2 _ _ _ _).drew.blk (by repeat (first | exact List.mem_cons_self .. | apply List.mem_cons_of_mem))) ((I.alloc2 _ _ _ _).drew.blk (by repeat (first | exact List.mem_cons_self .. | apply List.mem_cons_of_mem)))
                    | fail)
                  (first
                    | (go_at_call 12; (with_reducible refine (some_kept (I.alloc _ _).drew [⟨#[118, 49]⟩, ⟨#[118, 50]⟩, ⟨#[118, 51]⟩, ⟨#[118, 52]⟩] (by repeat (first | exact List.mem_cons_self .. | apply List.mem_cons_of_mem)) (by omega) (by with_unfolding_all rfl) (by with_unfolding_all rfl) (by decide) (by decide)).mono ?_); rintro e w2 ⟨ve, hve, rfl, I2⟩; have hsve : ve.size ≤ 100 := mem_small hve (by decide); clear hve; clear I; have I := I2; clear I2)
                    | (go_at_call 12; (with_reducible refine (some_kept (I.alloc2 _ _ _ _).drew [⟨#[118, 49]⟩, ⟨#[118, 50]⟩, ⟨#[118, 51]⟩, ⟨#[118, 52]⟩] (by repeat (first | exact List.mem_cons_self .. | apply List.mem_cons_of_mem)) (by omega) (by with_unfolding_all rfl) (by with_unfolding_all rfl) (by decide) (by decide)).mono ?_); rintro e w2 ⟨ve, hve, rfl, I2⟩; have hsve : ve.size ≤ 100 := mem_small hve (by decide); clear hve; clear I; have I := I2; clear I2)
                    | (go_at_call 63; (with_reducible refine (exchangeOf_lit k3 d3 f3 t3 l3 A3 n3 c3 _ I.x Hok3.out (by omega) ve ra rm rf qa qm qf rs rs (by omega) hrs hrs).mono ?_); rintro e w2 ⟨E, k2, d2, f2, t2, A2, n2, c2, l2, rfl, hsl, hok2, hn2, hE2, hg⟩; have I2 := (I.grow0 hg).also (SlT.lasts (by decide)) hsl; have HE3 := Lib.hid hE2; clear hsl hg hE2; clear I; have I := I2; clear I2; have zb := I.blk (t := 36) (cs := [.string ⟨#[]⟩, .string ⟨#[]⟩, .int .i64 0, .int .i64 0, .slice none 0 0]) (by repeat (first | exact List.mem_cons_self .. | apply List.mem_cons_of_mem)); have z0 := zb.cell_of (i := 0) rfl; have g0 := zb.frozen 0; have z1 := zb.cell_of (i := 1) rfl; have g1 := zb.frozen 1; have z2 := zb.cell_of (i := 2) rfl; have g2 := zb.frozen 2; have z3 := zb.cell_of (i := 3) rfl; have g3 := zb.frozen 3; have z4 := zb.cell_of (i := 4) rfl; have g4 := zb.frozen 4)
                    | (go_at_call 63; (with_reducible refine (exchangeOf_lit k3 d3 f3 t3 l3 A3 n3 c3 _ (I.alloc _ _).x Hok3.out (by omega) ve ra rm rf qa qm qf rs rs (by omega) hrs hrs).mono ?_); rintro e w2 ⟨E, k2, d2, f2, t2, A2, n2, c2, l2, rfl, hsl, hok2, hn2, hE2, hg⟩; have I2 := ((I.alloc _ _).grow0 hg).also (SlT.lasts (by decide)) hsl; have HE3 := Lib.hid hE2; clear hsl hg hE2; clear I; have I := I2; clear I2; have zb := I.blk (t := 36) (cs := [.string ⟨#[]⟩, .string ⟨#[]⟩, .int .i64 0, .int .i64 0, .slice none 0 0]) (by repeat (first | exact List.mem_cons_self .. | apply List.mem_cons_of_mem)); have z0 := zb.cell_of (i := 0) rfl; have g0 := zb.frozen 0; have z1 := zb.cell_of (i := 1) rfl; have g1 := zb.frozen 1; have z2 := zb.cell_of (i := 2) rfl; have g2 := zb.frozen 2; have z3 := zb.cell_of (i := 3) rfl; have g3 := zb.frozen 3; have z4 := zb.cell_of (i := 4) rfl; have g4 := zb.frozen 4)
                    | fail)
                all_goals
                  go_wp2_with fail
                  go_meet
                  first
                    | (refine ⟨_, _, k2, d2, f2, t2, A2, n2, c2, l2, rfl, rfl, I.stored (T := 36) (cs := [.string ⟨#[]⟩, .string ⟨#[]⟩, .int .i64 0, .int .i64 0, .slice none 0 0]) (by repeat (first | exact List.mem_cons_self .. | apply List.mem_cons_of_mem)) (by decide) (World.own5 _ _ _ _ _ _ _) ((I.blk (by repeat (first | exact List.mem_cons_self .. | apply List.mem_cons_of_mem))).set5 _ _ _ _ _) ?_ ?_, hok2, HE3.out⟩
                       · intro x hx
                         have hnd := I.nd
                         simp only [List.pairwise_cons, List.mem_cons, List.mem_nil_iff, or_false, forall_eq_or_imp, forall_eq] at hnd
                         simp only [List.mem_cons, List.mem_append, List.mem_nil_iff, or_false] at hx
                         rcases hx with rfl | hx
                         · exact .inl rfl
                         · refine .inr ?_
                           first
                             | (subst hx
                                exact ⟨(by repeat (first | exact List.mem_cons_self .. | apply List.mem_cons_of_mem)), by omega⟩)
                             | (rcases hx with rfl | rfl <;> exact ⟨(by repeat (first | exact List.mem_cons_self .. | apply List.mem_cons_of_mem)), by omega⟩)
                       · have hnd := I.nd
                         simp only [List.pairwise_cons, List.mem_cons, List.mem_nil_iff, or_false, forall_eq_or_imp, forall_eq] at hnd
                         refine List.Pairwise.cons (fun y hy => ?_) ?_
                         · simp only [List.mem_cons, List.mem_append, List.mem_nil_iff, or_false] at hy
                           first
                             | (subst hy
                                show _ ≠ _
                                omega)
                             | (rcases hy with rfl | rfl <;> (show _ ≠ _; omega))
                         · first
                             | exact List.pairwise_singleton _ _
                             | exact List.Pairwise.cons (fun y hy => by rw [List.mem_singleton.1 hy]; show _ ≠ _; omega) (List.pairwise_singleton _ _))
                    | (refine ⟨_, _, k2, d2, f2, t2, A2, n2, c2, l2, rfl, rfl, (I.alloc 36 [.string k2, .string d2, .int .i64 f2, .int .i64 t2, .slice A2 n2 c2]).sub (List.Sublist.cons_cons _ ?_), hok2, HE3.out⟩
                       repeat (first | exact List.Sublist.refl _ | apply List.Sublist.cons))
              case rest =>
                obtain ⟨H2, E, k2, d2, f2, t2, A2, n2, c2, l2, rfl, rfl, I1, hok2, hE⟩ := hcut
                obtain ⟨wb, hwb⟩ : ∃ wb : World, wb = wc := ⟨_, rfl⟩
                rw [← hwb] at I1 ⊢
                simp only [List.cons_append, List.nil_append] at I1
                have Hok2 := Lib.hid hok2
                clear hwb I hok2
                have hnd := I1.nd
                simp only [List.pairwise_cons, List.mem_cons, List.mem_nil_iff, or_false, forall_eq_or_imp, forall_eq] at hnd
                have hd1 : H2 ≠ H1 := hnd.1.1
                have hd2 : w.heap.size ≠ H1 := fun e => hnd.2.1 e.symm
                have hbH2 := I1.blk (List.mem_cons_self ..)
                have hbH1 := I1.blk (g := H1) (by repeat (first | exact List.mem_cons_self .. | apply List.mem_cons_of_mem))
                clear hnd
                by_cases h0 : E = 0
                · have hn2 := hE h0
                  subst h0
                  clear hE
                  go_wp2_with (first
                    | (with_reducible refine wpList_load_all rfl 36 (.tmp 13) rfl H2 _ _ _ hbH2 rfl Tryd.underlying36 rfl 5 info_hr rfl ?_)
                    | (with_reducible refine wpList_store_all rfl 36 (.tmp 8) (.tmp 77) rfl H1 _ _ [.string k2, .string d2, .int .i64 f2, .int .i64 t2, .slice A2 n2 c2] hbH1 rfl rfl 5 info_hr rfl rfl (by simp [Value.oneCell']) ?_
                       intro w7 hb7 hg7))
                  have I2 := (I1.stored (L' := [(H1, 36, [.string k2, .string d2, .int .i64 f2, .int .i64 t2, .slice A2 n2 c2]), (w.heap.size, 36, [.string ⟨#[]⟩, .string ⟨#[]⟩, .int .i64 0, .int .i64 0, .slice none 0 0])]) (g := H1) (by repeat (first | exact List.mem_cons_self .. | apply List.mem_cons_of_mem)) (by decide) hg7 hb7 (fun x hx => by
                    simp only [List.mem_cons, List.mem_nil_iff, or_false] at hx
                    rcases hx with rfl | rfl
                    · exact .inl rfl
                    · exact .inr ⟨(by repeat (first | exact List.mem_cons_self .. | apply List.mem_cons_of_mem)), hd2⟩) (List.Pairwise.cons (fun y hy => by rw [List.mem_singleton.1 hy]; exact fun e => hd2 e.symm) (List.pairwise_singleton _ _)))
                  have I := I2.only (SlT.lasts (by decide)) I2.x.2
                  clear I1 I2 hbH1 hbH2 hg7 hb7
                  go_roundw
                  case rel => exact ⟨j + 1, a2, k2, d2, f2, t2, A2, n2, c2, l2, by omega, by omega, by omega, rfl, by go_num, I.more (by omega), Hok2.out, by omega, by omega⟩
                  case measure => simp [intOf]; omega
                · have hq : (E == 0) = false := by simpa using h0
                  have I2 := I1.only (Y := fun w => SlT lgEnc 9 138 w A3 n3 l3) (SlT.lasts (by decide)) I1.x.1
                  have I := I2.sub (List.Sublist.cons _ (List.Sublist.refl _))
                  clear h0 hE I1 I2 hbH1 hbH2
                  go_wp2_with fail
                  go_roundw
                  case rel => exact ⟨j + 1, a2, k3, d3, f3, t3, A3, n3, c3, l3, by omega, by omega, by omega, rfl, by go_num, I.more (by omega), Hok3.out, by omega, by omega⟩
                  case measure => simp [intOf]; omega
            · go_wp2_with fail
              refine (flip_kept I 4 (by omega) (by omega) (by omega)).mono ?_
              rintro e w3 ⟨fl, rfl, I2⟩
              clear I
              have I := I2
              clear I2
              cases fl
              · go_wp2_with fail
                refine (pick_kept (I.alloc _ _) [1, 50, 100, 1440, 1470, 1471, 1500, 3000] (List.Mem.head _) (by omega) rfl rfl (by decide) (by decide)).mono ?_
                rintro e w4 ⟨v2, hv2, rfl, I2⟩
                have hvb2 : -100000000 ≤ v2 ∧ v2 ≤ 100000000 := mem_far hv2 (by decide)
                have hv20 := hvb2.1
                have hv21 := hvb2.2
                clear I hv2 hvb2
                have I := I2.sub (List.Sublist.cons _ (List.Sublist.refl _))
                clear I2
                go_wp2_with fail
                obtain ⟨a2, ha2⟩ : ∃ a2, a2 = a + v2 := ⟨_, rfl⟩
                rw [← ha2]
                have ha20 : -1000000000 ≤ a2 := by omega
                have ha21 : a2 ≤ 1000000000 := by omega
                have mk := fun (wx : World) (hH : Blk wx H1 36 [.string k3, .string d3, .int .i64 f3, .int .i64 t3, .slice A3 n3 c3]) =>
                  And.intro (hH.cell_of (i := 0) (v := .string k3) rfl) (And.intro (hH.cell_of (i := 1) (v := .string d3) rfl) (And.intro (hH.cell_of (i := 2) (v := .int .i64 f3) rfl) (And.intro (hH.cell_of (i := 3) (v := .int .i64 t3) rfl) (hH.cell_of (i := 4) (v := .slice A3 n3 c3) rfl))))
                have Mk := Lib.hid mk
                clear mk ha2
                go_upto_region 19 with fail
                go_cut [15, 16] (fun p e wx => Made w B sb (m + 200 * k + 20 + 50 * j + 1 + 1 + 10) w.heap.size [(H1, 36, [.string k3, .string d3, .int .i64 f3, .int .i64 t3, .slice A3 n3 c3])] (fun w => SlT lgEnc 9 138 w A3 n3 l3) n3 p e wx)
                case first =>
                  go_region_held3 (fun wx => wx.cell? ⟨H1, 0, none⟩ = some (.string k3) ∧ wx.cell? ⟨H1, 1, none⟩ = some (.string d3) ∧ wx.cell? ⟨H1, 2, none⟩ = some (.int .i64 f3) ∧ wx.cell? ⟨H1, 3, none⟩ = some (.int .i64 t3) ∧ wx.cell? ⟨H1, 4, none⟩ = some (.slice A3 n3 c3))
                    (first
                      | with_reducible exact Mk.out _ ((I.blk (by repeat (first | exact List.mem_cons_self .. | apply List.mem_cons_of_mem))).far5 (by have hnd := I.nd; simp only [List.pairwise_cons, List.mem_cons, List.mem_nil_iff, or_false, forall_eq_or_imp, forall_eq] at hnd; omega) _ _ _ _ _)
                      | with_reducible exact Mk.out _ (I.blk (by repeat (first | exact List.mem_cons_self .. | apply List.mem_cons_of_mem)))
                      | with_reducible exact Mk.out _ ((I.alloc _ _).blk (by repeat (first | exact List.mem_cons_self .. | apply List.mem_cons_of_mem)))
                      | with_reducible exact Mk.out _ (I.drew.blk (by repeat (first | exact List.mem_cons_self .. | apply List.mem_cons_of_mem)))
                      | with_reducible exact Mk.out _ ((I.alloc _ _).drew.blk (by repeat (first | exact List.mem_cons_self .. | apply List.mem_cons_of_mem)))
                      | fail)
                    (first
                      | (go_at_call 14; (with_reducible refine (reading_kept I.drew a2 (by omega) (by omega) (by omega)).mono ?_); rintro e w2 ⟨r, hr, rfl, I2⟩; have Hr := Lib.hid hr; clear hr; clear I; have I := I2; clear I2)
                      | (go_at_call 14; (with_reducible refine (reading_kept (I.alloc _ _).drew a2 (by omega) (by omega) (by omega)).mono ?_); rintro e w2 ⟨r, hr, rfl, I2⟩; have Hr := Lib.hid hr; clear hr; clear I; have I := I2; clear I2)
                      | (go_at_call 65; (with_reducible refine (closeOf_gen k3 d3 f3 t3 l3 A3 n3 c3 _ I.x Hok3.out (by omega) r Hr.out).mono ?_); rintro e w2 ⟨E, k2, d2, f2, t2, A2, n2, c2, l2, rfl, hsl, hok2, hn2, hE2, hg⟩; have I2 := (I.grow0 hg).also (SlT.lasts (by decide)) hsl; have HE3 := Lib.hid hE2; clear hsl hg hE2; clear I; have I := I2; clear I2; have zb := I.blk (t := 36) (cs := [.string ⟨#[]⟩, .string ⟨#[]⟩, .int .i64 0, .int .i64 0, .slice none 0 0]) (by repeat (first | exact List.mem_cons_self .. | apply List.mem_cons_of_mem)); have z0 := zb.cell_of (i := 0) rfl; have g0 := zb.frozen 0; have z1 := zb.cell_of (i := 1) rfl; have g1 := zb.frozen 1; have z2 := zb.cell_of (i := 2) rfl; have g2 := zb.frozen 2; have z3 := zb.cell_of (i := 3) rfl; have g3 := zb.frozen 3; have z4 := zb.cell_of (i := 4) rfl; have g4 := zb.frozen 4)
                      | (go_at_call 65; (with_reducible refine (closeOf_gen k3 d3 f3 t3 l3 A3 n3 c3 _ (I.alloc _ _).x Hok3.out (by omega) r Hr.out).mono ?_); rintro e w2 ⟨E, k2, d2, f2, t2, A2, n2, c2, l2, rfl, hsl, hok2, hn2, hE2, hg⟩; have I2 := ((I.alloc _ _).grow0 hg).also (SlT.lasts (by decide)) hsl; have HE3 := Lib.hid hE2; clear hsl hg hE2; clear I; have I := I2; clear I2; have zb := I.blk (t := 36) (cs := [.string ⟨#[]⟩, .string ⟨#[]⟩, .int .i64 0, .int .i64 0, .slice none 0 0]) (by repeat (first | exact List.mem_cons_self .. | apply List.mem_cons_of_mem)); have z0 := zb.cell_of (i := 0) rfl; have g0 := zb.frozen 0; have z1 := zb.cell_of (i := 1) rfl; have g1 := zb.frozen 1; have z2 := zb.cell_of (i := 2) rfl; have g2 := zb.frozen 2; have z3 := zb.cell_of (i := 3) rfl; have g3 := zb.frozen 3; have z4 := zb.cell_of (i := 4) rfl; have g4 := zb.frozen 4)
                      | fail)
                  all_goals
                    go_wp2_with fail
                    go_meet
                    first
                      | (refine ⟨_, _, k2, d2, f2, t2, A2, n2, c2, l2, rfl, rfl, I.stored (T := 36) (cs := [.string ⟨#[]⟩, .string ⟨#[]⟩, .int .i64 0, .int .i64 0, .slice none 0 0]) (by repeat (first | exact List.mem_cons_self .. | apply List.mem_cons_of_mem)) (by decide) (World.own5 _ _ _ _ _ _ _) ((I.blk (by repeat (first | exact List.mem_cons_self .. | apply List.mem_cons_of_mem))).set5 _ _ _ _ _) ?_ ?_, hok2, HE3.out⟩
                         · intro x hx
                           have hnd := I.nd
                           simp only [List.pairwise_cons, List.mem_cons, List.mem_nil_iff, or_false, forall_eq_or_imp, forall_eq] at hnd
                           simp only [List.mem_cons, List.mem_append, List.mem_nil_iff, or_false] at hx
                           rcases hx with rfl | hx
                           · exact .inl rfl
                           · refine .inr ?_
                             first
                               | (subst hx
                                  exact ⟨(by repeat (first | exact List.mem_cons_self .. | apply List.mem_cons_of_mem)), by omega⟩)
                               | (rcases hx with rfl | rfl <;> exact ⟨(by repeat (first | exact List.mem_cons_self .. | apply List.mem_cons_of_mem)), by omega⟩)
                         · have hnd := I.nd
                           simp only [List.pairwise_cons, List.mem_cons, List.mem_nil_iff, or_false, forall_eq_or_imp, forall_eq] at hnd
                           refine List.Pairwise.cons (fun y hy => ?_) ?_
                           · simp only [List.mem_cons, List.mem_append, List.mem_nil_iff, or_false] at hy
                             first
                               | (subst hy
                                  show _ ≠ _
                                  omega)
                               | (rcases hy with rfl | rfl <;> (show _ ≠ _; omega))
                           · first
                               | exact List.pairwise_singleton _ _
                               | exact List.Pairwise.cons (fun y hy => by rw [List.mem_singleton.1 hy]; show _ ≠ _; omega) (List.pairwise_singleton _ _))
                      | (refine ⟨_, _, k2, d2, f2, t2, A2, n2, c2, l2, rfl, rfl, (I.alloc 36 [.string k2, .string d2, .int .i64 f2, .int .i64 t2, .slice A2 n2 c2]).sub (List.Sublist.cons_cons _ ?_), hok2, HE3.out⟩
                         repeat (first | exact List.Sublist.refl _ | apply List.Sublist.cons))
                case rest =>
                  obtain ⟨H2, E, k2, d2, f2, t2, A2, n2, c2, l2, rfl, rfl, I1, hok2, hE⟩ := hcut
                  obtain ⟨wb, hwb⟩ : ∃ wb : World, wb = wc := ⟨_, rfl⟩
                  rw [← hwb] at I1 ⊢
                  simp only [List.cons_append, List.nil_append] at I1
                  have Hok2 := Lib.hid hok2
                  clear hwb I hok2
                  have hnd := I1.nd
                  simp only [List.pairwise_cons, List.mem_cons, List.mem_nil_iff, or_false, forall_eq_or_imp, forall_eq] at hnd
                  have hd1 : H2 ≠ H1 := hnd.1.1
                  have hd2 : w.heap.size ≠ H1 := fun e => hnd.2.1 e.symm
                  have hbH2 := I1.blk (List.mem_cons_self ..)
                  have hbH1 := I1.blk (g := H1) (by repeat (first | exact List.mem_cons_self .. | apply List.mem_cons_of_mem))
                  clear hnd
                  by_cases h0 : E = 0
                  · have hn2 := hE h0
                    subst h0
                    clear hE
                    go_upto_region 22 with (first
                      | (with_reducible refine wpList_load_all rfl 36 (.tmp 15) rfl H2 _ _ _ hbH2 rfl Tryd.underlying36 rfl 5 info_hr rfl ?_)
                      | (with_reducible refine wpList_store_all rfl 36 (.tmp 8) (.tmp 97) rfl H1 _ _ [.string k2, .string d2, .int .i64 f2, .int .i64 t2, .slice A2 n2 c2] hbH1 rfl rfl 5 info_hr rfl rfl (by simp [Value.oneCell']) ?_
                         intro w7 hb7 hg7))
                    have I2 := (I1.stored (L' := [(H1, 36, [.string k2, .string d2, .int .i64 f2, .int .i64 t2, .slice A2 n2 c2]), (w.heap.size, 36, [.string ⟨#[]⟩, .string ⟨#[]⟩, .int .i64 0, .int .i64 0, .slice none 0 0])]) (g := H1) (by repeat (first | exact List.mem_cons_self .. | apply List.mem_cons_of_mem)) (by decide) hg7 hb7 (fun x hx => by
                      simp only [List.mem_cons, List.mem_nil_iff, or_false] at hx
                      rcases hx with rfl | rfl
                      · exact .inl rfl
                      · exact .inr ⟨(by repeat (first | exact List.mem_cons_self .. | apply List.mem_cons_of_mem)), hd2⟩) (List.Pairwise.cons (fun y hy => by rw [List.mem_singleton.1 hy]; exact fun e => hd2 e.symm) (List.pairwise_singleton _ _)))
                    have I := I2.only (SlT.lasts (by decide)) I2.x.2
                    clear I1 I2 hbH1 hbH2 hg7 hb7
                    have hbH := I.blk (List.mem_cons_self ..)
                    have hbR := I.blk (g := w.heap.size) (by repeat (first | exact List.mem_cons_self .. | apply List.mem_cons_of_mem))
                    go_wp2_with (first
                      | (with_reducible refine wpList_load_all rfl 36 (.tmp 8) rfl H1 _ _ _ hbH rfl Tryd.underlying36 rfl 5 info_hr rfl ?_)
                      | (with_reducible refine wpList_store_all rfl 36 (.tmp 6) (.tmp 98) rfl w.heap.size _ _ [.string k2, .string d2, .int .i64 f2, .int .i64 t2, .slice A2 n2 c2] hbR rfl rfl 5 info_hr rfl rfl (by simp [Value.oneCell']) ?_
                         intro w9 hb9 hg9))
                    have I9 := I.stored (L' := []) (g := w.heap.size) (by repeat (first | exact List.mem_cons_self .. | apply List.mem_cons_of_mem)) (by decide) hg9 hb9 (fun x hx => by cases hx) List.Pairwise.nil
                    refine ret_blk (p := 6) (ty := 36) rfl w.heap.size _ _ _ hb9 rfl Tryd.underlying36 rfl 5 info_hr rfl rfl ?_
                    exact ⟨_, _, _, _, _, _, _, _, rfl, I9.x, Hok2.out, by omega, by omega, I9.s.more (by omega), I9.g⟩
                  · have hq : (E == 0) = false := by simpa using h0
                    have I2 := I1.only (Y := fun w => SlT lgEnc 9 138 w A3 n3 l3) (SlT.lasts (by decide)) I1.x.1
                    have I := I2.sub (List.Sublist.cons _ (List.Sublist.refl _))
                    clear h0 hE I1 I2 hbH1 hbH2
                    have hbH := I.blk (List.mem_cons_self ..)
                    have hbR := I.blk (g := w.heap.size) (by repeat (first | exact List.mem_cons_self .. | apply List.mem_cons_of_mem))
                    go_wp2_with (first
                      | (with_reducible refine wpList_load_all rfl 36 (.tmp 8) rfl H1 _ _ _ hbH rfl Tryd.underlying36 rfl 5 info_hr rfl ?_)
                      | (with_reducible refine wpList_store_all rfl 36 (.tmp 6) (.tmp 98) rfl w.heap.size _ _ [.string k3, .string d3, .int .i64 f3, .int .i64 t3, .slice A3 n3 c3] hbR rfl rfl 5 info_hr rfl rfl (by simp [Value.oneCell']) ?_
                         intro w9 hb9 hg9))
                    have I9 := I.stored (L' := []) (g := w.heap.size) (by repeat (first | exact List.mem_cons_self .. | apply List.mem_cons_of_mem)) (by decide) hg9 hb9 (fun x hx => by cases hx) List.Pairwise.nil
                    refine ret_blk (p := 6) (ty := 36) rfl w.heap.size _ _ _ hb9 rfl Tryd.underlying36 rfl 5 info_hr rfl rfl ?_
                    exact ⟨_, _, _, _, _, _, _, _, rfl, I9.x, Hok3.out, by omega, by omega, I9.s.more (by omega), I9.g⟩
              · have hbH := I.blk (List.mem_cons_self ..)
                have hbR := I.blk (g := w.heap.size) (by repeat (first | exact List.mem_cons_self .. | apply List.mem_cons_of_mem))
                go_wp2_with (first
                  | (with_reducible refine wpList_load_all rfl 36 (.tmp 8) rfl H1 _ _ _ hbH rfl Tryd.underlying36 rfl 5 info_hr rfl ?_)
                  | (with_reducible refine wpList_store_all rfl 36 (.tmp 6) (.tmp 98) rfl w.heap.size _ _ [.string k3, .string d3, .int .i64 f3, .int .i64 t3, .slice A3 n3 c3] hbR rfl rfl 5 info_hr rfl rfl (by simp [Value.oneCell']) ?_
                     intro w9 hb9 hg9))
                have I9 := I.stored (L' := []) (g := w.heap.size) (by repeat (first | exact List.mem_cons_self .. | apply List.mem_cons_of_mem)) (by decide) hg9 hb9 (fun x hx => by cases hx) List.Pairwise.nil
                refine ret_blk (p := 6) (ty := 36) rfl w.heap.size _ _ _ hb9 rfl Tryd.underlying36 rfl 5 info_hr rfl rfl ?_
                exact ⟨_, _, _, _, _, _, _, _, rfl, I9.x, Hok3.out, by omega, by omega, I9.s.more (by omega), I9.g⟩
        · have hne : (E != 0) = true := by simpa using h0
          have I := (I1.only (Lasts.true_ _) trivial).sub (List.Sublist.cons _ (List.Sublist.refl _))
          clear h0 hE I1
          go_wp2_with fail
          go_roundw
          case rel => exact ⟨k + 1, by omega, by go_num, I.more (by omega)⟩
          case measure => simp [intOf]; omega
    · go_wp2_with fail
      obtain ⟨T, hT⟩ : ∃ T, T = fr + 60 := ⟨_, rfl⟩
      have HFr := Lib.hid (fall_right hkb hf0 hf1)
      rw [← hT] at HFr ⊢
      clear hT
      have CF := Lib.hid (fun w => (by have := startOf_lit key ⟨#[97, 110, 110]⟩ fr T ⟨#[118, 49]⟩ fr 0 0 ⟨#[115, 49]⟩ w (by omega) (by decide) (by decide) (by decide); rw [HFr.out] at this; exact this : Calls Tryd.prog 17 #[.string key, .string ⟨#[97, 110, 110]⟩, .agg #[.int .i64 fr, .int .i64 T], .string ⟨#[118, 49]⟩, .agg #[.int .i64 fr, .string ⟨#[115, 49]⟩, .int .i64 0, .int .i64 0]] w (HireBack w 1 0)))
      refine (CF.out _).mono ?_
      rintro e w2 ⟨k2, d2, f2, t2, A2, n2, c2, l2, rfl, hsl, hok2, hn2, hE2, hg⟩
      obtain rfl : n2 = 1 := hE2 rfl
      have I2 := (I.grow0 hg).only (SlT.lasts (by decide)) hsl
      have Hok2 := Lib.hid hok2
      clear I hsl hg hok2 hE2 hn2
      have I := I2.alloc 36 [.string k2, .string d2, .int .i64 f2, .int .i64 t2, .slice A2 1 c2]
      clear I2
      have hbH := I.blk (List.mem_cons_self ..)
      have hbR := I.blk (g := w.heap.size) (by repeat (first | exact List.mem_cons_self .. | apply List.mem_cons_of_mem))
      go_wp2_with (first
        | (with_reducible refine wpList_load_all rfl 36 (.tmp 17) rfl w2.heap.size _ _ _ hbH rfl Tryd.underlying36 rfl 5 info_hr rfl ?_)
        | (with_reducible refine wpList_store_all rfl 36 (.tmp 6) (.tmp 111) rfl w.heap.size _ _ [.string k2, .string d2, .int .i64 f2, .int .i64 t2, .slice A2 1 c2] hbR rfl rfl 5 info_hr rfl rfl (by simp [Value.oneCell']) ?_
           intro w9 hb9 hg9))
      have I9 := I.stored (L' := []) (g := w.heap.size) (by repeat (first | exact List.mem_cons_self .. | apply List.mem_cons_of_mem)) (by decide) hg9 hb9 (fun x hx => by cases hx) List.Pairwise.nil
      refine ret_blk (p := 6) (ty := 36) rfl w.heap.size _ _ _ hb9 rfl Tryd.underlying36 rfl 5 info_hr rfl rfl ?_
      exact ⟨_, _, _, _, _, _, _, _, rfl, I9.x, Hok2.out, by omega, by omega, I9.s.more (by omega), I9.g⟩

end Go.Proofs.YtljnekobfjpfaaaDoor
