/- Several texts as one: Rgr Kg Gj Gh Gk Eq Xa Twt Htf -/
import Derived.Test.YtnpcbfllnkiopaaGreatDoorN3a
import Derived.Test.YtnpcbfllnkiopaaGreatDoorN3b
import Derived.Test.YtnpcbfllnkiopaaGreatDoorN3c
import Derived.IntWalk
import Derived.Lay
import Derived.LaidSub
import Derived.MakeChecks
import Derived.Stop.LaidErr
import Derived.Lib.LaidU8
import Derived.Shelf.Vars
set_option maxRecDepth 100000
set_option maxHeartbeats 4000000
namespace Go.Proofs.YtnpcbfllnkiopaaGreatDoor
open Go.RowKit
theorem rightHireR_any (key : ByteArray) (fr : Int) (w : World) (B sb m : Nat) (hS : Strm 25 w B sb m) (hm : m ≤ 10000000000) (hkey : key.size ≤ 100) (hkb : keyB key = true) (hf0 : 0 ≤ fr) (hf1 : fr ≤ 5000000) :
  Calls Tryz.prog 76 #[.pointer (some ⟨sb, 0, none⟩), .string key, .int .i64 fr] w (fun e w' => ∃ (k d : ByteArray) (f t : Int) (A : Option Addr) (n c : Nat) (l : List Lg), e = .returned (.agg #[.string k, .string d, .int .i64 f, .int .i64 t, .slice A n c]) ∧ SlT lgEnc 9 128 w' A n l ∧ HrOk k d l ∧ 1 ≤ n ∧ n ≤ 4 ∧ hireE ⟨k, d, f, t, l⟩ = 0 ∧ Strm 25 w' B sb (m + 1500) ∧ w.grownBy w' (some sb)) := by
 refine gw_enter ⟨112, w, (some sb), [128]⟩ Tryz.func76 rfl Tryz.ntmps76 rfl (memS (X := []) hS allF_nil allL_nil) ?_
 refine sr_ ?_
 refine wl_alloc zc45 rfl fun g1 => ?_
 refine nn_ (gw_seq (sr_ (mv_ rfl (nn_ (gw_block ?_)))))
 refine gw_loop (γ := Nat) (fun (i : Nat) => i ≤ 6) (fun (i : Nat) => [(0, .pointer (some ⟨sb, 0, none⟩)), (1, .string key), (2, .int .i64 fr), (6, .pointer (some ⟨g1, 0, none⟩)), (19, .int .i64 ((i : Nat) : Int))]) (fun (i : Nat) => fun w => Strm 25 w B sb (m + 200 * i)) (fun (i : Nat) => [(g1, 45, [.string ⟨#[]⟩, .string ⟨#[]⟩, .int .i64 0, .int .i64 0, .slice none 0 0])]) (fun (i : Nat) => []) (fun (i : Nat) => []) (fun (i : Nat) => 6 - i) 0 (Nat.zero_le _) ⟨rfl, rfl, rfl, rfl, rfl, trivial⟩ (fun _ hm => (hm.more rfl (by first | omega | (dsimp only; omega))).pick [0] [] [] rfl rfl) ?_
 intro i hinv
 replace hinv : i ≤ 6 := hinv
 refine sr_ (wl_ov (ov_lss rfl rfl) rfl (nn_ (gw_seq ?_)))
 refine gw_cond rfl (fun hh => ?_) (fun hh => ?_)
 ·have hi : ((i : Nat) : Int) < 6 := by simpa using hh
  clear hh
  refine gw_skip (nx_then (gw_seq (gw_block (sr_ (mv_ rfl (mv_ rfl (mv_ rfl ?_)))))))
  refine wl_buildSlice (e := 3) (cs := [.int .i64 60, .int .i64 100, .int .i64 1440, .int .i64 2000, .int .i64 3000]) rfl (by kernel_rfl) rfl fun g2 => ?_
  refine wl_got (γ := Int) (val := fun v => .int .i64 v) (φ := fun v => v ∈ ([60, 100, 1440, 2000, 3000] : List Int)) rfl cb34 rfl rfl rfl rfl (fun wx hm => (pick_any [60, 100, 1440, 2000, 3000] _ _ _ wx B sb _ hm.k (by omega) (by simp) (by simp) (hm.blkI 0 rfl) (hm.neRow 0 rfl rfl))) fun v3 hv3 => ?_
  have bv3 : 60 ≤ v3 ∧ v3 ≤ 3000 := mem_rng hv3 (by decide)
  have bv30 := bv3.1
  have bv31 := bv3.2
  clear bv3
  refine ad_ rfl rfl ?_
  refine wl_ov (ov_build (cs := [.int .i64 fr, .int .i64 (fr + v3)]) rfl (by kernel_rfl)) rfl ?_
  refine wl_alloc zc42 rfl fun g4 => ?_
  refine wl_stores (cs' := [.int .i64 fr, .int .i64 (fr + v3)]) 0 rz42 rfl rfl rfl rfl rfl rfl rfl rfl ?_
  refine nn_ ?_
  refine gw_cut (γ := ByteArray × ByteArray × Int × Int × Option Addr × Nat × Nat × List Lg × Int × Nat) (I := (fun g => HrOk g.1 g.2.1 g.2.2.2.2.2.2.2.1 ∧ g.2.2.2.2.2.1 ≤ 1 ∧ (g.2.2.2.2.2.2.2.2.1 = 0 → g.2.2.2.2.2.1 = 1 ∧ hireE ⟨g.1, g.2.1, g.2.2.1, g.2.2.2.1, g.2.2.2.2.2.2.2.1⟩ = 0))) (S' := (fun g => [(0, .pointer (some ⟨sb, 0, none⟩)), (1, .string key), (2, .int .i64 fr), (6, .pointer (some ⟨g1, 0, none⟩)), (8, .pointer (some ⟨g.2.2.2.2.2.2.2.2.2, 0, none⟩)), (9, .int .i64 g.2.2.2.2.2.2.2.2.1), (19, .int .i64 ((i : Nat) : Int))])) (K' := (fun g => fun w => Strm 25 w B sb (m + 200 * i + 1 + 1 + 1 + 10))) (L' := (fun g => [(g4, 42, [.int .i64 fr, .int .i64 (fr + v3)]), (g2, 3, [.int .i64 60, .int .i64 100, .int .i64 1440, .int .i64 2000, .int .i64 3000]), (g1, 45, [.string ⟨#[]⟩, .string ⟨#[]⟩, .int .i64 0, .int .i64 0, .slice none 0 0]), (g.2.2.2.2.2.2.2.2.2, 45, [.string g.1, .string g.2.1, .int .i64 g.2.2.1, .int .i64 g.2.2.2.1, .slice g.2.2.2.2.1 g.2.2.2.2.2.1 g.2.2.2.2.2.2.1])])) (O' := (fun g => [])) (X' := (fun g => [fun wy => SlT lgEnc 9 128 wy g.2.2.2.2.1 g.2.2.2.2.2.1 g.2.2.2.2.2.2.2.1])) ?_ ?_
  ·refine gd (fun wz => Blk wz g4 42 [.int .i64 fr, .int .i64 (fr + v3)] ∧ Blk wz g2 3 [.int .i64 60, .int .i64 100, .int .i64 1440, .int .i64 2000, .int .i64 3000] ∧ Blk wz g1 45 [.string ⟨#[]⟩, .string ⟨#[]⟩, .int .i64 0, .int .i64 0, .slice none 0 0] ∧ True) mixed (fun _ hm => ⟨hm.bl 0, hm.bl 1, hm.bl 2, trivial⟩) fun z => ?_
   refine wt 0 18 1 rfl z (ov_move rfl) ?_
   refine wt 1 18 3 rfl z (ov_move rfl) ?_
   refine wt 4 18 19 rfl z (ov_loads rz42 rfl (fun _ hm => hm.1) rfl rfl) ?_
   refine wt 5 18 51 rfl z (ov_move rfl) ?_
   refine wt 8 18 307 rfl z (ov_move rfl) ?_
   refine wt 9 18 819 rfl z (ov_move rfl) ?_
   refine wa_all [2, 6, 15] (by kernel_rfl) rfl ⟨⟨_, rfl, ?_⟩, ⟨_, rfl, ?_⟩, ⟨_, rfl, ?_⟩, trivial⟩
   ·refine wl_buildSlice (e := 9) (cs := [.string ⟨#[97, 110, 110]⟩, .string ⟨#[97, 110, 110]⟩, .string ⟨#[98, 111, 98]⟩, .string ⟨#[99, 105, 100]⟩]) rfl (by kernel_rfl) rfl fun g5 => ?_
    refine wl_nil ?_
    refine nw 18 823 (fun _ hm => ⟨hm.bl 1, hm.bl 2, hm.bl 3, trivial⟩) fun z => ?_
    refine wa_all [3, 6, 15] (by kernel_rfl) rfl ⟨⟨_, rfl, ?_⟩, ⟨_, rfl, ?_⟩, ⟨_, rfl, ?_⟩, trivial⟩
    ·refine wl_got (γ := ByteArray) (val := fun v => .string v) (φ := fun v => v ∈ ([⟨#[97, 110, 110]⟩, ⟨#[97, 110, 110]⟩, ⟨#[98, 111, 98]⟩, ⟨#[99, 105, 100]⟩] : List ByteArray)) rfl cb57 rfl rfl rfl rfl (fun wx hm => (some_any [⟨#[97, 110, 110]⟩, ⟨#[97, 110, 110]⟩, ⟨#[98, 111, 98]⟩, ⟨#[99, 105, 100]⟩] _ _ _ wx B sb _ hm.k (by omega) (by simp) (by simp) (hm.blkI 0 rfl) (hm.neRow 0 rfl rfl))) fun s6 hs6 => ?_
     have zs6 : s6.size ≤ 100 := mem_sz hs6 (by decide)
     refine wl_nil ?_
     refine nw 18 831 (fun _ hm => ⟨hm.bl 1, hm.bl 2, hm.bl 3, trivial⟩) fun z => ?_
     refine wa_all [6, 15] (by kernel_rfl) rfl ⟨⟨_, rfl, ?_⟩, ⟨_, rfl, ?_⟩, trivial⟩
     ·refine wl_buildSlice (e := 9) (cs := [.string ⟨#[118, 49]⟩, .string ⟨#[118, 49]⟩, .string ⟨#[118, 50]⟩, .string ⟨#[118, 51]⟩]) rfl (by kernel_rfl) rfl fun g7 => ?_
      refine wl_nil ?_
      refine nw 18 895 (fun _ hm => ⟨hm.bl 2, hm.bl 3, hm.bl 4, trivial⟩) fun z => ?_
      refine wa_all [7, 15] (by kernel_rfl) rfl ⟨⟨_, rfl, ?_⟩, ⟨_, rfl, ?_⟩, trivial⟩
      ·refine wl_got (γ := ByteArray) (val := fun v => .string v) (φ := fun v => v ∈ ([⟨#[118, 49]⟩, ⟨#[118, 49]⟩, ⟨#[118, 50]⟩, ⟨#[118, 51]⟩] : List ByteArray)) rfl cb57 rfl rfl rfl rfl (fun wx hm => (some_any [⟨#[118, 49]⟩, ⟨#[118, 49]⟩, ⟨#[118, 50]⟩, ⟨#[118, 51]⟩] _ _ _ wx B sb _ hm.k (by omega) (by simp) (by simp) (hm.blkI 0 rfl) (hm.neRow 0 rfl rfl))) fun s8 hs8 => ?_
       have zs8 : s8.size ≤ 100 := mem_sz hs8 (by decide)
       refine wl_nil ?_
       refine nw 18 1023 (fun _ hm => ⟨hm.bl 2, hm.bl 3, hm.bl 4, trivial⟩) fun z => ?_
       refine wa_all [10, 15] (by kernel_rfl) rfl ⟨⟨_, rfl, ?_⟩, ⟨_, rfl, ?_⟩, trivial⟩
       ·refine wl_calls (γ := Int × ByteArray × Int × Int) (val := (fun g => .agg #[.int .i64 g.1, .string g.2.1, .int .i64 g.2.2.1, .int .i64 g.2.2.2])) (φ := (fun g => RdOk ⟨g.1, g.2.1, g.2.2.1, g.2.2.2⟩)) (Y := (fun g => fun _ => True)) (m' := m + 200 * i + 1 + 1 + 1 + 10) rfl cb79 rfl rfl rfl rfl (fun wx hm => (greading_any fr wx B sb _ hm.k (by omega) (by omega) (by omega)).mono fun _ _ ⟨r, hok, he, hS, hg⟩ => ⟨(r.at_, r.st, r.meter, r.fuel), he, hok, hS, hg, trivial⟩) (fun _ => Lasts2.true_) ?_
        rintro ⟨ra, rs, rm, rf⟩ hr_ra
        dsimp only at hr_ra ⊢
        have hz_rs : rs.size ≤ 1000000 := hr_ra
        refine wl_nil ?_
        refine nw 18 2047 (fun _ hm => ⟨hm.bl 2, hm.bl 3, hm.bl 4, trivial⟩) fun z => ?_
        refine wa_all [11, 15] (by kernel_rfl) rfl ⟨⟨_, rfl, ?_⟩, ⟨_, rfl, ?_⟩, trivial⟩
        ·refine wl_callx (γ := ByteArray × ByteArray × Int × Int × Option Addr × Nat × Nat × List Lg) (val := (fun g => .tuple #[.agg #[.string g.1, .string g.2.1, .int .i64 g.2.2.1, .int .i64 g.2.2.2.1, .slice g.2.2.2.2.1 g.2.2.2.2.2.1 g.2.2.2.2.2.2.1], .int .i64 (hireE ⟨key, s6, fr, fr + v3, [startLeg s8 ⟨ra, rs, rm, rf⟩]⟩)])) (φ := (fun g => HrOk g.1 g.2.1 g.2.2.2.2.2.2.2 ∧ g.2.2.2.2.2.1 ≤ 1 ∧ (hireE ⟨key, s6, fr, fr + v3, [startLeg s8 ⟨ra, rs, rm, rf⟩]⟩ = 0 → g.2.2.2.2.2.1 = 1 ∧ hireE ⟨g.1, g.2.1, g.2.2.1, g.2.2.2.1, g.2.2.2.2.2.2.2⟩ = 0))) (Y := (fun g => fun wy => SlT lgEnc 9 128 wy g.2.2.2.2.1 g.2.2.2.2.2.1 g.2.2.2.2.2.2.2)) rfl cb169 rfl rfl (fun wx hm => (startOf_litR key s6 fr (fr + v3) s8 ra rm rf rs wx (by omega) (by omega) (by omega) hz_rs).mono fun _ _ ⟨k, d, f, t, A, n, c, l, he, hsl, hok, hn, hn0, hg⟩ => ⟨(k, d, f, t, A, n, c, l), he, ⟨hok, hn, hn0⟩, hg, hsl⟩) (fun _ => SlT.lasts2 rfl) ?_
         rintro ⟨k1, d1, f1, t1, A1, n1, c1, l1⟩ hb1
         dsimp only at hb1 ⊢
         refine wl_nil ?_
         refine nw 18 4095 (fun _ hm => ⟨hm.bl 2, hm.bl 3, hm.bl 4, trivial⟩) fun z => ?_
         refine wt 12 18 8191 rfl z (ov_move rfl) ?_
         refine wt 13 18 16383 rfl z (ov_extract rfl rfl) ?_
         refine wt 14 18 32767 rfl z (ov_extract rfl rfl) ?_
         refine wa1 15 rfl ?_
         refine wl_alloc zc45 rfl fun g10 => ?_
         refine wl_nil ?_
         refine nw 18 65535 (fun _ hm => ⟨hm.bl 3, hm.bl 4, hm.bl 5, trivial⟩) fun z => ?_
         refine wa1 16 rfl ?_
         refine wl_stores (cs' := [.string k1, .string d1, .int .i64 f1, .int .i64 t1, .slice A1 n1 c1]) 0 rz45 rfl rfl rfl rfl rfl rfl rfl rfl ?_
         refine wl_nil ?_
         refine nw 18 131071 (fun _ hm => ⟨hm.bl 3, hm.bl 4, hm.bl 5, trivial⟩) fun z => ?_
         refine wt 17 18 262143 rfl z (ov_assign rfl) ?_
         refine wa_done (by kernel_rfl) ?_
         exact nx_meet (k1, d1, f1, t1, A1, n1, c1, l1, hireE ⟨key, s6, fr, fr + v3, [startLeg s8 ⟨ra, rs, rm, rf⟩]⟩, g10) hb1 ⟨rfl, rfl, rfl, rfl, rfl, rfl, rfl, trivial⟩ (fun _ hm => hm.pick [3, 4, 5, 0] [] [0] rfl rfl)
        refine wl_alloc zc45 rfl fun g11 => ?_
        refine wl_nil ?_
        refine nw 18 34815 (fun _ hm => ⟨hm.bl 3, hm.bl 4, hm.bl 5, trivial⟩) fun z => ?_
        refine wa1 11 rfl ?_
        refine wl_callx (γ := ByteArray × ByteArray × Int × Int × Option Addr × Nat × Nat × List Lg) (val := (fun g => .tuple #[.agg #[.string g.1, .string g.2.1, .int .i64 g.2.2.1, .int .i64 g.2.2.2.1, .slice g.2.2.2.2.1 g.2.2.2.2.2.1 g.2.2.2.2.2.2.1], .int .i64 (hireE ⟨key, s6, fr, fr + v3, [startLeg s8 ⟨ra, rs, rm, rf⟩]⟩)])) (φ := (fun g => HrOk g.1 g.2.1 g.2.2.2.2.2.2.2 ∧ g.2.2.2.2.2.1 ≤ 1 ∧ (hireE ⟨key, s6, fr, fr + v3, [startLeg s8 ⟨ra, rs, rm, rf⟩]⟩ = 0 → g.2.2.2.2.2.1 = 1 ∧ hireE ⟨g.1, g.2.1, g.2.2.1, g.2.2.2.1, g.2.2.2.2.2.2.2⟩ = 0))) (Y := (fun g => fun wy => SlT lgEnc 9 128 wy g.2.2.2.2.1 g.2.2.2.2.2.1 g.2.2.2.2.2.2.2)) rfl cb169 rfl rfl (fun wx hm => (startOf_litR key s6 fr (fr + v3) s8 ra rm rf rs wx (by omega) (by omega) (by omega) hz_rs).mono fun _ _ ⟨k, d, f, t, A, n, c, l, he, hsl, hok, hn, hn0, hg⟩ => ⟨(k, d, f, t, A, n, c, l), he, ⟨hok, hn, hn0⟩, hg, hsl⟩) (fun _ => SlT.lasts2 rfl) ?_
        rintro ⟨k1, d1, f1, t1, A1, n1, c1, l1⟩ hb1
        dsimp only at hb1 ⊢
        refine wl_nil ?_
        refine nw 18 36863 (fun _ hm => ⟨hm.bl 3, hm.bl 4, hm.bl 5, trivial⟩) fun z => ?_
        refine wt 12 18 40959 rfl z (ov_move rfl) ?_
        refine wt 13 18 49151 rfl z (ov_extract rfl rfl) ?_
        refine wt 14 18 65535 rfl z (ov_extract rfl rfl) ?_
        refine wa1 16 rfl ?_
        refine wl_stores (cs' := [.string k1, .string d1, .int .i64 f1, .int .i64 t1, .slice A1 n1 c1]) 0 rz45 rfl rfl rfl rfl rfl rfl rfl rfl ?_
        refine wl_nil ?_
        refine nw 18 131071 (fun _ hm => ⟨hm.bl 3, hm.bl 4, hm.bl 5, trivial⟩) fun z => ?_
        refine wt 17 18 262143 rfl z (ov_assign rfl) ?_
        refine wa_done (by kernel_rfl) ?_
        exact nx_meet (k1, d1, f1, t1, A1, n1, c1, l1, hireE ⟨key, s6, fr, fr + v3, [startLeg s8 ⟨ra, rs, rm, rf⟩]⟩, g11) hb1 ⟨rfl, rfl, rfl, rfl, rfl, rfl, rfl, trivial⟩ (fun _ hm => hm.pick [3, 4, 5, 0] [] [0] rfl rfl)
       refine wl_alloc zc45 rfl fun g12 => ?_
       refine wl_nil ?_
       refine nw 18 33791 (fun _ hm => ⟨hm.bl 3, hm.bl 4, hm.bl 5, trivial⟩) fun z => ?_
       refine wa1 10 rfl ?_
       refine wl_calls (γ := Int × ByteArray × Int × Int) (val := (fun g => .agg #[.int .i64 g.1, .string g.2.1, .int .i64 g.2.2.1, .int .i64 g.2.2.2])) (φ := (fun g => RdOk ⟨g.1, g.2.1, g.2.2.1, g.2.2.2⟩)) (Y := (fun g => fun _ => True)) (m' := m + 200 * i + 1 + 1 + 1 + 10) rfl cb79 rfl rfl rfl rfl (fun wx hm => (greading_any fr wx B sb _ hm.k (by omega) (by omega) (by omega)).mono fun _ _ ⟨r, hok, he, hS, hg⟩ => ⟨(r.at_, r.st, r.meter, r.fuel), he, hok, hS, hg, trivial⟩) (fun _ => Lasts2.true_) ?_
       rintro ⟨ra, rs, rm, rf⟩ hr_ra
       dsimp only at hr_ra ⊢
       have hz_rs : rs.size ≤ 1000000 := hr_ra
       refine wl_nil ?_
       refine nw 18 34815 (fun _ hm => ⟨hm.bl 3, hm.bl 4, hm.bl 5, trivial⟩) fun z => ?_
       refine wa1 11 rfl ?_
       refine wl_callx (γ := ByteArray × ByteArray × Int × Int × Option Addr × Nat × Nat × List Lg) (val := (fun g => .tuple #[.agg #[.string g.1, .string g.2.1, .int .i64 g.2.2.1, .int .i64 g.2.2.2.1, .slice g.2.2.2.2.1 g.2.2.2.2.2.1 g.2.2.2.2.2.2.1], .int .i64 (hireE ⟨key, s6, fr, fr + v3, [startLeg s8 ⟨ra, rs, rm, rf⟩]⟩)])) (φ := (fun g => HrOk g.1 g.2.1 g.2.2.2.2.2.2.2 ∧ g.2.2.2.2.2.1 ≤ 1 ∧ (hireE ⟨key, s6, fr, fr + v3, [startLeg s8 ⟨ra, rs, rm, rf⟩]⟩ = 0 → g.2.2.2.2.2.1 = 1 ∧ hireE ⟨g.1, g.2.1, g.2.2.1, g.2.2.2.1, g.2.2.2.2.2.2.2⟩ = 0))) (Y := (fun g => fun wy => SlT lgEnc 9 128 wy g.2.2.2.2.1 g.2.2.2.2.2.1 g.2.2.2.2.2.2.2)) rfl cb169 rfl rfl (fun wx hm => (startOf_litR key s6 fr (fr + v3) s8 ra rm rf rs wx (by omega) (by omega) (by omega) hz_rs).mono fun _ _ ⟨k, d, f, t, A, n, c, l, he, hsl, hok, hn, hn0, hg⟩ => ⟨(k, d, f, t, A, n, c, l), he, ⟨hok, hn, hn0⟩, hg, hsl⟩) (fun _ => SlT.lasts2 rfl) ?_
       rintro ⟨k1, d1, f1, t1, A1, n1, c1, l1⟩ hb1
       dsimp only at hb1 ⊢
       refine wl_nil ?_
       refine nw 18 36863 (fun _ hm => ⟨hm.bl 3, hm.bl 4, hm.bl 5, trivial⟩) fun z => ?_
       refine wt 12 18 40959 rfl z (ov_move rfl) ?_
       refine wt 13 18 49151 rfl z (ov_extract rfl rfl) ?_
       refine wt 14 18 65535 rfl z (ov_extract rfl rfl) ?_
       refine wa1 16 rfl ?_
       refine wl_stores (cs' := [.string k1, .string d1, .int .i64 f1, .int .i64 t1, .slice A1 n1 c1]) 0 rz45 rfl rfl rfl rfl rfl rfl rfl rfl ?_
       refine wl_nil ?_
       refine nw 18 131071 (fun _ hm => ⟨hm.bl 3, hm.bl 4, hm.bl 5, trivial⟩) fun z => ?_
       refine wt 17 18 262143 rfl z (ov_assign rfl) ?_
       refine wa_done (by kernel_rfl) ?_
       exact nx_meet (k1, d1, f1, t1, A1, n1, c1, l1, hireE ⟨key, s6, fr, fr + v3, [startLeg s8 ⟨ra, rs, rm, rf⟩]⟩, g12) hb1 ⟨rfl, rfl, rfl, rfl, rfl, rfl, rfl, trivial⟩ (fun _ hm => hm.pick [3, 4, 5, 0] [] [0] rfl rfl)
      refine wl_alloc zc45 rfl fun g14 => ?_
      refine wl_nil ?_
      refine nw 18 33663 (fun _ hm => ⟨hm.bl 3, hm.bl 4, hm.bl 5, trivial⟩) fun z => ?_
      refine wa1 7 rfl ?_
      refine wl_got (γ := ByteArray) (val := fun v => .string v) (φ := fun v => v ∈ ([⟨#[118, 49]⟩, ⟨#[118, 49]⟩, ⟨#[118, 50]⟩, ⟨#[118, 51]⟩] : List ByteArray)) rfl cb57 rfl rfl rfl rfl (fun wx hm => (some_any [⟨#[118, 49]⟩, ⟨#[118, 49]⟩, ⟨#[118, 50]⟩, ⟨#[118, 51]⟩] _ _ _ wx B sb _ hm.k (by omega) (by simp) (by simp) (hm.blkI 1 rfl) (hm.neRow 1 rfl rfl))) fun s15 hs15 => ?_
      have zs15 : s15.size ≤ 100 := mem_sz hs15 (by decide)
      refine wl_nil ?_
      refine nw 18 33791 (fun _ hm => ⟨hm.bl 3, hm.bl 4, hm.bl 5, trivial⟩) fun z => ?_
      refine wa1 10 rfl ?_
      refine wl_calls (γ := Int × ByteArray × Int × Int) (val := (fun g => .agg #[.int .i64 g.1, .string g.2.1, .int .i64 g.2.2.1, .int .i64 g.2.2.2])) (φ := (fun g => RdOk ⟨g.1, g.2.1, g.2.2.1, g.2.2.2⟩)) (Y := (fun g => fun _ => True)) (m' := m + 200 * i + 1 + 1 + 1 + 10) rfl cb79 rfl rfl rfl rfl (fun wx hm => (greading_any fr wx B sb _ hm.k (by omega) (by omega) (by omega)).mono fun _ _ ⟨r, hok, he, hS, hg⟩ => ⟨(r.at_, r.st, r.meter, r.fuel), he, hok, hS, hg, trivial⟩) (fun _ => Lasts2.true_) ?_
      rintro ⟨ra, rs, rm, rf⟩ hr_ra
      dsimp only at hr_ra ⊢
      have hz_rs : rs.size ≤ 1000000 := hr_ra
      refine wl_nil ?_
      refine nw 18 34815 (fun _ hm => ⟨hm.bl 3, hm.bl 4, hm.bl 5, trivial⟩) fun z => ?_
      refine wa1 11 rfl ?_
      refine wl_callx (γ := ByteArray × ByteArray × Int × Int × Option Addr × Nat × Nat × List Lg) (val := (fun g => .tuple #[.agg #[.string g.1, .string g.2.1, .int .i64 g.2.2.1, .int .i64 g.2.2.2.1, .slice g.2.2.2.2.1 g.2.2.2.2.2.1 g.2.2.2.2.2.2.1], .int .i64 (hireE ⟨key, s6, fr, fr + v3, [startLeg s15 ⟨ra, rs, rm, rf⟩]⟩)])) (φ := (fun g => HrOk g.1 g.2.1 g.2.2.2.2.2.2.2 ∧ g.2.2.2.2.2.1 ≤ 1 ∧ (hireE ⟨key, s6, fr, fr + v3, [startLeg s15 ⟨ra, rs, rm, rf⟩]⟩ = 0 → g.2.2.2.2.2.1 = 1 ∧ hireE ⟨g.1, g.2.1, g.2.2.1, g.2.2.2.1, g.2.2.2.2.2.2.2⟩ = 0))) (Y := (fun g => fun wy => SlT lgEnc 9 128 wy g.2.2.2.2.1 g.2.2.2.2.2.1 g.2.2.2.2.2.2.2)) rfl cb169 rfl rfl (fun wx hm => (startOf_litR key s6 fr (fr + v3) s15 ra rm rf rs wx (by omega) (by omega) (by omega) hz_rs).mono fun _ _ ⟨k, d, f, t, A, n, c, l, he, hsl, hok, hn, hn0, hg⟩ => ⟨(k, d, f, t, A, n, c, l), he, ⟨hok, hn, hn0⟩, hg, hsl⟩) (fun _ => SlT.lasts2 rfl) ?_
      rintro ⟨k1, d1, f1, t1, A1, n1, c1, l1⟩ hb1
      dsimp only at hb1 ⊢
      refine wl_nil ?_
      refine nw 18 36863 (fun _ hm => ⟨hm.bl 3, hm.bl 4, hm.bl 5, trivial⟩) fun z => ?_
      refine wt 12 18 40959 rfl z (ov_move rfl) ?_
      refine wt 13 18 49151 rfl z (ov_extract rfl rfl) ?_
      refine wt 14 18 65535 rfl z (ov_extract rfl rfl) ?_
      refine wa1 16 rfl ?_
      refine wl_stores (cs' := [.string k1, .string d1, .int .i64 f1, .int .i64 t1, .slice A1 n1 c1]) 0 rz45 rfl rfl rfl rfl rfl rfl rfl rfl ?_
      refine wl_nil ?_
      refine nw 18 131071 (fun _ hm => ⟨hm.bl 3, hm.bl 4, hm.bl 5, trivial⟩) fun z => ?_
      refine wt 17 18 262143 rfl z (ov_assign rfl) ?_
      refine wa_done (by kernel_rfl) ?_
      exact nx_meet (k1, d1, f1, t1, A1, n1, c1, l1, hireE ⟨key, s6, fr, fr + v3, [startLeg s15 ⟨ra, rs, rm, rf⟩]⟩, g14) hb1 ⟨rfl, rfl, rfl, rfl, rfl, rfl, rfl, trivial⟩ (fun _ hm => hm.pick [3, 4, 5, 0] [] [0] rfl rfl)
     refine wl_alloc zc45 rfl fun g17 => ?_
     refine wl_nil ?_
     refine nw 18 33599 (fun _ hm => ⟨hm.bl 2, hm.bl 3, hm.bl 4, trivial⟩) fun z => ?_
     refine wa1 6 rfl ?_
     refine wl_buildSlice (e := 9) (cs := [.string ⟨#[118, 49]⟩, .string ⟨#[118, 49]⟩, .string ⟨#[118, 50]⟩, .string ⟨#[118, 51]⟩]) rfl (by kernel_rfl) rfl fun g18 => ?_
     refine wl_nil ?_
     refine nw 18 33663 (fun _ hm => ⟨hm.bl 3, hm.bl 4, hm.bl 5, trivial⟩) fun z => ?_
     refine wa1 7 rfl ?_
     refine wl_got (γ := ByteArray) (val := fun v => .string v) (φ := fun v => v ∈ ([⟨#[118, 49]⟩, ⟨#[118, 49]⟩, ⟨#[118, 50]⟩, ⟨#[118, 51]⟩] : List ByteArray)) rfl cb57 rfl rfl rfl rfl (fun wx hm => (some_any [⟨#[118, 49]⟩, ⟨#[118, 49]⟩, ⟨#[118, 50]⟩, ⟨#[118, 51]⟩] _ _ _ wx B sb _ hm.k (by omega) (by simp) (by simp) (hm.blkI 0 rfl) (hm.neRow 0 rfl rfl))) fun s19 hs19 => ?_
     have zs19 : s19.size ≤ 100 := mem_sz hs19 (by decide)
     refine wl_nil ?_
     refine nw 18 33791 (fun _ hm => ⟨hm.bl 3, hm.bl 4, hm.bl 5, trivial⟩) fun z => ?_
     refine wa1 10 rfl ?_
     refine wl_calls (γ := Int × ByteArray × Int × Int) (val := (fun g => .agg #[.int .i64 g.1, .string g.2.1, .int .i64 g.2.2.1, .int .i64 g.2.2.2])) (φ := (fun g => RdOk ⟨g.1, g.2.1, g.2.2.1, g.2.2.2⟩)) (Y := (fun g => fun _ => True)) (m' := m + 200 * i + 1 + 1 + 1 + 10) rfl cb79 rfl rfl rfl rfl (fun wx hm => (greading_any fr wx B sb _ hm.k (by omega) (by omega) (by omega)).mono fun _ _ ⟨r, hok, he, hS, hg⟩ => ⟨(r.at_, r.st, r.meter, r.fuel), he, hok, hS, hg, trivial⟩) (fun _ => Lasts2.true_) ?_
     rintro ⟨ra, rs, rm, rf⟩ hr_ra
     dsimp only at hr_ra ⊢
     have hz_rs : rs.size ≤ 1000000 := hr_ra
     refine wl_nil ?_
     refine nw 18 34815 (fun _ hm => ⟨hm.bl 3, hm.bl 4, hm.bl 5, trivial⟩) fun z => ?_
     refine wa1 11 rfl ?_
     refine wl_callx (γ := ByteArray × ByteArray × Int × Int × Option Addr × Nat × Nat × List Lg) (val := (fun g => .tuple #[.agg #[.string g.1, .string g.2.1, .int .i64 g.2.2.1, .int .i64 g.2.2.2.1, .slice g.2.2.2.2.1 g.2.2.2.2.2.1 g.2.2.2.2.2.2.1], .int .i64 (hireE ⟨key, s6, fr, fr + v3, [startLeg s19 ⟨ra, rs, rm, rf⟩]⟩)])) (φ := (fun g => HrOk g.1 g.2.1 g.2.2.2.2.2.2.2 ∧ g.2.2.2.2.2.1 ≤ 1 ∧ (hireE ⟨key, s6, fr, fr + v3, [startLeg s19 ⟨ra, rs, rm, rf⟩]⟩ = 0 → g.2.2.2.2.2.1 = 1 ∧ hireE ⟨g.1, g.2.1, g.2.2.1, g.2.2.2.1, g.2.2.2.2.2.2.2⟩ = 0))) (Y := (fun g => fun wy => SlT lgEnc 9 128 wy g.2.2.2.2.1 g.2.2.2.2.2.1 g.2.2.2.2.2.2.2)) rfl cb169 rfl rfl (fun wx hm => (startOf_litR key s6 fr (fr + v3) s19 ra rm rf rs wx (by omega) (by omega) (by omega) hz_rs).mono fun _ _ ⟨k, d, f, t, A, n, c, l, he, hsl, hok, hn, hn0, hg⟩ => ⟨(k, d, f, t, A, n, c, l), he, ⟨hok, hn, hn0⟩, hg, hsl⟩) (fun _ => SlT.lasts2 rfl) ?_
     rintro ⟨k1, d1, f1, t1, A1, n1, c1, l1⟩ hb1
     dsimp only at hb1 ⊢
     refine wl_nil ?_
     refine nw 18 36863 (fun _ hm => ⟨hm.bl 3, hm.bl 4, hm.bl 5, trivial⟩) fun z => ?_
     refine wt 12 18 40959 rfl z (ov_move rfl) ?_
     refine wt 13 18 49151 rfl z (ov_extract rfl rfl) ?_
     refine wt 14 18 65535 rfl z (ov_extract rfl rfl) ?_
     refine wa1 16 rfl ?_
     refine wl_stores (cs' := [.string k1, .string d1, .int .i64 f1, .int .i64 t1, .slice A1 n1 c1]) 1 rz45 rfl rfl rfl rfl rfl rfl rfl rfl ?_
     refine wl_nil ?_
     refine nw 18 131071 (fun _ hm => ⟨hm.bl 3, hm.bl 4, hm.bl 5, trivial⟩) fun z => ?_
     refine wt 17 18 262143 rfl z (ov_assign rfl) ?_
     refine wa_done (by kernel_rfl) ?_
     exact nx_meet (k1, d1, f1, t1, A1, n1, c1, l1, hireE ⟨key, s6, fr, fr + v3, [startLeg s19 ⟨ra, rs, rm, rf⟩]⟩, g17) hb1 ⟨rfl, rfl, rfl, rfl, rfl, rfl, rfl, trivial⟩ (fun _ hm => hm.pick [3, 4, 5, 1] [] [0] rfl rfl)
    ·refine wl_buildSlice (e := 9) (cs := [.string ⟨#[118, 49]⟩, .string ⟨#[118, 49]⟩, .string ⟨#[118, 50]⟩, .string ⟨#[118, 51]⟩]) rfl (by kernel_rfl) rfl fun g21 => ?_
     refine wl_nil ?_
     refine nw 18 887 (fun _ hm => ⟨hm.bl 2, hm.bl 3, hm.bl 4, trivial⟩) fun z => ?_
     refine wa_all [3, 15] (by kernel_rfl) rfl ⟨⟨_, rfl, ?_⟩, ⟨_, rfl, ?_⟩, trivial⟩
     ·refine wl_got (γ := ByteArray) (val := fun v => .string v) (φ := fun v => v ∈ ([⟨#[97, 110, 110]⟩, ⟨#[97, 110, 110]⟩, ⟨#[98, 111, 98]⟩, ⟨#[99, 105, 100]⟩] : List ByteArray)) rfl cb57 rfl rfl rfl rfl (fun wx hm => (some_any [⟨#[97, 110, 110]⟩, ⟨#[97, 110, 110]⟩, ⟨#[98, 111, 98]⟩, ⟨#[99, 105, 100]⟩] _ _ _ wx B sb _ hm.k (by omega) (by simp) (by simp) (hm.blkI 1 rfl) (hm.neRow 1 rfl rfl))) fun s22 hs22 => ?_
      have zs22 : s22.size ≤ 100 := mem_sz hs22 (by decide)
      refine wl_nil ?_
      refine nw 18 895 (fun _ hm => ⟨hm.bl 2, hm.bl 3, hm.bl 4, trivial⟩) fun z => ?_
      refine wa_all [7, 15] (by kernel_rfl) rfl ⟨⟨_, rfl, ?_⟩, ⟨_, rfl, ?_⟩, trivial⟩
      ·refine wl_got (γ := ByteArray) (val := fun v => .string v) (φ := fun v => v ∈ ([⟨#[118, 49]⟩, ⟨#[118, 49]⟩, ⟨#[118, 50]⟩, ⟨#[118, 51]⟩] : List ByteArray)) rfl cb57 rfl rfl rfl rfl (fun wx hm => (some_any [⟨#[118, 49]⟩, ⟨#[118, 49]⟩, ⟨#[118, 50]⟩, ⟨#[118, 51]⟩] _ _ _ wx B sb _ hm.k (by omega) (by simp) (by simp) (hm.blkI 0 rfl) (hm.neRow 0 rfl rfl))) fun s23 hs23 => ?_
       have zs23 : s23.size ≤ 100 := mem_sz hs23 (by decide)
       refine wl_nil ?_
       refine nw 18 1023 (fun _ hm => ⟨hm.bl 2, hm.bl 3, hm.bl 4, trivial⟩) fun z => ?_
       refine wa_all [10, 15] (by kernel_rfl) rfl ⟨⟨_, rfl, ?_⟩, ⟨_, rfl, ?_⟩, trivial⟩
       ·refine wl_calls (γ := Int × ByteArray × Int × Int) (val := (fun g => .agg #[.int .i64 g.1, .string g.2.1, .int .i64 g.2.2.1, .int .i64 g.2.2.2])) (φ := (fun g => RdOk ⟨g.1, g.2.1, g.2.2.1, g.2.2.2⟩)) (Y := (fun g => fun _ => True)) (m' := m + 200 * i + 1 + 1 + 1 + 10) rfl cb79 rfl rfl rfl rfl (fun wx hm => (greading_any fr wx B sb _ hm.k (by omega) (by omega) (by omega)).mono fun _ _ ⟨r, hok, he, hS, hg⟩ => ⟨(r.at_, r.st, r.meter, r.fuel), he, hok, hS, hg, trivial⟩) (fun _ => Lasts2.true_) ?_
        rintro ⟨ra, rs, rm, rf⟩ hr_ra
        dsimp only at hr_ra ⊢
        have hz_rs : rs.size ≤ 1000000 := hr_ra
        refine wl_nil ?_
        refine nw 18 2047 (fun _ hm => ⟨hm.bl 2, hm.bl 3, hm.bl 4, trivial⟩) fun z => ?_
        refine wa_all [11, 15] (by kernel_rfl) rfl ⟨⟨_, rfl, ?_⟩, ⟨_, rfl, ?_⟩, trivial⟩
        ·refine wl_callx (γ := ByteArray × ByteArray × Int × Int × Option Addr × Nat × Nat × List Lg) (val := (fun g => .tuple #[.agg #[.string g.1, .string g.2.1, .int .i64 g.2.2.1, .int .i64 g.2.2.2.1, .slice g.2.2.2.2.1 g.2.2.2.2.2.1 g.2.2.2.2.2.2.1], .int .i64 (hireE ⟨key, s22, fr, fr + v3, [startLeg s23 ⟨ra, rs, rm, rf⟩]⟩)])) (φ := (fun g => HrOk g.1 g.2.1 g.2.2.2.2.2.2.2 ∧ g.2.2.2.2.2.1 ≤ 1 ∧ (hireE ⟨key, s22, fr, fr + v3, [startLeg s23 ⟨ra, rs, rm, rf⟩]⟩ = 0 → g.2.2.2.2.2.1 = 1 ∧ hireE ⟨g.1, g.2.1, g.2.2.1, g.2.2.2.1, g.2.2.2.2.2.2.2⟩ = 0))) (Y := (fun g => fun wy => SlT lgEnc 9 128 wy g.2.2.2.2.1 g.2.2.2.2.2.1 g.2.2.2.2.2.2.2)) rfl cb169 rfl rfl (fun wx hm => (startOf_litR key s22 fr (fr + v3) s23 ra rm rf rs wx (by omega) (by omega) (by omega) hz_rs).mono fun _ _ ⟨k, d, f, t, A, n, c, l, he, hsl, hok, hn, hn0, hg⟩ => ⟨(k, d, f, t, A, n, c, l), he, ⟨hok, hn, hn0⟩, hg, hsl⟩) (fun _ => SlT.lasts2 rfl) ?_
         rintro ⟨k1, d1, f1, t1, A1, n1, c1, l1⟩ hb1
         dsimp only at hb1 ⊢
         refine wl_nil ?_
         refine nw 18 4095 (fun _ hm => ⟨hm.bl 2, hm.bl 3, hm.bl 4, trivial⟩) fun z => ?_
         refine wt 12 18 8191 rfl z (ov_move rfl) ?_
         refine wt 13 18 16383 rfl z (ov_extract rfl rfl) ?_
         refine wt 14 18 32767 rfl z (ov_extract rfl rfl) ?_
         refine wa1 15 rfl ?_
         refine wl_alloc zc45 rfl fun g25 => ?_
         refine wl_nil ?_
         refine nw 18 65535 (fun _ hm => ⟨hm.bl 3, hm.bl 4, hm.bl 5, trivial⟩) fun z => ?_
         refine wa1 16 rfl ?_
         refine wl_stores (cs' := [.string k1, .string d1, .int .i64 f1, .int .i64 t1, .slice A1 n1 c1]) 0 rz45 rfl rfl rfl rfl rfl rfl rfl rfl ?_
         refine wl_nil ?_
         refine nw 18 131071 (fun _ hm => ⟨hm.bl 3, hm.bl 4, hm.bl 5, trivial⟩) fun z => ?_
         refine wt 17 18 262143 rfl z (ov_assign rfl) ?_
         refine wa_done (by kernel_rfl) ?_
         exact nx_meet (k1, d1, f1, t1, A1, n1, c1, l1, hireE ⟨key, s22, fr, fr + v3, [startLeg s23 ⟨ra, rs, rm, rf⟩]⟩, g25) hb1 ⟨rfl, rfl, rfl, rfl, rfl, rfl, rfl, trivial⟩ (fun _ hm => hm.pick [3, 4, 5, 0] [] [0] rfl rfl)
        refine wl_alloc zc45 rfl fun g26 => ?_
        refine wl_nil ?_
        refine nw 18 34815 (fun _ hm => ⟨hm.bl 3, hm.bl 4, hm.bl 5, trivial⟩) fun z => ?_
        refine wa1 11 rfl ?_
        refine wl_callx (γ := ByteArray × ByteArray × Int × Int × Option Addr × Nat × Nat × List Lg) (val := (fun g => .tuple #[.agg #[.string g.1, .string g.2.1, .int .i64 g.2.2.1, .int .i64 g.2.2.2.1, .slice g.2.2.2.2.1 g.2.2.2.2.2.1 g.2.2.2.2.2.2.1], .int .i64 (hireE ⟨key, s22, fr, fr + v3, [startLeg s23 ⟨ra, rs, rm, rf⟩]⟩)])) (φ := (fun g => HrOk g.1 g.2.1 g.2.2.2.2.2.2.2 ∧ g.2.2.2.2.2.1 ≤ 1 ∧ (hireE ⟨key, s22, fr, fr + v3, [startLeg s23 ⟨ra, rs, rm, rf⟩]⟩ = 0 → g.2.2.2.2.2.1 = 1 ∧ hireE ⟨g.1, g.2.1, g.2.2.1, g.2.2.2.1, g.2.2.2.2.2.2.2⟩ = 0))) (Y := (fun g => fun wy => SlT lgEnc 9 128 wy g.2.2.2.2.1 g.2.2.2.2.2.1 g.2.2.2.2.2.2.2)) rfl cb169 rfl rfl (fun wx hm => (startOf_litR key s22 fr (fr + v3) s23 ra rm rf rs wx (by omega) (by omega) (by omega) hz_rs).mono fun _ _ ⟨k, d, f, t, A, n, c, l, he, hsl, hok, hn, hn0, hg⟩ => ⟨(k, d, f, t, A, n, c, l), he, ⟨hok, hn, hn0⟩, hg, hsl⟩) (fun _ => SlT.lasts2 rfl) ?_
        rintro ⟨k1, d1, f1, t1, A1, n1, c1, l1⟩ hb1
        dsimp only at hb1 ⊢
        refine wl_nil ?_
        refine nw 18 36863 (fun _ hm => ⟨hm.bl 3, hm.bl 4, hm.bl 5, trivial⟩) fun z => ?_
        refine wt 12 18 40959 rfl z (ov_move rfl) ?_
        refine wt 13 18 49151 rfl z (ov_extract rfl rfl) ?_
        refine wt 14 18 65535 rfl z (ov_extract rfl rfl) ?_
        refine wa1 16 rfl ?_
        refine wl_stores (cs' := [.string k1, .string d1, .int .i64 f1, .int .i64 t1, .slice A1 n1 c1]) 0 rz45 rfl rfl rfl rfl rfl rfl rfl rfl ?_
        refine wl_nil ?_
        refine nw 18 131071 (fun _ hm => ⟨hm.bl 3, hm.bl 4, hm.bl 5, trivial⟩) fun z => ?_
        refine wt 17 18 262143 rfl z (ov_assign rfl) ?_
        refine wa_done (by kernel_rfl) ?_
        exact nx_meet (k1, d1, f1, t1, A1, n1, c1, l1, hireE ⟨key, s22, fr, fr + v3, [startLeg s23 ⟨ra, rs, rm, rf⟩]⟩, g26) hb1 ⟨rfl, rfl, rfl, rfl, rfl, rfl, rfl, trivial⟩ (fun _ hm => hm.pick [3, 4, 5, 0] [] [0] rfl rfl)
       refine wl_alloc zc45 rfl fun g27 => ?_
       refine wl_nil ?_
       refine nw 18 33791 (fun _ hm => ⟨hm.bl 3, hm.bl 4, hm.bl 5, trivial⟩) fun z => ?_
       refine wa1 10 rfl ?_
       refine wl_calls (γ := Int × ByteArray × Int × Int) (val := (fun g => .agg #[.int .i64 g.1, .string g.2.1, .int .i64 g.2.2.1, .int .i64 g.2.2.2])) (φ := (fun g => RdOk ⟨g.1, g.2.1, g.2.2.1, g.2.2.2⟩)) (Y := (fun g => fun _ => True)) (m' := m + 200 * i + 1 + 1 + 1 + 10) rfl cb79 rfl rfl rfl rfl (fun wx hm => (greading_any fr wx B sb _ hm.k (by omega) (by omega) (by omega)).mono fun _ _ ⟨r, hok, he, hS, hg⟩ => ⟨(r.at_, r.st, r.meter, r.fuel), he, hok, hS, hg, trivial⟩) (fun _ => Lasts2.true_) ?_
       rintro ⟨ra, rs, rm, rf⟩ hr_ra
       dsimp only at hr_ra ⊢
       have hz_rs : rs.size ≤ 1000000 := hr_ra
       refine wl_nil ?_
       refine nw 18 34815 (fun _ hm => ⟨hm.bl 3, hm.bl 4, hm.bl 5, trivial⟩) fun z => ?_
       refine wa1 11 rfl ?_
       refine wl_callx (γ := ByteArray × ByteArray × Int × Int × Option Addr × Nat × Nat × List Lg) (val := (fun g => .tuple #[.agg #[.string g.1, .string g.2.1, .int .i64 g.2.2.1, .int .i64 g.2.2.2.1, .slice g.2.2.2.2.1 g.2.2.2.2.2.1 g.2.2.2.2.2.2.1], .int .i64 (hireE ⟨key, s22, fr, fr + v3, [startLeg s23 ⟨ra, rs, rm, rf⟩]⟩)])) (φ := (fun g => HrOk g.1 g.2.1 g.2.2.2.2.2.2.2 ∧ g.2.2.2.2.2.1 ≤ 1 ∧ (hireE ⟨key, s22, fr, fr + v3, [startLeg s23 ⟨ra, rs, rm, rf⟩]⟩ = 0 → g.2.2.2.2.2.1 = 1 ∧ hireE ⟨g.1, g.2.1, g.2.2.1, g.2.2.2.1, g.2.2.2.2.2.2.2⟩ = 0))) (Y := (fun g => fun wy => SlT lgEnc 9 128 wy g.2.2.2.2.1 g.2.2.2.2.2.1 g.2.2.2.2.2.2.2)) rfl cb169 rfl rfl (fun wx hm => (startOf_litR key s22 fr (fr + v3) s23 ra rm rf rs wx (by omega) (by omega) (by omega) hz_rs).mono fun _ _ ⟨k, d, f, t, A, n, c, l, he, hsl, hok, hn, hn0, hg⟩ => ⟨(k, d, f, t, A, n, c, l), he, ⟨hok, hn, hn0⟩, hg, hsl⟩) (fun _ => SlT.lasts2 rfl) ?_
       rintro ⟨k1, d1, f1, t1, A1, n1, c1, l1⟩ hb1
       dsimp only at hb1 ⊢
       refine wl_nil ?_
       refine nw 18 36863 (fun _ hm => ⟨hm.bl 3, hm.bl 4, hm.bl 5, trivial⟩) fun z => ?_
       refine wt 12 18 40959 rfl z (ov_move rfl) ?_
       refine wt 13 18 49151 rfl z (ov_extract rfl rfl) ?_
       refine wt 14 18 65535 rfl z (ov_extract rfl rfl) ?_
       refine wa1 16 rfl ?_
       refine wl_stores (cs' := [.string k1, .string d1, .int .i64 f1, .int .i64 t1, .slice A1 n1 c1]) 0 rz45 rfl rfl rfl rfl rfl rfl rfl rfl ?_
       refine wl_nil ?_
       refine nw 18 131071 (fun _ hm => ⟨hm.bl 3, hm.bl 4, hm.bl 5, trivial⟩) fun z => ?_
       refine wt 17 18 262143 rfl z (ov_assign rfl) ?_
       refine wa_done (by kernel_rfl) ?_
       exact nx_meet (k1, d1, f1, t1, A1, n1, c1, l1, hireE ⟨key, s22, fr, fr + v3, [startLeg s23 ⟨ra, rs, rm, rf⟩]⟩, g27) hb1 ⟨rfl, rfl, rfl, rfl, rfl, rfl, rfl, trivial⟩ (fun _ hm => hm.pick [3, 4, 5, 0] [] [0] rfl rfl)
      refine wl_alloc zc45 rfl fun g29 => ?_
      refine wl_nil ?_
      refine nw 18 33663 (fun _ hm => ⟨hm.bl 3, hm.bl 4, hm.bl 5, trivial⟩) fun z => ?_
      refine wa1 7 rfl ?_
      refine wl_got (γ := ByteArray) (val := fun v => .string v) (φ := fun v => v ∈ ([⟨#[118, 49]⟩, ⟨#[118, 49]⟩, ⟨#[118, 50]⟩, ⟨#[118, 51]⟩] : List ByteArray)) rfl cb57 rfl rfl rfl rfl (fun wx hm => (some_any [⟨#[118, 49]⟩, ⟨#[118, 49]⟩, ⟨#[118, 50]⟩, ⟨#[118, 51]⟩] _ _ _ wx B sb _ hm.k (by omega) (by simp) (by simp) (hm.blkI 1 rfl) (hm.neRow 1 rfl rfl))) fun s30 hs30 => ?_
      have zs30 : s30.size ≤ 100 := mem_sz hs30 (by decide)
      refine wl_nil ?_
      refine nw 18 33791 (fun _ hm => ⟨hm.bl 3, hm.bl 4, hm.bl 5, trivial⟩) fun z => ?_
      refine wa1 10 rfl ?_
      refine wl_calls (γ := Int × ByteArray × Int × Int) (val := (fun g => .agg #[.int .i64 g.1, .string g.2.1, .int .i64 g.2.2.1, .int .i64 g.2.2.2])) (φ := (fun g => RdOk ⟨g.1, g.2.1, g.2.2.1, g.2.2.2⟩)) (Y := (fun g => fun _ => True)) (m' := m + 200 * i + 1 + 1 + 1 + 10) rfl cb79 rfl rfl rfl rfl (fun wx hm => (greading_any fr wx B sb _ hm.k (by omega) (by omega) (by omega)).mono fun _ _ ⟨r, hok, he, hS, hg⟩ => ⟨(r.at_, r.st, r.meter, r.fuel), he, hok, hS, hg, trivial⟩) (fun _ => Lasts2.true_) ?_
      rintro ⟨ra, rs, rm, rf⟩ hr_ra
      dsimp only at hr_ra ⊢
      have hz_rs : rs.size ≤ 1000000 := hr_ra
      refine wl_nil ?_
      refine nw 18 34815 (fun _ hm => ⟨hm.bl 3, hm.bl 4, hm.bl 5, trivial⟩) fun z => ?_
      refine wa1 11 rfl ?_
      refine wl_callx (γ := ByteArray × ByteArray × Int × Int × Option Addr × Nat × Nat × List Lg) (val := (fun g => .tuple #[.agg #[.string g.1, .string g.2.1, .int .i64 g.2.2.1, .int .i64 g.2.2.2.1, .slice g.2.2.2.2.1 g.2.2.2.2.2.1 g.2.2.2.2.2.2.1], .int .i64 (hireE ⟨key, s22, fr, fr + v3, [startLeg s30 ⟨ra, rs, rm, rf⟩]⟩)])) (φ := (fun g => HrOk g.1 g.2.1 g.2.2.2.2.2.2.2 ∧ g.2.2.2.2.2.1 ≤ 1 ∧ (hireE ⟨key, s22, fr, fr + v3, [startLeg s30 ⟨ra, rs, rm, rf⟩]⟩ = 0 → g.2.2.2.2.2.1 = 1 ∧ hireE ⟨g.1, g.2.1, g.2.2.1, g.2.2.2.1, g.2.2.2.2.2.2.2⟩ = 0))) (Y := (fun g => fun wy => SlT lgEnc 9 128 wy g.2.2.2.2.1 g.2.2.2.2.2.1 g.2.2.2.2.2.2.2)) rfl cb169 rfl rfl (fun wx hm => (startOf_litR key s22 fr (fr + v3) s30 ra rm rf rs wx (by omega) (by omega) (by omega) hz_rs).mono fun _ _ ⟨k, d, f, t, A, n, c, l, he, hsl, hok, hn, hn0, hg⟩ => ⟨(k, d, f, t, A, n, c, l), he, ⟨hok, hn, hn0⟩, hg, hsl⟩) (fun _ => SlT.lasts2 rfl) ?_
      rintro ⟨k1, d1, f1, t1, A1, n1, c1, l1⟩ hb1
      dsimp only at hb1 ⊢
      refine wl_nil ?_
      refine nw 18 36863 (fun _ hm => ⟨hm.bl 3, hm.bl 4, hm.bl 5, trivial⟩) fun z => ?_
      refine wt 12 18 40959 rfl z (ov_move rfl) ?_
      refine wt 13 18 49151 rfl z (ov_extract rfl rfl) ?_
      refine wt 14 18 65535 rfl z (ov_extract rfl rfl) ?_
      refine wa1 16 rfl ?_
      refine wl_stores (cs' := [.string k1, .string d1, .int .i64 f1, .int .i64 t1, .slice A1 n1 c1]) 0 rz45 rfl rfl rfl rfl rfl rfl rfl rfl ?_
      refine wl_nil ?_
      refine nw 18 131071 (fun _ hm => ⟨hm.bl 3, hm.bl 4, hm.bl 5, trivial⟩) fun z => ?_
      refine wt 17 18 262143 rfl z (ov_assign rfl) ?_
      refine wa_done (by kernel_rfl) ?_
      exact nx_meet (k1, d1, f1, t1, A1, n1, c1, l1, hireE ⟨key, s22, fr, fr + v3, [startLeg s30 ⟨ra, rs, rm, rf⟩]⟩, g29) hb1 ⟨rfl, rfl, rfl, rfl, rfl, rfl, rfl, trivial⟩ (fun _ hm => hm.pick [3, 4, 5, 0] [] [0] rfl rfl)
     refine wl_alloc zc45 rfl fun g32 => ?_
     refine wl_nil ?_
     refine nw 18 33655 (fun _ hm => ⟨hm.bl 3, hm.bl 4, hm.bl 5, trivial⟩) fun z => ?_
     refine wa1 3 rfl ?_
     refine wl_got (γ := ByteArray) (val := fun v => .string v) (φ := fun v => v ∈ ([⟨#[97, 110, 110]⟩, ⟨#[97, 110, 110]⟩, ⟨#[98, 111, 98]⟩, ⟨#[99, 105, 100]⟩] : List ByteArray)) rfl cb57 rfl rfl rfl rfl (fun wx hm => (some_any [⟨#[97, 110, 110]⟩, ⟨#[97, 110, 110]⟩, ⟨#[98, 111, 98]⟩, ⟨#[99, 105, 100]⟩] _ _ _ wx B sb _ hm.k (by omega) (by simp) (by simp) (hm.blkI 2 rfl) (hm.neRow 2 rfl rfl))) fun s33 hs33 => ?_
     have zs33 : s33.size ≤ 100 := mem_sz hs33 (by decide)
     refine wl_nil ?_
     refine nw 18 33663 (fun _ hm => ⟨hm.bl 3, hm.bl 4, hm.bl 5, trivial⟩) fun z => ?_
     refine wa1 7 rfl ?_
     refine wl_got (γ := ByteArray) (val := fun v => .string v) (φ := fun v => v ∈ ([⟨#[118, 49]⟩, ⟨#[118, 49]⟩, ⟨#[118, 50]⟩, ⟨#[118, 51]⟩] : List ByteArray)) rfl cb57 rfl rfl rfl rfl (fun wx hm => (some_any [⟨#[118, 49]⟩, ⟨#[118, 49]⟩, ⟨#[118, 50]⟩, ⟨#[118, 51]⟩] _ _ _ wx B sb _ hm.k (by omega) (by simp) (by simp) (hm.blkI 1 rfl) (hm.neRow 1 rfl rfl))) fun s34 hs34 => ?_
     have zs34 : s34.size ≤ 100 := mem_sz hs34 (by decide)
     refine wl_nil ?_
     refine nw 18 33791 (fun _ hm => ⟨hm.bl 3, hm.bl 4, hm.bl 5, trivial⟩) fun z => ?_
     refine wa1 10 rfl ?_
     refine wl_calls (γ := Int × ByteArray × Int × Int) (val := (fun g => .agg #[.int .i64 g.1, .string g.2.1, .int .i64 g.2.2.1, .int .i64 g.2.2.2])) (φ := (fun g => RdOk ⟨g.1, g.2.1, g.2.2.1, g.2.2.2⟩)) (Y := (fun g => fun _ => True)) (m' := m + 200 * i + 1 + 1 + 1 + 10) rfl cb79 rfl rfl rfl rfl (fun wx hm => (greading_any fr wx B sb _ hm.k (by omega) (by omega) (by omega)).mono fun _ _ ⟨r, hok, he, hS, hg⟩ => ⟨(r.at_, r.st, r.meter, r.fuel), he, hok, hS, hg, trivial⟩) (fun _ => Lasts2.true_) ?_
     rintro ⟨ra, rs, rm, rf⟩ hr_ra
     dsimp only at hr_ra ⊢
     have hz_rs : rs.size ≤ 1000000 := hr_ra
     refine wl_nil ?_
     refine nw 18 34815 (fun _ hm => ⟨hm.bl 3, hm.bl 4, hm.bl 5, trivial⟩) fun z => ?_
     refine wa1 11 rfl ?_
     refine wl_callx (γ := ByteArray × ByteArray × Int × Int × Option Addr × Nat × Nat × List Lg) (val := (fun g => .tuple #[.agg #[.string g.1, .string g.2.1, .int .i64 g.2.2.1, .int .i64 g.2.2.2.1, .slice g.2.2.2.2.1 g.2.2.2.2.2.1 g.2.2.2.2.2.2.1], .int .i64 (hireE ⟨key, s33, fr, fr + v3, [startLeg s34 ⟨ra, rs, rm, rf⟩]⟩)])) (φ := (fun g => HrOk g.1 g.2.1 g.2.2.2.2.2.2.2 ∧ g.2.2.2.2.2.1 ≤ 1 ∧ (hireE ⟨key, s33, fr, fr + v3, [startLeg s34 ⟨ra, rs, rm, rf⟩]⟩ = 0 → g.2.2.2.2.2.1 = 1 ∧ hireE ⟨g.1, g.2.1, g.2.2.1, g.2.2.2.1, g.2.2.2.2.2.2.2⟩ = 0))) (Y := (fun g => fun wy => SlT lgEnc 9 128 wy g.2.2.2.2.1 g.2.2.2.2.2.1 g.2.2.2.2.2.2.2)) rfl cb169 rfl rfl (fun wx hm => (startOf_litR key s33 fr (fr + v3) s34 ra rm rf rs wx (by omega) (by omega) (by omega) hz_rs).mono fun _ _ ⟨k, d, f, t, A, n, c, l, he, hsl, hok, hn, hn0, hg⟩ => ⟨(k, d, f, t, A, n, c, l), he, ⟨hok, hn, hn0⟩, hg, hsl⟩) (fun _ => SlT.lasts2 rfl) ?_
     rintro ⟨k1, d1, f1, t1, A1, n1, c1, l1⟩ hb1
     dsimp only at hb1 ⊢
     refine wl_nil ?_
     refine nw 18 36863 (fun _ hm => ⟨hm.bl 3, hm.bl 4, hm.bl 5, trivial⟩) fun z => ?_
     refine wt 12 18 40959 rfl z (ov_move rfl) ?_
     refine wt 13 18 49151 rfl z (ov_extract rfl rfl) ?_
     refine wt 14 18 65535 rfl z (ov_extract rfl rfl) ?_
     refine wa1 16 rfl ?_
     refine wl_stores (cs' := [.string k1, .string d1, .int .i64 f1, .int .i64 t1, .slice A1 n1 c1]) 0 rz45 rfl rfl rfl rfl rfl rfl rfl rfl ?_
     refine wl_nil ?_
     refine nw 18 131071 (fun _ hm => ⟨hm.bl 3, hm.bl 4, hm.bl 5, trivial⟩) fun z => ?_
     refine wt 17 18 262143 rfl z (ov_assign rfl) ?_
     refine wa_done (by kernel_rfl) ?_
     exact nx_meet (k1, d1, f1, t1, A1, n1, c1, l1, hireE ⟨key, s33, fr, fr + v3, [startLeg s34 ⟨ra, rs, rm, rf⟩]⟩, g32) hb1 ⟨rfl, rfl, rfl, rfl, rfl, rfl, rfl, trivial⟩ (fun _ hm => hm.pick [3, 4, 5, 0] [] [0] rfl rfl)
    refine wl_alloc zc45 rfl fun g36 => ?_
    refine wl_nil ?_
    refine nw 18 33591 (fun _ hm => ⟨hm.bl 2, hm.bl 3, hm.bl 4, trivial⟩) fun z => ?_
    refine wa_all [3, 6] (by kernel_rfl) rfl ⟨⟨_, rfl, ?_⟩, ⟨_, rfl, ?_⟩, trivial⟩
    ·refine wl_got (γ := ByteArray) (val := fun v => .string v) (φ := fun v => v ∈ ([⟨#[97, 110, 110]⟩, ⟨#[97, 110, 110]⟩, ⟨#[98, 111, 98]⟩, ⟨#[99, 105, 100]⟩] : List ByteArray)) rfl cb57 rfl rfl rfl rfl (fun wx hm => (some_any [⟨#[97, 110, 110]⟩, ⟨#[97, 110, 110]⟩, ⟨#[98, 111, 98]⟩, ⟨#[99, 105, 100]⟩] _ _ _ wx B sb _ hm.k (by omega) (by simp) (by simp) (hm.blkI 1 rfl) (hm.neRow 1 rfl rfl))) fun s37 hs37 => ?_
     have zs37 : s37.size ≤ 100 := mem_sz hs37 (by decide)
     refine wl_nil ?_
     refine nw 18 33599 (fun _ hm => ⟨hm.bl 2, hm.bl 3, hm.bl 4, trivial⟩) fun z => ?_
     refine wa1 6 rfl ?_
     refine wl_buildSlice (e := 9) (cs := [.string ⟨#[118, 49]⟩, .string ⟨#[118, 49]⟩, .string ⟨#[118, 50]⟩, .string ⟨#[118, 51]⟩]) rfl (by kernel_rfl) rfl fun g38 => ?_
     refine wl_nil ?_
     refine nw 18 33663 (fun _ hm => ⟨hm.bl 3, hm.bl 4, hm.bl 5, trivial⟩) fun z => ?_
     refine wa1 7 rfl ?_
     refine wl_got (γ := ByteArray) (val := fun v => .string v) (φ := fun v => v ∈ ([⟨#[118, 49]⟩, ⟨#[118, 49]⟩, ⟨#[118, 50]⟩, ⟨#[118, 51]⟩] : List ByteArray)) rfl cb57 rfl rfl rfl rfl (fun wx hm => (some_any [⟨#[118, 49]⟩, ⟨#[118, 49]⟩, ⟨#[118, 50]⟩, ⟨#[118, 51]⟩] _ _ _ wx B sb _ hm.k (by omega) (by simp) (by simp) (hm.blkI 0 rfl) (hm.neRow 0 rfl rfl))) fun s39 hs39 => ?_
     have zs39 : s39.size ≤ 100 := mem_sz hs39 (by decide)
     refine wl_nil ?_
     refine nw 18 33791 (fun _ hm => ⟨hm.bl 3, hm.bl 4, hm.bl 5, trivial⟩) fun z => ?_
     refine wa1 10 rfl ?_
     refine wl_calls (γ := Int × ByteArray × Int × Int) (val := (fun g => .agg #[.int .i64 g.1, .string g.2.1, .int .i64 g.2.2.1, .int .i64 g.2.2.2])) (φ := (fun g => RdOk ⟨g.1, g.2.1, g.2.2.1, g.2.2.2⟩)) (Y := (fun g => fun _ => True)) (m' := m + 200 * i + 1 + 1 + 1 + 10) rfl cb79 rfl rfl rfl rfl (fun wx hm => (greading_any fr wx B sb _ hm.k (by omega) (by omega) (by omega)).mono fun _ _ ⟨r, hok, he, hS, hg⟩ => ⟨(r.at_, r.st, r.meter, r.fuel), he, hok, hS, hg, trivial⟩) (fun _ => Lasts2.true_) ?_
     rintro ⟨ra, rs, rm, rf⟩ hr_ra
     dsimp only at hr_ra ⊢
     have hz_rs : rs.size ≤ 1000000 := hr_ra
     refine wl_nil ?_
     refine nw 18 34815 (fun _ hm => ⟨hm.bl 3, hm.bl 4, hm.bl 5, trivial⟩) fun z => ?_
     refine wa1 11 rfl ?_
     refine wl_callx (γ := ByteArray × ByteArray × Int × Int × Option Addr × Nat × Nat × List Lg) (val := (fun g => .tuple #[.agg #[.string g.1, .string g.2.1, .int .i64 g.2.2.1, .int .i64 g.2.2.2.1, .slice g.2.2.2.2.1 g.2.2.2.2.2.1 g.2.2.2.2.2.2.1], .int .i64 (hireE ⟨key, s37, fr, fr + v3, [startLeg s39 ⟨ra, rs, rm, rf⟩]⟩)])) (φ := (fun g => HrOk g.1 g.2.1 g.2.2.2.2.2.2.2 ∧ g.2.2.2.2.2.1 ≤ 1 ∧ (hireE ⟨key, s37, fr, fr + v3, [startLeg s39 ⟨ra, rs, rm, rf⟩]⟩ = 0 → g.2.2.2.2.2.1 = 1 ∧ hireE ⟨g.1, g.2.1, g.2.2.1, g.2.2.2.1, g.2.2.2.2.2.2.2⟩ = 0))) (Y := (fun g => fun wy => SlT lgEnc 9 128 wy g.2.2.2.2.1 g.2.2.2.2.2.1 g.2.2.2.2.2.2.2)) rfl cb169 rfl rfl (fun wx hm => (startOf_litR key s37 fr (fr + v3) s39 ra rm rf rs wx (by omega) (by omega) (by omega) hz_rs).mono fun _ _ ⟨k, d, f, t, A, n, c, l, he, hsl, hok, hn, hn0, hg⟩ => ⟨(k, d, f, t, A, n, c, l), he, ⟨hok, hn, hn0⟩, hg, hsl⟩) (fun _ => SlT.lasts2 rfl) ?_
     rintro ⟨k1, d1, f1, t1, A1, n1, c1, l1⟩ hb1
     dsimp only at hb1 ⊢
     refine wl_nil ?_
     refine nw 18 36863 (fun _ hm => ⟨hm.bl 3, hm.bl 4, hm.bl 5, trivial⟩) fun z => ?_
     refine wt 12 18 40959 rfl z (ov_move rfl) ?_
     refine wt 13 18 49151 rfl z (ov_extract rfl rfl) ?_
     refine wt 14 18 65535 rfl z (ov_extract rfl rfl) ?_
     refine wa1 16 rfl ?_
     refine wl_stores (cs' := [.string k1, .string d1, .int .i64 f1, .int .i64 t1, .slice A1 n1 c1]) 1 rz45 rfl rfl rfl rfl rfl rfl rfl rfl ?_
     refine wl_nil ?_
     refine nw 18 131071 (fun _ hm => ⟨hm.bl 3, hm.bl 4, hm.bl 5, trivial⟩) fun z => ?_
     refine wt 17 18 262143 rfl z (ov_assign rfl) ?_
     refine wa_done (by kernel_rfl) ?_
     exact nx_meet (k1, d1, f1, t1, A1, n1, c1, l1, hireE ⟨key, s37, fr, fr + v3, [startLeg s39 ⟨ra, rs, rm, rf⟩]⟩, g36) hb1 ⟨rfl, rfl, rfl, rfl, rfl, rfl, rfl, trivial⟩ (fun _ hm => hm.pick [3, 4, 5, 1] [] [0] rfl rfl)
    refine wl_buildSlice (e := 9) (cs := [.string ⟨#[118, 49]⟩, .string ⟨#[118, 49]⟩, .string ⟨#[118, 50]⟩, .string ⟨#[118, 51]⟩]) rfl (by kernel_rfl) rfl fun g41 => ?_
    refine wl_nil ?_
    refine nw 18 33655 (fun _ hm => ⟨hm.bl 3, hm.bl 4, hm.bl 5, trivial⟩) fun z => ?_
    refine wa1 3 rfl ?_
    refine wl_got (γ := ByteArray) (val := fun v => .string v) (φ := fun v => v ∈ ([⟨#[97, 110, 110]⟩, ⟨#[97, 110, 110]⟩, ⟨#[98, 111, 98]⟩, ⟨#[99, 105, 100]⟩] : List ByteArray)) rfl cb57 rfl rfl rfl rfl (fun wx hm => (some_any [⟨#[97, 110, 110]⟩, ⟨#[97, 110, 110]⟩, ⟨#[98, 111, 98]⟩, ⟨#[99, 105, 100]⟩] _ _ _ wx B sb _ hm.k (by omega) (by simp) (by simp) (hm.blkI 2 rfl) (hm.neRow 2 rfl rfl))) fun s42 hs42 => ?_
    have zs42 : s42.size ≤ 100 := mem_sz hs42 (by decide)
    refine wl_nil ?_
    refine nw 18 33663 (fun _ hm => ⟨hm.bl 3, hm.bl 4, hm.bl 5, trivial⟩) fun z => ?_
    refine wa1 7 rfl ?_
    refine wl_got (γ := ByteArray) (val := fun v => .string v) (φ := fun v => v ∈ ([⟨#[118, 49]⟩, ⟨#[118, 49]⟩, ⟨#[118, 50]⟩, ⟨#[118, 51]⟩] : List ByteArray)) rfl cb57 rfl rfl rfl rfl (fun wx hm => (some_any [⟨#[118, 49]⟩, ⟨#[118, 49]⟩, ⟨#[118, 50]⟩, ⟨#[118, 51]⟩] _ _ _ wx B sb _ hm.k (by omega) (by simp) (by simp) (hm.blkI 0 rfl) (hm.neRow 0 rfl rfl))) fun s43 hs43 => ?_
    have zs43 : s43.size ≤ 100 := mem_sz hs43 (by decide)
    refine wl_nil ?_
    refine nw 18 33791 (fun _ hm => ⟨hm.bl 3, hm.bl 4, hm.bl 5, trivial⟩) fun z => ?_
    refine wa1 10 rfl ?_
    refine wl_calls (γ := Int × ByteArray × Int × Int) (val := (fun g => .agg #[.int .i64 g.1, .string g.2.1, .int .i64 g.2.2.1, .int .i64 g.2.2.2])) (φ := (fun g => RdOk ⟨g.1, g.2.1, g.2.2.1, g.2.2.2⟩)) (Y := (fun g => fun _ => True)) (m' := m + 200 * i + 1 + 1 + 1 + 10) rfl cb79 rfl rfl rfl rfl (fun wx hm => (greading_any fr wx B sb _ hm.k (by omega) (by omega) (by omega)).mono fun _ _ ⟨r, hok, he, hS, hg⟩ => ⟨(r.at_, r.st, r.meter, r.fuel), he, hok, hS, hg, trivial⟩) (fun _ => Lasts2.true_) ?_
    rintro ⟨ra, rs, rm, rf⟩ hr_ra
    dsimp only at hr_ra ⊢
    have hz_rs : rs.size ≤ 1000000 := hr_ra
    refine wl_nil ?_
    refine nw 18 34815 (fun _ hm => ⟨hm.bl 3, hm.bl 4, hm.bl 5, trivial⟩) fun z => ?_
    refine wa1 11 rfl ?_
    refine wl_callx (γ := ByteArray × ByteArray × Int × Int × Option Addr × Nat × Nat × List Lg) (val := (fun g => .tuple #[.agg #[.string g.1, .string g.2.1, .int .i64 g.2.2.1, .int .i64 g.2.2.2.1, .slice g.2.2.2.2.1 g.2.2.2.2.2.1 g.2.2.2.2.2.2.1], .int .i64 (hireE ⟨key, s42, fr, fr + v3, [startLeg s43 ⟨ra, rs, rm, rf⟩]⟩)])) (φ := (fun g => HrOk g.1 g.2.1 g.2.2.2.2.2.2.2 ∧ g.2.2.2.2.2.1 ≤ 1 ∧ (hireE ⟨key, s42, fr, fr + v3, [startLeg s43 ⟨ra, rs, rm, rf⟩]⟩ = 0 → g.2.2.2.2.2.1 = 1 ∧ hireE ⟨g.1, g.2.1, g.2.2.1, g.2.2.2.1, g.2.2.2.2.2.2.2⟩ = 0))) (Y := (fun g => fun wy => SlT lgEnc 9 128 wy g.2.2.2.2.1 g.2.2.2.2.2.1 g.2.2.2.2.2.2.2)) rfl cb169 rfl rfl (fun wx hm => (startOf_litR key s42 fr (fr + v3) s43 ra rm rf rs wx (by omega) (by omega) (by omega) hz_rs).mono fun _ _ ⟨k, d, f, t, A, n, c, l, he, hsl, hok, hn, hn0, hg⟩ => ⟨(k, d, f, t, A, n, c, l), he, ⟨hok, hn, hn0⟩, hg, hsl⟩) (fun _ => SlT.lasts2 rfl) ?_
    rintro ⟨k1, d1, f1, t1, A1, n1, c1, l1⟩ hb1
    dsimp only at hb1 ⊢
    refine wl_nil ?_
    refine nw 18 36863 (fun _ hm => ⟨hm.bl 3, hm.bl 4, hm.bl 5, trivial⟩) fun z => ?_
    refine wt 12 18 40959 rfl z (ov_move rfl) ?_
    refine wt 13 18 49151 rfl z (ov_extract rfl rfl) ?_
    refine wt 14 18 65535 rfl z (ov_extract rfl rfl) ?_
    refine wa1 16 rfl ?_
    refine wl_stores (cs' := [.string k1, .string d1, .int .i64 f1, .int .i64 t1, .slice A1 n1 c1]) 1 rz45 rfl rfl rfl rfl rfl rfl rfl rfl ?_
    refine wl_nil ?_
    refine nw 18 131071 (fun _ hm => ⟨hm.bl 3, hm.bl 4, hm.bl 5, trivial⟩) fun z => ?_
    refine wt 17 18 262143 rfl z (ov_assign rfl) ?_
    refine wa_done (by kernel_rfl) ?_
    exact nx_meet (k1, d1, f1, t1, A1, n1, c1, l1, hireE ⟨key, s42, fr, fr + v3, [startLeg s43 ⟨ra, rs, rm, rf⟩]⟩, g36) hb1 ⟨rfl, rfl, rfl, rfl, rfl, rfl, rfl, trivial⟩ (fun _ hm => hm.pick [3, 4, 5, 1] [] [0] rfl rfl)
   ·refine wl_buildSlice (e := 9) (cs := [.string ⟨#[118, 49]⟩, .string ⟨#[118, 49]⟩, .string ⟨#[118, 50]⟩, .string ⟨#[118, 51]⟩]) rfl (by kernel_rfl) rfl fun g45 => ?_
    refine wl_nil ?_
    refine nw 18 883 (fun _ hm => ⟨hm.bl 1, hm.bl 2, hm.bl 3, trivial⟩) fun z => ?_
    refine wa_all [2, 15] (by kernel_rfl) rfl ⟨⟨_, rfl, ?_⟩, ⟨_, rfl, ?_⟩, trivial⟩
    ·refine wl_buildSlice (e := 9) (cs := [.string ⟨#[97, 110, 110]⟩, .string ⟨#[97, 110, 110]⟩, .string ⟨#[98, 111, 98]⟩, .string ⟨#[99, 105, 100]⟩]) rfl (by kernel_rfl) rfl fun g46 => ?_
     refine wl_nil ?_
     refine nw 18 887 (fun _ hm => ⟨hm.bl 2, hm.bl 3, hm.bl 4, trivial⟩) fun z => ?_
     refine wa_all [3, 15] (by kernel_rfl) rfl ⟨⟨_, rfl, ?_⟩, ⟨_, rfl, ?_⟩, trivial⟩
     ·refine wl_got (γ := ByteArray) (val := fun v => .string v) (φ := fun v => v ∈ ([⟨#[97, 110, 110]⟩, ⟨#[97, 110, 110]⟩, ⟨#[98, 111, 98]⟩, ⟨#[99, 105, 100]⟩] : List ByteArray)) rfl cb57 rfl rfl rfl rfl (fun wx hm => (some_any [⟨#[97, 110, 110]⟩, ⟨#[97, 110, 110]⟩, ⟨#[98, 111, 98]⟩, ⟨#[99, 105, 100]⟩] _ _ _ wx B sb _ hm.k (by omega) (by simp) (by simp) (hm.blkI 0 rfl) (hm.neRow 0 rfl rfl))) fun s47 hs47 => ?_
      have zs47 : s47.size ≤ 100 := mem_sz hs47 (by decide)
      refine wl_nil ?_
      refine nw 18 895 (fun _ hm => ⟨hm.bl 2, hm.bl 3, hm.bl 4, trivial⟩) fun z => ?_
      refine wa_all [7, 15] (by kernel_rfl) rfl ⟨⟨_, rfl, ?_⟩, ⟨_, rfl, ?_⟩, trivial⟩
      ·refine wl_got (γ := ByteArray) (val := fun v => .string v) (φ := fun v => v ∈ ([⟨#[118, 49]⟩, ⟨#[118, 49]⟩, ⟨#[118, 50]⟩, ⟨#[118, 51]⟩] : List ByteArray)) rfl cb57 rfl rfl rfl rfl (fun wx hm => (some_any [⟨#[118, 49]⟩, ⟨#[118, 49]⟩, ⟨#[118, 50]⟩, ⟨#[118, 51]⟩] _ _ _ wx B sb _ hm.k (by omega) (by simp) (by simp) (hm.blkI 1 rfl) (hm.neRow 1 rfl rfl))) fun s48 hs48 => ?_
       have zs48 : s48.size ≤ 100 := mem_sz hs48 (by decide)
       refine wl_nil ?_
       refine nw 18 1023 (fun _ hm => ⟨hm.bl 2, hm.bl 3, hm.bl 4, trivial⟩) fun z => ?_
       refine wa_all [10, 15] (by kernel_rfl) rfl ⟨⟨_, rfl, ?_⟩, ⟨_, rfl, ?_⟩, trivial⟩
       ·refine wl_calls (γ := Int × ByteArray × Int × Int) (val := (fun g => .agg #[.int .i64 g.1, .string g.2.1, .int .i64 g.2.2.1, .int .i64 g.2.2.2])) (φ := (fun g => RdOk ⟨g.1, g.2.1, g.2.2.1, g.2.2.2⟩)) (Y := (fun g => fun _ => True)) (m' := m + 200 * i + 1 + 1 + 1 + 10) rfl cb79 rfl rfl rfl rfl (fun wx hm => (greading_any fr wx B sb _ hm.k (by omega) (by omega) (by omega)).mono fun _ _ ⟨r, hok, he, hS, hg⟩ => ⟨(r.at_, r.st, r.meter, r.fuel), he, hok, hS, hg, trivial⟩) (fun _ => Lasts2.true_) ?_
        rintro ⟨ra, rs, rm, rf⟩ hr_ra
        dsimp only at hr_ra ⊢
        have hz_rs : rs.size ≤ 1000000 := hr_ra
        refine wl_nil ?_
        refine nw 18 2047 (fun _ hm => ⟨hm.bl 2, hm.bl 3, hm.bl 4, trivial⟩) fun z => ?_
        refine wa_all [11, 15] (by kernel_rfl) rfl ⟨⟨_, rfl, ?_⟩, ⟨_, rfl, ?_⟩, trivial⟩
        ·refine wl_callx (γ := ByteArray × ByteArray × Int × Int × Option Addr × Nat × Nat × List Lg) (val := (fun g => .tuple #[.agg #[.string g.1, .string g.2.1, .int .i64 g.2.2.1, .int .i64 g.2.2.2.1, .slice g.2.2.2.2.1 g.2.2.2.2.2.1 g.2.2.2.2.2.2.1], .int .i64 (hireE ⟨key, s47, fr, fr + v3, [startLeg s48 ⟨ra, rs, rm, rf⟩]⟩)])) (φ := (fun g => HrOk g.1 g.2.1 g.2.2.2.2.2.2.2 ∧ g.2.2.2.2.2.1 ≤ 1 ∧ (hireE ⟨key, s47, fr, fr + v3, [startLeg s48 ⟨ra, rs, rm, rf⟩]⟩ = 0 → g.2.2.2.2.2.1 = 1 ∧ hireE ⟨g.1, g.2.1, g.2.2.1, g.2.2.2.1, g.2.2.2.2.2.2.2⟩ = 0))) (Y := (fun g => fun wy => SlT lgEnc 9 128 wy g.2.2.2.2.1 g.2.2.2.2.2.1 g.2.2.2.2.2.2.2)) rfl cb169 rfl rfl (fun wx hm => (startOf_litR key s47 fr (fr + v3) s48 ra rm rf rs wx (by omega) (by omega) (by omega) hz_rs).mono fun _ _ ⟨k, d, f, t, A, n, c, l, he, hsl, hok, hn, hn0, hg⟩ => ⟨(k, d, f, t, A, n, c, l), he, ⟨hok, hn, hn0⟩, hg, hsl⟩) (fun _ => SlT.lasts2 rfl) ?_
         rintro ⟨k1, d1, f1, t1, A1, n1, c1, l1⟩ hb1
         dsimp only at hb1 ⊢
         refine wl_nil ?_
         refine nw 18 4095 (fun _ hm => ⟨hm.bl 2, hm.bl 3, hm.bl 4, trivial⟩) fun z => ?_
         refine wt 12 18 8191 rfl z (ov_move rfl) ?_
         refine wt 13 18 16383 rfl z (ov_extract rfl rfl) ?_
         refine wt 14 18 32767 rfl z (ov_extract rfl rfl) ?_
         refine wa1 15 rfl ?_
         refine wl_alloc zc45 rfl fun g50 => ?_
         refine wl_nil ?_
         refine nw 18 65535 (fun _ hm => ⟨hm.bl 3, hm.bl 4, hm.bl 5, trivial⟩) fun z => ?_
         refine wa1 16 rfl ?_
         refine wl_stores (cs' := [.string k1, .string d1, .int .i64 f1, .int .i64 t1, .slice A1 n1 c1]) 0 rz45 rfl rfl rfl rfl rfl rfl rfl rfl ?_
         refine wl_nil ?_
         refine nw 18 131071 (fun _ hm => ⟨hm.bl 3, hm.bl 4, hm.bl 5, trivial⟩) fun z => ?_
         refine wt 17 18 262143 rfl z (ov_assign rfl) ?_
         refine wa_done (by kernel_rfl) ?_
         exact nx_meet (k1, d1, f1, t1, A1, n1, c1, l1, hireE ⟨key, s47, fr, fr + v3, [startLeg s48 ⟨ra, rs, rm, rf⟩]⟩, g50) hb1 ⟨rfl, rfl, rfl, rfl, rfl, rfl, rfl, trivial⟩ (fun _ hm => hm.pick [3, 4, 5, 0] [] [0] rfl rfl)
        refine wl_alloc zc45 rfl fun g51 => ?_
        refine wl_nil ?_
        refine nw 18 34815 (fun _ hm => ⟨hm.bl 3, hm.bl 4, hm.bl 5, trivial⟩) fun z => ?_
        refine wa1 11 rfl ?_
        refine wl_callx (γ := ByteArray × ByteArray × Int × Int × Option Addr × Nat × Nat × List Lg) (val := (fun g => .tuple #[.agg #[.string g.1, .string g.2.1, .int .i64 g.2.2.1, .int .i64 g.2.2.2.1, .slice g.2.2.2.2.1 g.2.2.2.2.2.1 g.2.2.2.2.2.2.1], .int .i64 (hireE ⟨key, s47, fr, fr + v3, [startLeg s48 ⟨ra, rs, rm, rf⟩]⟩)])) (φ := (fun g => HrOk g.1 g.2.1 g.2.2.2.2.2.2.2 ∧ g.2.2.2.2.2.1 ≤ 1 ∧ (hireE ⟨key, s47, fr, fr + v3, [startLeg s48 ⟨ra, rs, rm, rf⟩]⟩ = 0 → g.2.2.2.2.2.1 = 1 ∧ hireE ⟨g.1, g.2.1, g.2.2.1, g.2.2.2.1, g.2.2.2.2.2.2.2⟩ = 0))) (Y := (fun g => fun wy => SlT lgEnc 9 128 wy g.2.2.2.2.1 g.2.2.2.2.2.1 g.2.2.2.2.2.2.2)) rfl cb169 rfl rfl (fun wx hm => (startOf_litR key s47 fr (fr + v3) s48 ra rm rf rs wx (by omega) (by omega) (by omega) hz_rs).mono fun _ _ ⟨k, d, f, t, A, n, c, l, he, hsl, hok, hn, hn0, hg⟩ => ⟨(k, d, f, t, A, n, c, l), he, ⟨hok, hn, hn0⟩, hg, hsl⟩) (fun _ => SlT.lasts2 rfl) ?_
        rintro ⟨k1, d1, f1, t1, A1, n1, c1, l1⟩ hb1
        dsimp only at hb1 ⊢
        refine wl_nil ?_
        refine nw 18 36863 (fun _ hm => ⟨hm.bl 3, hm.bl 4, hm.bl 5, trivial⟩) fun z => ?_
        refine wt 12 18 40959 rfl z (ov_move rfl) ?_
        refine wt 13 18 49151 rfl z (ov_extract rfl rfl) ?_
        refine wt 14 18 65535 rfl z (ov_extract rfl rfl) ?_
        refine wa1 16 rfl ?_
        refine wl_stores (cs' := [.string k1, .string d1, .int .i64 f1, .int .i64 t1, .slice A1 n1 c1]) 0 rz45 rfl rfl rfl rfl rfl rfl rfl rfl ?_
        refine wl_nil ?_
        refine nw 18 131071 (fun _ hm => ⟨hm.bl 3, hm.bl 4, hm.bl 5, trivial⟩) fun z => ?_
        refine wt 17 18 262143 rfl z (ov_assign rfl) ?_
        refine wa_done (by kernel_rfl) ?_
        exact nx_meet (k1, d1, f1, t1, A1, n1, c1, l1, hireE ⟨key, s47, fr, fr + v3, [startLeg s48 ⟨ra, rs, rm, rf⟩]⟩, g51) hb1 ⟨rfl, rfl, rfl, rfl, rfl, rfl, rfl, trivial⟩ (fun _ hm => hm.pick [3, 4, 5, 0] [] [0] rfl rfl)
       refine wl_alloc zc45 rfl fun g52 => ?_
       refine wl_nil ?_
       refine nw 18 33791 (fun _ hm => ⟨hm.bl 3, hm.bl 4, hm.bl 5, trivial⟩) fun z => ?_
       refine wa1 10 rfl ?_
       refine wl_calls (γ := Int × ByteArray × Int × Int) (val := (fun g => .agg #[.int .i64 g.1, .string g.2.1, .int .i64 g.2.2.1, .int .i64 g.2.2.2])) (φ := (fun g => RdOk ⟨g.1, g.2.1, g.2.2.1, g.2.2.2⟩)) (Y := (fun g => fun _ => True)) (m' := m + 200 * i + 1 + 1 + 1 + 10) rfl cb79 rfl rfl rfl rfl (fun wx hm => (greading_any fr wx B sb _ hm.k (by omega) (by omega) (by omega)).mono fun _ _ ⟨r, hok, he, hS, hg⟩ => ⟨(r.at_, r.st, r.meter, r.fuel), he, hok, hS, hg, trivial⟩) (fun _ => Lasts2.true_) ?_
       rintro ⟨ra, rs, rm, rf⟩ hr_ra
       dsimp only at hr_ra ⊢
       have hz_rs : rs.size ≤ 1000000 := hr_ra
       refine wl_nil ?_
       refine nw 18 34815 (fun _ hm => ⟨hm.bl 3, hm.bl 4, hm.bl 5, trivial⟩) fun z => ?_
       refine wa1 11 rfl ?_
       refine wl_callx (γ := ByteArray × ByteArray × Int × Int × Option Addr × Nat × Nat × List Lg) (val := (fun g => .tuple #[.agg #[.string g.1, .string g.2.1, .int .i64 g.2.2.1, .int .i64 g.2.2.2.1, .slice g.2.2.2.2.1 g.2.2.2.2.2.1 g.2.2.2.2.2.2.1], .int .i64 (hireE ⟨key, s47, fr, fr + v3, [startLeg s48 ⟨ra, rs, rm, rf⟩]⟩)])) (φ := (fun g => HrOk g.1 g.2.1 g.2.2.2.2.2.2.2 ∧ g.2.2.2.2.2.1 ≤ 1 ∧ (hireE ⟨key, s47, fr, fr + v3, [startLeg s48 ⟨ra, rs, rm, rf⟩]⟩ = 0 → g.2.2.2.2.2.1 = 1 ∧ hireE ⟨g.1, g.2.1, g.2.2.1, g.2.2.2.1, g.2.2.2.2.2.2.2⟩ = 0))) (Y := (fun g => fun wy => SlT lgEnc 9 128 wy g.2.2.2.2.1 g.2.2.2.2.2.1 g.2.2.2.2.2.2.2)) rfl cb169 rfl rfl (fun wx hm => (startOf_litR key s47 fr (fr + v3) s48 ra rm rf rs wx (by omega) (by omega) (by omega) hz_rs).mono fun _ _ ⟨k, d, f, t, A, n, c, l, he, hsl, hok, hn, hn0, hg⟩ => ⟨(k, d, f, t, A, n, c, l), he, ⟨hok, hn, hn0⟩, hg, hsl⟩) (fun _ => SlT.lasts2 rfl) ?_
       rintro ⟨k1, d1, f1, t1, A1, n1, c1, l1⟩ hb1
       dsimp only at hb1 ⊢
       refine wl_nil ?_
       refine nw 18 36863 (fun _ hm => ⟨hm.bl 3, hm.bl 4, hm.bl 5, trivial⟩) fun z => ?_
       refine wt 12 18 40959 rfl z (ov_move rfl) ?_
       refine wt 13 18 49151 rfl z (ov_extract rfl rfl) ?_
       refine wt 14 18 65535 rfl z (ov_extract rfl rfl) ?_
       refine wa1 16 rfl ?_
       refine wl_stores (cs' := [.string k1, .string d1, .int .i64 f1, .int .i64 t1, .slice A1 n1 c1]) 0 rz45 rfl rfl rfl rfl rfl rfl rfl rfl ?_
       refine wl_nil ?_
       refine nw 18 131071 (fun _ hm => ⟨hm.bl 3, hm.bl 4, hm.bl 5, trivial⟩) fun z => ?_
       refine wt 17 18 262143 rfl z (ov_assign rfl) ?_
       refine wa_done (by kernel_rfl) ?_
       exact nx_meet (k1, d1, f1, t1, A1, n1, c1, l1, hireE ⟨key, s47, fr, fr + v3, [startLeg s48 ⟨ra, rs, rm, rf⟩]⟩, g52) hb1 ⟨rfl, rfl, rfl, rfl, rfl, rfl, rfl, trivial⟩ (fun _ hm => hm.pick [3, 4, 5, 0] [] [0] rfl rfl)
      refine wl_alloc zc45 rfl fun g54 => ?_
      refine wl_nil ?_
      refine nw 18 33663 (fun _ hm => ⟨hm.bl 3, hm.bl 4, hm.bl 5, trivial⟩) fun z => ?_
      refine wa1 7 rfl ?_
      refine wl_got (γ := ByteArray) (val := fun v => .string v) (φ := fun v => v ∈ ([⟨#[118, 49]⟩, ⟨#[118, 49]⟩, ⟨#[118, 50]⟩, ⟨#[118, 51]⟩] : List ByteArray)) rfl cb57 rfl rfl rfl rfl (fun wx hm => (some_any [⟨#[118, 49]⟩, ⟨#[118, 49]⟩, ⟨#[118, 50]⟩, ⟨#[118, 51]⟩] _ _ _ wx B sb _ hm.k (by omega) (by simp) (by simp) (hm.blkI 2 rfl) (hm.neRow 2 rfl rfl))) fun s55 hs55 => ?_
      have zs55 : s55.size ≤ 100 := mem_sz hs55 (by decide)
      refine wl_nil ?_
      refine nw 18 33791 (fun _ hm => ⟨hm.bl 3, hm.bl 4, hm.bl 5, trivial⟩) fun z => ?_
      refine wa1 10 rfl ?_
      refine wl_calls (γ := Int × ByteArray × Int × Int) (val := (fun g => .agg #[.int .i64 g.1, .string g.2.1, .int .i64 g.2.2.1, .int .i64 g.2.2.2])) (φ := (fun g => RdOk ⟨g.1, g.2.1, g.2.2.1, g.2.2.2⟩)) (Y := (fun g => fun _ => True)) (m' := m + 200 * i + 1 + 1 + 1 + 10) rfl cb79 rfl rfl rfl rfl (fun wx hm => (greading_any fr wx B sb _ hm.k (by omega) (by omega) (by omega)).mono fun _ _ ⟨r, hok, he, hS, hg⟩ => ⟨(r.at_, r.st, r.meter, r.fuel), he, hok, hS, hg, trivial⟩) (fun _ => Lasts2.true_) ?_
      rintro ⟨ra, rs, rm, rf⟩ hr_ra
      dsimp only at hr_ra ⊢
      have hz_rs : rs.size ≤ 1000000 := hr_ra
      refine wl_nil ?_
      refine nw 18 34815 (fun _ hm => ⟨hm.bl 3, hm.bl 4, hm.bl 5, trivial⟩) fun z => ?_
      refine wa1 11 rfl ?_
      refine wl_callx (γ := ByteArray × ByteArray × Int × Int × Option Addr × Nat × Nat × List Lg) (val := (fun g => .tuple #[.agg #[.string g.1, .string g.2.1, .int .i64 g.2.2.1, .int .i64 g.2.2.2.1, .slice g.2.2.2.2.1 g.2.2.2.2.2.1 g.2.2.2.2.2.2.1], .int .i64 (hireE ⟨key, s47, fr, fr + v3, [startLeg s55 ⟨ra, rs, rm, rf⟩]⟩)])) (φ := (fun g => HrOk g.1 g.2.1 g.2.2.2.2.2.2.2 ∧ g.2.2.2.2.2.1 ≤ 1 ∧ (hireE ⟨key, s47, fr, fr + v3, [startLeg s55 ⟨ra, rs, rm, rf⟩]⟩ = 0 → g.2.2.2.2.2.1 = 1 ∧ hireE ⟨g.1, g.2.1, g.2.2.1, g.2.2.2.1, g.2.2.2.2.2.2.2⟩ = 0))) (Y := (fun g => fun wy => SlT lgEnc 9 128 wy g.2.2.2.2.1 g.2.2.2.2.2.1 g.2.2.2.2.2.2.2)) rfl cb169 rfl rfl (fun wx hm => (startOf_litR key s47 fr (fr + v3) s55 ra rm rf rs wx (by omega) (by omega) (by omega) hz_rs).mono fun _ _ ⟨k, d, f, t, A, n, c, l, he, hsl, hok, hn, hn0, hg⟩ => ⟨(k, d, f, t, A, n, c, l), he, ⟨hok, hn, hn0⟩, hg, hsl⟩) (fun _ => SlT.lasts2 rfl) ?_
      rintro ⟨k1, d1, f1, t1, A1, n1, c1, l1⟩ hb1
      dsimp only at hb1 ⊢
      refine wl_nil ?_
      refine nw 18 36863 (fun _ hm => ⟨hm.bl 3, hm.bl 4, hm.bl 5, trivial⟩) fun z => ?_
      refine wt 12 18 40959 rfl z (ov_move rfl) ?_
      refine wt 13 18 49151 rfl z (ov_extract rfl rfl) ?_
      refine wt 14 18 65535 rfl z (ov_extract rfl rfl) ?_
      refine wa1 16 rfl ?_
      refine wl_stores (cs' := [.string k1, .string d1, .int .i64 f1, .int .i64 t1, .slice A1 n1 c1]) 0 rz45 rfl rfl rfl rfl rfl rfl rfl rfl ?_
      refine wl_nil ?_
      refine nw 18 131071 (fun _ hm => ⟨hm.bl 3, hm.bl 4, hm.bl 5, trivial⟩) fun z => ?_
      refine wt 17 18 262143 rfl z (ov_assign rfl) ?_
      refine wa_done (by kernel_rfl) ?_
      exact nx_meet (k1, d1, f1, t1, A1, n1, c1, l1, hireE ⟨key, s47, fr, fr + v3, [startLeg s55 ⟨ra, rs, rm, rf⟩]⟩, g54) hb1 ⟨rfl, rfl, rfl, rfl, rfl, rfl, rfl, trivial⟩ (fun _ hm => hm.pick [3, 4, 5, 0] [] [0] rfl rfl)
     refine wl_alloc zc45 rfl fun g57 => ?_
     refine wl_nil ?_
     refine nw 18 33655 (fun _ hm => ⟨hm.bl 3, hm.bl 4, hm.bl 5, trivial⟩) fun z => ?_
     refine wa1 3 rfl ?_
     refine wl_got (γ := ByteArray) (val := fun v => .string v) (φ := fun v => v ∈ ([⟨#[97, 110, 110]⟩, ⟨#[97, 110, 110]⟩, ⟨#[98, 111, 98]⟩, ⟨#[99, 105, 100]⟩] : List ByteArray)) rfl cb57 rfl rfl rfl rfl (fun wx hm => (some_any [⟨#[97, 110, 110]⟩, ⟨#[97, 110, 110]⟩, ⟨#[98, 111, 98]⟩, ⟨#[99, 105, 100]⟩] _ _ _ wx B sb _ hm.k (by omega) (by simp) (by simp) (hm.blkI 1 rfl) (hm.neRow 1 rfl rfl))) fun s58 hs58 => ?_
     have zs58 : s58.size ≤ 100 := mem_sz hs58 (by decide)
     refine wl_nil ?_
     refine nw 18 33663 (fun _ hm => ⟨hm.bl 3, hm.bl 4, hm.bl 5, trivial⟩) fun z => ?_
     refine wa1 7 rfl ?_
     refine wl_got (γ := ByteArray) (val := fun v => .string v) (φ := fun v => v ∈ ([⟨#[118, 49]⟩, ⟨#[118, 49]⟩, ⟨#[118, 50]⟩, ⟨#[118, 51]⟩] : List ByteArray)) rfl cb57 rfl rfl rfl rfl (fun wx hm => (some_any [⟨#[118, 49]⟩, ⟨#[118, 49]⟩, ⟨#[118, 50]⟩, ⟨#[118, 51]⟩] _ _ _ wx B sb _ hm.k (by omega) (by simp) (by simp) (hm.blkI 2 rfl) (hm.neRow 2 rfl rfl))) fun s59 hs59 => ?_
     have zs59 : s59.size ≤ 100 := mem_sz hs59 (by decide)
     refine wl_nil ?_
     refine nw 18 33791 (fun _ hm => ⟨hm.bl 3, hm.bl 4, hm.bl 5, trivial⟩) fun z => ?_
     refine wa1 10 rfl ?_
     refine wl_calls (γ := Int × ByteArray × Int × Int) (val := (fun g => .agg #[.int .i64 g.1, .string g.2.1, .int .i64 g.2.2.1, .int .i64 g.2.2.2])) (φ := (fun g => RdOk ⟨g.1, g.2.1, g.2.2.1, g.2.2.2⟩)) (Y := (fun g => fun _ => True)) (m' := m + 200 * i + 1 + 1 + 1 + 10) rfl cb79 rfl rfl rfl rfl (fun wx hm => (greading_any fr wx B sb _ hm.k (by omega) (by omega) (by omega)).mono fun _ _ ⟨r, hok, he, hS, hg⟩ => ⟨(r.at_, r.st, r.meter, r.fuel), he, hok, hS, hg, trivial⟩) (fun _ => Lasts2.true_) ?_
     rintro ⟨ra, rs, rm, rf⟩ hr_ra
     dsimp only at hr_ra ⊢
     have hz_rs : rs.size ≤ 1000000 := hr_ra
     refine wl_nil ?_
     refine nw 18 34815 (fun _ hm => ⟨hm.bl 3, hm.bl 4, hm.bl 5, trivial⟩) fun z => ?_
     refine wa1 11 rfl ?_
     refine wl_callx (γ := ByteArray × ByteArray × Int × Int × Option Addr × Nat × Nat × List Lg) (val := (fun g => .tuple #[.agg #[.string g.1, .string g.2.1, .int .i64 g.2.2.1, .int .i64 g.2.2.2.1, .slice g.2.2.2.2.1 g.2.2.2.2.2.1 g.2.2.2.2.2.2.1], .int .i64 (hireE ⟨key, s58, fr, fr + v3, [startLeg s59 ⟨ra, rs, rm, rf⟩]⟩)])) (φ := (fun g => HrOk g.1 g.2.1 g.2.2.2.2.2.2.2 ∧ g.2.2.2.2.2.1 ≤ 1 ∧ (hireE ⟨key, s58, fr, fr + v3, [startLeg s59 ⟨ra, rs, rm, rf⟩]⟩ = 0 → g.2.2.2.2.2.1 = 1 ∧ hireE ⟨g.1, g.2.1, g.2.2.1, g.2.2.2.1, g.2.2.2.2.2.2.2⟩ = 0))) (Y := (fun g => fun wy => SlT lgEnc 9 128 wy g.2.2.2.2.1 g.2.2.2.2.2.1 g.2.2.2.2.2.2.2)) rfl cb169 rfl rfl (fun wx hm => (startOf_litR key s58 fr (fr + v3) s59 ra rm rf rs wx (by omega) (by omega) (by omega) hz_rs).mono fun _ _ ⟨k, d, f, t, A, n, c, l, he, hsl, hok, hn, hn0, hg⟩ => ⟨(k, d, f, t, A, n, c, l), he, ⟨hok, hn, hn0⟩, hg, hsl⟩) (fun _ => SlT.lasts2 rfl) ?_
     rintro ⟨k1, d1, f1, t1, A1, n1, c1, l1⟩ hb1
     dsimp only at hb1 ⊢
     refine wl_nil ?_
     refine nw 18 36863 (fun _ hm => ⟨hm.bl 3, hm.bl 4, hm.bl 5, trivial⟩) fun z => ?_
     refine wt 12 18 40959 rfl z (ov_move rfl) ?_
     refine wt 13 18 49151 rfl z (ov_extract rfl rfl) ?_
     refine wt 14 18 65535 rfl z (ov_extract rfl rfl) ?_
     refine wa1 16 rfl ?_
     refine wl_stores (cs' := [.string k1, .string d1, .int .i64 f1, .int .i64 t1, .slice A1 n1 c1]) 0 rz45 rfl rfl rfl rfl rfl rfl rfl rfl ?_
     refine wl_nil ?_
     refine nw 18 131071 (fun _ hm => ⟨hm.bl 3, hm.bl 4, hm.bl 5, trivial⟩) fun z => ?_
     refine wt 17 18 262143 rfl z (ov_assign rfl) ?_
     refine wa_done (by kernel_rfl) ?_
     exact nx_meet (k1, d1, f1, t1, A1, n1, c1, l1, hireE ⟨key, s58, fr, fr + v3, [startLeg s59 ⟨ra, rs, rm, rf⟩]⟩, g57) hb1 ⟨rfl, rfl, rfl, rfl, rfl, rfl, rfl, trivial⟩ (fun _ hm => hm.pick [3, 4, 5, 0] [] [0] rfl rfl)
    refine wl_alloc zc45 rfl fun g61 => ?_
    refine wl_nil ?_
    refine nw 18 33651 (fun _ hm => ⟨hm.bl 2, hm.bl 3, hm.bl 4, trivial⟩) fun z => ?_
    refine wa1 2 rfl ?_
    refine wl_buildSlice (e := 9) (cs := [.string ⟨#[97, 110, 110]⟩, .string ⟨#[97, 110, 110]⟩, .string ⟨#[98, 111, 98]⟩, .string ⟨#[99, 105, 100]⟩]) rfl (by kernel_rfl) rfl fun g62 => ?_
    refine wl_nil ?_
    refine nw 18 33655 (fun _ hm => ⟨hm.bl 3, hm.bl 4, hm.bl 5, trivial⟩) fun z => ?_
    refine wa1 3 rfl ?_
    refine wl_got (γ := ByteArray) (val := fun v => .string v) (φ := fun v => v ∈ ([⟨#[97, 110, 110]⟩, ⟨#[97, 110, 110]⟩, ⟨#[98, 111, 98]⟩, ⟨#[99, 105, 100]⟩] : List ByteArray)) rfl cb57 rfl rfl rfl rfl (fun wx hm => (some_any [⟨#[97, 110, 110]⟩, ⟨#[97, 110, 110]⟩, ⟨#[98, 111, 98]⟩, ⟨#[99, 105, 100]⟩] _ _ _ wx B sb _ hm.k (by omega) (by simp) (by simp) (hm.blkI 0 rfl) (hm.neRow 0 rfl rfl))) fun s63 hs63 => ?_
    have zs63 : s63.size ≤ 100 := mem_sz hs63 (by decide)
    refine wl_nil ?_
    refine nw 18 33663 (fun _ hm => ⟨hm.bl 3, hm.bl 4, hm.bl 5, trivial⟩) fun z => ?_
    refine wa1 7 rfl ?_
    refine wl_got (γ := ByteArray) (val := fun v => .string v) (φ := fun v => v ∈ ([⟨#[118, 49]⟩, ⟨#[118, 49]⟩, ⟨#[118, 50]⟩, ⟨#[118, 51]⟩] : List ByteArray)) rfl cb57 rfl rfl rfl rfl (fun wx hm => (some_any [⟨#[118, 49]⟩, ⟨#[118, 49]⟩, ⟨#[118, 50]⟩, ⟨#[118, 51]⟩] _ _ _ wx B sb _ hm.k (by omega) (by simp) (by simp) (hm.blkI 2 rfl) (hm.neRow 2 rfl rfl))) fun s64 hs64 => ?_
    have zs64 : s64.size ≤ 100 := mem_sz hs64 (by decide)
    refine wl_nil ?_
    refine nw 18 33791 (fun _ hm => ⟨hm.bl 3, hm.bl 4, hm.bl 5, trivial⟩) fun z => ?_
    refine wa1 10 rfl ?_
    refine wl_calls (γ := Int × ByteArray × Int × Int) (val := (fun g => .agg #[.int .i64 g.1, .string g.2.1, .int .i64 g.2.2.1, .int .i64 g.2.2.2])) (φ := (fun g => RdOk ⟨g.1, g.2.1, g.2.2.1, g.2.2.2⟩)) (Y := (fun g => fun _ => True)) (m' := m + 200 * i + 1 + 1 + 1 + 10) rfl cb79 rfl rfl rfl rfl (fun wx hm => (greading_any fr wx B sb _ hm.k (by omega) (by omega) (by omega)).mono fun _ _ ⟨r, hok, he, hS, hg⟩ => ⟨(r.at_, r.st, r.meter, r.fuel), he, hok, hS, hg, trivial⟩) (fun _ => Lasts2.true_) ?_
    rintro ⟨ra, rs, rm, rf⟩ hr_ra
    dsimp only at hr_ra ⊢
    have hz_rs : rs.size ≤ 1000000 := hr_ra
    refine wl_nil ?_
    refine nw 18 34815 (fun _ hm => ⟨hm.bl 3, hm.bl 4, hm.bl 5, trivial⟩) fun z => ?_
    refine wa1 11 rfl ?_
    refine wl_callx (γ := ByteArray × ByteArray × Int × Int × Option Addr × Nat × Nat × List Lg) (val := (fun g => .tuple #[.agg #[.string g.1, .string g.2.1, .int .i64 g.2.2.1, .int .i64 g.2.2.2.1, .slice g.2.2.2.2.1 g.2.2.2.2.2.1 g.2.2.2.2.2.2.1], .int .i64 (hireE ⟨key, s63, fr, fr + v3, [startLeg s64 ⟨ra, rs, rm, rf⟩]⟩)])) (φ := (fun g => HrOk g.1 g.2.1 g.2.2.2.2.2.2.2 ∧ g.2.2.2.2.2.1 ≤ 1 ∧ (hireE ⟨key, s63, fr, fr + v3, [startLeg s64 ⟨ra, rs, rm, rf⟩]⟩ = 0 → g.2.2.2.2.2.1 = 1 ∧ hireE ⟨g.1, g.2.1, g.2.2.1, g.2.2.2.1, g.2.2.2.2.2.2.2⟩ = 0))) (Y := (fun g => fun wy => SlT lgEnc 9 128 wy g.2.2.2.2.1 g.2.2.2.2.2.1 g.2.2.2.2.2.2.2)) rfl cb169 rfl rfl (fun wx hm => (startOf_litR key s63 fr (fr + v3) s64 ra rm rf rs wx (by omega) (by omega) (by omega) hz_rs).mono fun _ _ ⟨k, d, f, t, A, n, c, l, he, hsl, hok, hn, hn0, hg⟩ => ⟨(k, d, f, t, A, n, c, l), he, ⟨hok, hn, hn0⟩, hg, hsl⟩) (fun _ => SlT.lasts2 rfl) ?_
    rintro ⟨k1, d1, f1, t1, A1, n1, c1, l1⟩ hb1
    dsimp only at hb1 ⊢
    refine wl_nil ?_
    refine nw 18 36863 (fun _ hm => ⟨hm.bl 3, hm.bl 4, hm.bl 5, trivial⟩) fun z => ?_
    refine wt 12 18 40959 rfl z (ov_move rfl) ?_
    refine wt 13 18 49151 rfl z (ov_extract rfl rfl) ?_
    refine wt 14 18 65535 rfl z (ov_extract rfl rfl) ?_
    refine wa1 16 rfl ?_
    refine wl_stores (cs' := [.string k1, .string d1, .int .i64 f1, .int .i64 t1, .slice A1 n1 c1]) 1 rz45 rfl rfl rfl rfl rfl rfl rfl rfl ?_
    refine wl_nil ?_
    refine nw 18 131071 (fun _ hm => ⟨hm.bl 3, hm.bl 4, hm.bl 5, trivial⟩) fun z => ?_
    refine wt 17 18 262143 rfl z (ov_assign rfl) ?_
    refine wa_done (by kernel_rfl) ?_
    exact nx_meet (k1, d1, f1, t1, A1, n1, c1, l1, hireE ⟨key, s63, fr, fr + v3, [startLeg s64 ⟨ra, rs, rm, rf⟩]⟩, g61) hb1 ⟨rfl, rfl, rfl, rfl, rfl, rfl, rfl, trivial⟩ (fun _ hm => hm.pick [3, 4, 5, 1] [] [0] rfl rfl)
   refine wl_alloc zc45 rfl fun g66 => ?_
   refine wl_nil ?_
   refine nw 18 33587 (fun _ hm => ⟨hm.bl 1, hm.bl 2, hm.bl 3, trivial⟩) fun z => ?_
   refine wa_all [2, 6] (by kernel_rfl) rfl ⟨⟨_, rfl, ?_⟩, ⟨_, rfl, ?_⟩, trivial⟩
   ·refine wl_buildSlice (e := 9) (cs := [.string ⟨#[97, 110, 110]⟩, .string ⟨#[97, 110, 110]⟩, .string ⟨#[98, 111, 98]⟩, .string ⟨#[99, 105, 100]⟩]) rfl (by kernel_rfl) rfl fun g67 => ?_
    refine wl_nil ?_
    refine nw 18 33591 (fun _ hm => ⟨hm.bl 2, hm.bl 3, hm.bl 4, trivial⟩) fun z => ?_
    refine wa_all [3, 6] (by kernel_rfl) rfl ⟨⟨_, rfl, ?_⟩, ⟨_, rfl, ?_⟩, trivial⟩
    ·refine wl_got (γ := ByteArray) (val := fun v => .string v) (φ := fun v => v ∈ ([⟨#[97, 110, 110]⟩, ⟨#[97, 110, 110]⟩, ⟨#[98, 111, 98]⟩, ⟨#[99, 105, 100]⟩] : List ByteArray)) rfl cb57 rfl rfl rfl rfl (fun wx hm => (some_any [⟨#[97, 110, 110]⟩, ⟨#[97, 110, 110]⟩, ⟨#[98, 111, 98]⟩, ⟨#[99, 105, 100]⟩] _ _ _ wx B sb _ hm.k (by omega) (by simp) (by simp) (hm.blkI 0 rfl) (hm.neRow 0 rfl rfl))) fun s68 hs68 => ?_
     have zs68 : s68.size ≤ 100 := mem_sz hs68 (by decide)
     refine wl_nil ?_
     refine nw 18 33599 (fun _ hm => ⟨hm.bl 2, hm.bl 3, hm.bl 4, trivial⟩) fun z => ?_
     refine wa1 6 rfl ?_
     refine wl_buildSlice (e := 9) (cs := [.string ⟨#[118, 49]⟩, .string ⟨#[118, 49]⟩, .string ⟨#[118, 50]⟩, .string ⟨#[118, 51]⟩]) rfl (by kernel_rfl) rfl fun g69 => ?_
     refine wl_nil ?_
     refine nw 18 33663 (fun _ hm => ⟨hm.bl 3, hm.bl 4, hm.bl 5, trivial⟩) fun z => ?_
     refine wa1 7 rfl ?_
     refine wl_got (γ := ByteArray) (val := fun v => .string v) (φ := fun v => v ∈ ([⟨#[118, 49]⟩, ⟨#[118, 49]⟩, ⟨#[118, 50]⟩, ⟨#[118, 51]⟩] : List ByteArray)) rfl cb57 rfl rfl rfl rfl (fun wx hm => (some_any [⟨#[118, 49]⟩, ⟨#[118, 49]⟩, ⟨#[118, 50]⟩, ⟨#[118, 51]⟩] _ _ _ wx B sb _ hm.k (by omega) (by simp) (by simp) (hm.blkI 0 rfl) (hm.neRow 0 rfl rfl))) fun s70 hs70 => ?_
     have zs70 : s70.size ≤ 100 := mem_sz hs70 (by decide)
     refine wl_nil ?_
     refine nw 18 33791 (fun _ hm => ⟨hm.bl 3, hm.bl 4, hm.bl 5, trivial⟩) fun z => ?_
     refine wa1 10 rfl ?_
     refine wl_calls (γ := Int × ByteArray × Int × Int) (val := (fun g => .agg #[.int .i64 g.1, .string g.2.1, .int .i64 g.2.2.1, .int .i64 g.2.2.2])) (φ := (fun g => RdOk ⟨g.1, g.2.1, g.2.2.1, g.2.2.2⟩)) (Y := (fun g => fun _ => True)) (m' := m + 200 * i + 1 + 1 + 1 + 10) rfl cb79 rfl rfl rfl rfl (fun wx hm => (greading_any fr wx B sb _ hm.k (by omega) (by omega) (by omega)).mono fun _ _ ⟨r, hok, he, hS, hg⟩ => ⟨(r.at_, r.st, r.meter, r.fuel), he, hok, hS, hg, trivial⟩) (fun _ => Lasts2.true_) ?_
     rintro ⟨ra, rs, rm, rf⟩ hr_ra
     dsimp only at hr_ra ⊢
     have hz_rs : rs.size ≤ 1000000 := hr_ra
     refine wl_nil ?_
     refine nw 18 34815 (fun _ hm => ⟨hm.bl 3, hm.bl 4, hm.bl 5, trivial⟩) fun z => ?_
     refine wa1 11 rfl ?_
     refine wl_callx (γ := ByteArray × ByteArray × Int × Int × Option Addr × Nat × Nat × List Lg) (val := (fun g => .tuple #[.agg #[.string g.1, .string g.2.1, .int .i64 g.2.2.1, .int .i64 g.2.2.2.1, .slice g.2.2.2.2.1 g.2.2.2.2.2.1 g.2.2.2.2.2.2.1], .int .i64 (hireE ⟨key, s68, fr, fr + v3, [startLeg s70 ⟨ra, rs, rm, rf⟩]⟩)])) (φ := (fun g => HrOk g.1 g.2.1 g.2.2.2.2.2.2.2 ∧ g.2.2.2.2.2.1 ≤ 1 ∧ (hireE ⟨key, s68, fr, fr + v3, [startLeg s70 ⟨ra, rs, rm, rf⟩]⟩ = 0 → g.2.2.2.2.2.1 = 1 ∧ hireE ⟨g.1, g.2.1, g.2.2.1, g.2.2.2.1, g.2.2.2.2.2.2.2⟩ = 0))) (Y := (fun g => fun wy => SlT lgEnc 9 128 wy g.2.2.2.2.1 g.2.2.2.2.2.1 g.2.2.2.2.2.2.2)) rfl cb169 rfl rfl (fun wx hm => (startOf_litR key s68 fr (fr + v3) s70 ra rm rf rs wx (by omega) (by omega) (by omega) hz_rs).mono fun _ _ ⟨k, d, f, t, A, n, c, l, he, hsl, hok, hn, hn0, hg⟩ => ⟨(k, d, f, t, A, n, c, l), he, ⟨hok, hn, hn0⟩, hg, hsl⟩) (fun _ => SlT.lasts2 rfl) ?_
     rintro ⟨k1, d1, f1, t1, A1, n1, c1, l1⟩ hb1
     dsimp only at hb1 ⊢
     refine wl_nil ?_
     refine nw 18 36863 (fun _ hm => ⟨hm.bl 3, hm.bl 4, hm.bl 5, trivial⟩) fun z => ?_
     refine wt 12 18 40959 rfl z (ov_move rfl) ?_
     refine wt 13 18 49151 rfl z (ov_extract rfl rfl) ?_
     refine wt 14 18 65535 rfl z (ov_extract rfl rfl) ?_
     refine wa1 16 rfl ?_
     refine wl_stores (cs' := [.string k1, .string d1, .int .i64 f1, .int .i64 t1, .slice A1 n1 c1]) 2 rz45 rfl rfl rfl rfl rfl rfl rfl rfl ?_
     refine wl_nil ?_
     refine nw 18 131071 (fun _ hm => ⟨hm.bl 3, hm.bl 4, hm.bl 5, trivial⟩) fun z => ?_
     refine wt 17 18 262143 rfl z (ov_assign rfl) ?_
     refine wa_done (by kernel_rfl) ?_
     exact nx_meet (k1, d1, f1, t1, A1, n1, c1, l1, hireE ⟨key, s68, fr, fr + v3, [startLeg s70 ⟨ra, rs, rm, rf⟩]⟩, g66) hb1 ⟨rfl, rfl, rfl, rfl, rfl, rfl, rfl, trivial⟩ (fun _ hm => hm.pick [3, 4, 5, 2] [] [0] rfl rfl)
    refine wl_buildSlice (e := 9) (cs := [.string ⟨#[118, 49]⟩, .string ⟨#[118, 49]⟩, .string ⟨#[118, 50]⟩, .string ⟨#[118, 51]⟩]) rfl (by kernel_rfl) rfl fun g72 => ?_
    refine wl_nil ?_
    refine nw 18 33655 (fun _ hm => ⟨hm.bl 3, hm.bl 4, hm.bl 5, trivial⟩) fun z => ?_
    refine wa1 3 rfl ?_
    refine wl_got (γ := ByteArray) (val := fun v => .string v) (φ := fun v => v ∈ ([⟨#[97, 110, 110]⟩, ⟨#[97, 110, 110]⟩, ⟨#[98, 111, 98]⟩, ⟨#[99, 105, 100]⟩] : List ByteArray)) rfl cb57 rfl rfl rfl rfl (fun wx hm => (some_any [⟨#[97, 110, 110]⟩, ⟨#[97, 110, 110]⟩, ⟨#[98, 111, 98]⟩, ⟨#[99, 105, 100]⟩] _ _ _ wx B sb _ hm.k (by omega) (by simp) (by simp) (hm.blkI 1 rfl) (hm.neRow 1 rfl rfl))) fun s73 hs73 => ?_
    have zs73 : s73.size ≤ 100 := mem_sz hs73 (by decide)
    refine wl_nil ?_
    refine nw 18 33663 (fun _ hm => ⟨hm.bl 3, hm.bl 4, hm.bl 5, trivial⟩) fun z => ?_
    refine wa1 7 rfl ?_
    refine wl_got (γ := ByteArray) (val := fun v => .string v) (φ := fun v => v ∈ ([⟨#[118, 49]⟩, ⟨#[118, 49]⟩, ⟨#[118, 50]⟩, ⟨#[118, 51]⟩] : List ByteArray)) rfl cb57 rfl rfl rfl rfl (fun wx hm => (some_any [⟨#[118, 49]⟩, ⟨#[118, 49]⟩, ⟨#[118, 50]⟩, ⟨#[118, 51]⟩] _ _ _ wx B sb _ hm.k (by omega) (by simp) (by simp) (hm.blkI 0 rfl) (hm.neRow 0 rfl rfl))) fun s74 hs74 => ?_
    have zs74 : s74.size ≤ 100 := mem_sz hs74 (by decide)
    refine wl_nil ?_
    refine nw 18 33791 (fun _ hm => ⟨hm.bl 3, hm.bl 4, hm.bl 5, trivial⟩) fun z => ?_
    refine wa1 10 rfl ?_
    refine wl_calls (γ := Int × ByteArray × Int × Int) (val := (fun g => .agg #[.int .i64 g.1, .string g.2.1, .int .i64 g.2.2.1, .int .i64 g.2.2.2])) (φ := (fun g => RdOk ⟨g.1, g.2.1, g.2.2.1, g.2.2.2⟩)) (Y := (fun g => fun _ => True)) (m' := m + 200 * i + 1 + 1 + 1 + 10) rfl cb79 rfl rfl rfl rfl (fun wx hm => (greading_any fr wx B sb _ hm.k (by omega) (by omega) (by omega)).mono fun _ _ ⟨r, hok, he, hS, hg⟩ => ⟨(r.at_, r.st, r.meter, r.fuel), he, hok, hS, hg, trivial⟩) (fun _ => Lasts2.true_) ?_
    rintro ⟨ra, rs, rm, rf⟩ hr_ra
    dsimp only at hr_ra ⊢
    have hz_rs : rs.size ≤ 1000000 := hr_ra
    refine wl_nil ?_
    refine nw 18 34815 (fun _ hm => ⟨hm.bl 3, hm.bl 4, hm.bl 5, trivial⟩) fun z => ?_
    refine wa1 11 rfl ?_
    refine wl_callx (γ := ByteArray × ByteArray × Int × Int × Option Addr × Nat × Nat × List Lg) (val := (fun g => .tuple #[.agg #[.string g.1, .string g.2.1, .int .i64 g.2.2.1, .int .i64 g.2.2.2.1, .slice g.2.2.2.2.1 g.2.2.2.2.2.1 g.2.2.2.2.2.2.1], .int .i64 (hireE ⟨key, s73, fr, fr + v3, [startLeg s74 ⟨ra, rs, rm, rf⟩]⟩)])) (φ := (fun g => HrOk g.1 g.2.1 g.2.2.2.2.2.2.2 ∧ g.2.2.2.2.2.1 ≤ 1 ∧ (hireE ⟨key, s73, fr, fr + v3, [startLeg s74 ⟨ra, rs, rm, rf⟩]⟩ = 0 → g.2.2.2.2.2.1 = 1 ∧ hireE ⟨g.1, g.2.1, g.2.2.1, g.2.2.2.1, g.2.2.2.2.2.2.2⟩ = 0))) (Y := (fun g => fun wy => SlT lgEnc 9 128 wy g.2.2.2.2.1 g.2.2.2.2.2.1 g.2.2.2.2.2.2.2)) rfl cb169 rfl rfl (fun wx hm => (startOf_litR key s73 fr (fr + v3) s74 ra rm rf rs wx (by omega) (by omega) (by omega) hz_rs).mono fun _ _ ⟨k, d, f, t, A, n, c, l, he, hsl, hok, hn, hn0, hg⟩ => ⟨(k, d, f, t, A, n, c, l), he, ⟨hok, hn, hn0⟩, hg, hsl⟩) (fun _ => SlT.lasts2 rfl) ?_
    rintro ⟨k1, d1, f1, t1, A1, n1, c1, l1⟩ hb1
    dsimp only at hb1 ⊢
    refine wl_nil ?_
    refine nw 18 36863 (fun _ hm => ⟨hm.bl 3, hm.bl 4, hm.bl 5, trivial⟩) fun z => ?_
    refine wt 12 18 40959 rfl z (ov_move rfl) ?_
    refine wt 13 18 49151 rfl z (ov_extract rfl rfl) ?_
    refine wt 14 18 65535 rfl z (ov_extract rfl rfl) ?_
    refine wa1 16 rfl ?_
    refine wl_stores (cs' := [.string k1, .string d1, .int .i64 f1, .int .i64 t1, .slice A1 n1 c1]) 2 rz45 rfl rfl rfl rfl rfl rfl rfl rfl ?_
    refine wl_nil ?_
    refine nw 18 131071 (fun _ hm => ⟨hm.bl 3, hm.bl 4, hm.bl 5, trivial⟩) fun z => ?_
    refine wt 17 18 262143 rfl z (ov_assign rfl) ?_
    refine wa_done (by kernel_rfl) ?_
    exact nx_meet (k1, d1, f1, t1, A1, n1, c1, l1, hireE ⟨key, s73, fr, fr + v3, [startLeg s74 ⟨ra, rs, rm, rf⟩]⟩, g66) hb1 ⟨rfl, rfl, rfl, rfl, rfl, rfl, rfl, trivial⟩ (fun _ hm => hm.pick [3, 4, 5, 2] [] [0] rfl rfl)
   refine wl_buildSlice (e := 9) (cs := [.string ⟨#[118, 49]⟩, .string ⟨#[118, 49]⟩, .string ⟨#[118, 50]⟩, .string ⟨#[118, 51]⟩]) rfl (by kernel_rfl) rfl fun g76 => ?_
   refine wl_nil ?_
   refine nw 18 33651 (fun _ hm => ⟨hm.bl 2, hm.bl 3, hm.bl 4, trivial⟩) fun z => ?_
   refine wa1 2 rfl ?_
   refine wl_buildSlice (e := 9) (cs := [.string ⟨#[97, 110, 110]⟩, .string ⟨#[97, 110, 110]⟩, .string ⟨#[98, 111, 98]⟩, .string ⟨#[99, 105, 100]⟩]) rfl (by kernel_rfl) rfl fun g77 => ?_
   refine wl_nil ?_
   refine nw 18 33655 (fun _ hm => ⟨hm.bl 3, hm.bl 4, hm.bl 5, trivial⟩) fun z => ?_
   refine wa1 3 rfl ?_
   refine wl_got (γ := ByteArray) (val := fun v => .string v) (φ := fun v => v ∈ ([⟨#[97, 110, 110]⟩, ⟨#[97, 110, 110]⟩, ⟨#[98, 111, 98]⟩, ⟨#[99, 105, 100]⟩] : List ByteArray)) rfl cb57 rfl rfl rfl rfl (fun wx hm => (some_any [⟨#[97, 110, 110]⟩, ⟨#[97, 110, 110]⟩, ⟨#[98, 111, 98]⟩, ⟨#[99, 105, 100]⟩] _ _ _ wx B sb _ hm.k (by omega) (by simp) (by simp) (hm.blkI 0 rfl) (hm.neRow 0 rfl rfl))) fun s78 hs78 => ?_
   have zs78 : s78.size ≤ 100 := mem_sz hs78 (by decide)
   refine wl_nil ?_
   refine nw 18 33663 (fun _ hm => ⟨hm.bl 3, hm.bl 4, hm.bl 5, trivial⟩) fun z => ?_
   refine wa1 7 rfl ?_
   refine wl_got (γ := ByteArray) (val := fun v => .string v) (φ := fun v => v ∈ ([⟨#[118, 49]⟩, ⟨#[118, 49]⟩, ⟨#[118, 50]⟩, ⟨#[118, 51]⟩] : List ByteArray)) rfl cb57 rfl rfl rfl rfl (fun wx hm => (some_any [⟨#[118, 49]⟩, ⟨#[118, 49]⟩, ⟨#[118, 50]⟩, ⟨#[118, 51]⟩] _ _ _ wx B sb _ hm.k (by omega) (by simp) (by simp) (hm.blkI 1 rfl) (hm.neRow 1 rfl rfl))) fun s79 hs79 => ?_
   have zs79 : s79.size ≤ 100 := mem_sz hs79 (by decide)
   refine wl_nil ?_
   refine nw 18 33791 (fun _ hm => ⟨hm.bl 3, hm.bl 4, hm.bl 5, trivial⟩) fun z => ?_
   refine wa1 10 rfl ?_
   refine wl_calls (γ := Int × ByteArray × Int × Int) (val := (fun g => .agg #[.int .i64 g.1, .string g.2.1, .int .i64 g.2.2.1, .int .i64 g.2.2.2])) (φ := (fun g => RdOk ⟨g.1, g.2.1, g.2.2.1, g.2.2.2⟩)) (Y := (fun g => fun _ => True)) (m' := m + 200 * i + 1 + 1 + 1 + 10) rfl cb79 rfl rfl rfl rfl (fun wx hm => (greading_any fr wx B sb _ hm.k (by omega) (by omega) (by omega)).mono fun _ _ ⟨r, hok, he, hS, hg⟩ => ⟨(r.at_, r.st, r.meter, r.fuel), he, hok, hS, hg, trivial⟩) (fun _ => Lasts2.true_) ?_
   rintro ⟨ra, rs, rm, rf⟩ hr_ra
   dsimp only at hr_ra ⊢
   have hz_rs : rs.size ≤ 1000000 := hr_ra
   refine wl_nil ?_
   refine nw 18 34815 (fun _ hm => ⟨hm.bl 3, hm.bl 4, hm.bl 5, trivial⟩) fun z => ?_
   refine wa1 11 rfl ?_
   refine wl_callx (γ := ByteArray × ByteArray × Int × Int × Option Addr × Nat × Nat × List Lg) (val := (fun g => .tuple #[.agg #[.string g.1, .string g.2.1, .int .i64 g.2.2.1, .int .i64 g.2.2.2.1, .slice g.2.2.2.2.1 g.2.2.2.2.2.1 g.2.2.2.2.2.2.1], .int .i64 (hireE ⟨key, s78, fr, fr + v3, [startLeg s79 ⟨ra, rs, rm, rf⟩]⟩)])) (φ := (fun g => HrOk g.1 g.2.1 g.2.2.2.2.2.2.2 ∧ g.2.2.2.2.2.1 ≤ 1 ∧ (hireE ⟨key, s78, fr, fr + v3, [startLeg s79 ⟨ra, rs, rm, rf⟩]⟩ = 0 → g.2.2.2.2.2.1 = 1 ∧ hireE ⟨g.1, g.2.1, g.2.2.1, g.2.2.2.1, g.2.2.2.2.2.2.2⟩ = 0))) (Y := (fun g => fun wy => SlT lgEnc 9 128 wy g.2.2.2.2.1 g.2.2.2.2.2.1 g.2.2.2.2.2.2.2)) rfl cb169 rfl rfl (fun wx hm => (startOf_litR key s78 fr (fr + v3) s79 ra rm rf rs wx (by omega) (by omega) (by omega) hz_rs).mono fun _ _ ⟨k, d, f, t, A, n, c, l, he, hsl, hok, hn, hn0, hg⟩ => ⟨(k, d, f, t, A, n, c, l), he, ⟨hok, hn, hn0⟩, hg, hsl⟩) (fun _ => SlT.lasts2 rfl) ?_
   rintro ⟨k1, d1, f1, t1, A1, n1, c1, l1⟩ hb1
   dsimp only at hb1 ⊢
   refine wl_nil ?_
   refine nw 18 36863 (fun _ hm => ⟨hm.bl 3, hm.bl 4, hm.bl 5, trivial⟩) fun z => ?_
   refine wt 12 18 40959 rfl z (ov_move rfl) ?_
   refine wt 13 18 49151 rfl z (ov_extract rfl rfl) ?_
   refine wt 14 18 65535 rfl z (ov_extract rfl rfl) ?_
   refine wa1 16 rfl ?_
   refine wl_stores (cs' := [.string k1, .string d1, .int .i64 f1, .int .i64 t1, .slice A1 n1 c1]) 2 rz45 rfl rfl rfl rfl rfl rfl rfl rfl ?_
   refine wl_nil ?_
   refine nw 18 131071 (fun _ hm => ⟨hm.bl 3, hm.bl 4, hm.bl 5, trivial⟩) fun z => ?_
   refine wt 17 18 262143 rfl z (ov_assign rfl) ?_
   refine wa_done (by kernel_rfl) ?_
   exact nx_meet (k1, d1, f1, t1, A1, n1, c1, l1, hireE ⟨key, s78, fr, fr + v3, [startLeg s79 ⟨ra, rs, rm, rf⟩]⟩, g66) hb1 ⟨rfl, rfl, rfl, rfl, rfl, rfl, rfl, trivial⟩ (fun _ hm => hm.pick [3, 4, 5, 2] [] [0] rfl rfl)
  rintro ⟨k, d, f, t, A, n, c, l, E, gh⟩ hinv
  replace hinv : HrOk k d l ∧ n ≤ 1 ∧ (E = 0 → n = 1 ∧ hireE ⟨k, d, f, t, l⟩ = 0) := hinv
  dsimp only
  refine gw_seq (sr_ ?_)
  obtain ⟨hok, hn1, hne⟩ := hinv
  refine mv_ rfl (wl_ov (ov_neq rfl rfl) rfl (nn_ ?_))
  refine gw_cond rfl (fun hh => ?_) (fun hh => ?_)
  ·have hE : ¬ (E = 0) := by simpa using hh
   clear hh
   refine gw_exit ?_
   refine nx_then_exit ?_
   refine nx_blk_here ?_
   refine nx_then (gw_region (ad_ rfl rfl (mv_ rfl (wl_nil ?_))))
   exact nx_round (i + 1) (by omega) (by omega) ⟨rfl, rfl, rfl, rfl, (some_int (by omega)), trivial⟩ (fun _ hm => (hm.more rfl (by first | omega | (dsimp only; omega))).pick [2] [] [] rfl rfl)
  have hE : E = 0 := by simpa using hh
  clear hh
  refine gw_skip (nx_then (sr_ ?_))
  obtain ⟨hn, hE0⟩ := hne hE
  refine mv_ rfl (sg_ rfl (nn_ (gw_seq (sr_ (mv_ rfl ?_)))))
  refine wl_buildSlice (e := 3) (cs := [.int .i64 0, .int .i64 0, .int .i64 1, .int .i64 2]) rfl (by kernel_rfl) rfl fun g81 => ?_
  refine wl_got (γ := Int) (val := fun v => .int .i64 v) (φ := fun v => v ∈ ([0, 0, 1, 2] : List Int)) rfl cb34 rfl rfl rfl rfl (fun wx hm => (pick_any [0, 0, 1, 2] _ _ _ wx B sb _ hm.k (by omega) (by simp) (by simp) (hm.blkI 0 rfl) (hm.neRow 0 rfl rfl))) fun v82 hv82 => ?_
  have bv82 : 0 ≤ v82 ∧ v82 ≤ 2 := mem_rng hv82 (by decide)
  have bv820 := bv82.1
  have bv821 := bv82.2
  clear bv82
  refine mv_ rfl (nn_ (gw_block ?_))
  have hq0 : 0 ≤ v82 ∧ v82 ≤ 2 := ⟨bv820, bv821⟩
  refine gw_loop (γ := Nat × Int × ByteArray × ByteArray × Int × Int × Option Addr × Nat × Nat × List Lg) (fun g => (g.1 : Int) ≤ v82 ∧ (0 ≤ g.2.1 ∧ g.2.1 ≤ 5000000 + 500 * (g.1 : Int)) ∧ HrOk g.2.2.1 g.2.2.2.1 g.2.2.2.2.2.2.2.2.2 ∧ 1 ≤ g.2.2.2.2.2.2.2.1 ∧ g.2.2.2.2.2.2.2.1 ≤ 1 + g.1 ∧ hireE ⟨g.2.2.1, g.2.2.2.1, g.2.2.2.2.1, g.2.2.2.2.2.1, g.2.2.2.2.2.2.2.2.2⟩ = 0) (fun g => [(0, .pointer (some ⟨sb, 0, none⟩)), (1, .string key), (2, .int .i64 fr), (6, .pointer (some ⟨g1, 0, none⟩)), (8, .pointer (some ⟨gh, 0, none⟩)), (10, .int .i64 g.2.1), (19, .int .i64 ((i : Nat) : Int)), (48, .int .i64 v82), (49, .int .i64 ((g.1 : Nat) : Int))]) (fun g => fun w => Strm 25 w B sb (m + 200 * i + 1 + 1 + 1 + 10 + 1 + 40 * g.1)) (fun g => [(g81, 3, [.int .i64 0, .int .i64 0, .int .i64 1, .int .i64 2]), (g4, 42, [.int .i64 fr, .int .i64 (fr + v3)]), (g2, 3, [.int .i64 60, .int .i64 100, .int .i64 1440, .int .i64 2000, .int .i64 3000]), (g1, 45, [.string ⟨#[]⟩, .string ⟨#[]⟩, .int .i64 0, .int .i64 0, .slice none 0 0]), (gh, 45, [.string g.2.2.1, .string g.2.2.2.1, .int .i64 g.2.2.2.2.1, .int .i64 g.2.2.2.2.2.1, .slice g.2.2.2.2.2.2.1 g.2.2.2.2.2.2.2.1 g.2.2.2.2.2.2.2.2.1])]) (fun g => []) (fun g => [fun wy => SlT lgEnc 9 128 wy g.2.2.2.2.2.2.1 g.2.2.2.2.2.2.2.1 g.2.2.2.2.2.2.2.2.2]) (fun g => (v82 - (g.1 : Int)).toNat) (0, fr, k, d, f, t, A, n, c, l) ⟨by dsimp only; omega, by dsimp only; omega, hok, by dsimp only; omega, by dsimp only; omega, hE0⟩ ⟨rfl, rfl, rfl, rfl, rfl, rfl, rfl, rfl, rfl, trivial⟩ (fun _ hm => (hm.more rfl (by first | omega | (dsimp only; omega))).pick [0, 1, 2, 3, 4] [] [0] rfl rfl) ?_
  rintro ⟨j, mo, kx, dx, fx, tx, Ax, nx, cx, lx⟩ hinv
  replace hinv : (j : Int) ≤ v82 ∧ (0 ≤ mo ∧ mo ≤ 5000000 + 500 * (j : Int)) ∧ HrOk kx dx lx ∧ 1 ≤ nx ∧ nx ≤ 1 + j ∧ hireE ⟨kx, dx, fx, tx, lx⟩ = 0 := hinv
  dsimp only
  refine sr_ ?_
  obtain ⟨hj0, hj1, hj2, hj3, hj4, hj5⟩ := hinv
  refine wl_ov (ov_lss rfl rfl) rfl (nn_ (gw_seq ?_))
  refine gw_cond rfl (fun hh => ?_) (fun hh => ?_)
  ·have hj : ((j : Nat) : Int) < v82 := by simpa using hh
   clear hh
   refine gw_skip (nx_then (gw_seq (gw_block (sr_ (mv_ rfl (mv_ rfl ?_))))))
   refine wl_buildSlice (e := 3) (cs := [.int .i64 1, .int .i64 30, .int .i64 100, .int .i64 500]) rfl (by kernel_rfl) rfl fun g83 => ?_
   refine wl_got (γ := Int) (val := fun v => .int .i64 v) (φ := fun v => v ∈ ([1, 30, 100, 500] : List Int)) rfl cb34 rfl rfl rfl rfl (fun wx hm => (pick_any [1, 30, 100, 500] _ _ _ wx B sb _ hm.k (by omega) (by simp) (by simp) (hm.blkI 0 rfl) (hm.neRow 0 rfl rfl))) fun v84 hv84 => ?_
   have bv84 : 1 ≤ v84 ∧ v84 ≤ 500 := mem_rng hv84 (by decide)
   have bv840 := bv84.1
   have bv841 := bv84.2
   clear bv84
   refine ad_ rfl rfl (sg_ rfl (nn_ (sr_ (mv_ rfl (mv_ rfl ?_)))))
   obtain ⟨at1, hat1⟩ : ∃ z : Int, z = mo + v84 := ⟨_, rfl⟩
   have hat1b : 0 ≤ at1 ∧ at1 ≤ 5000000 + 500 * ((j : Int) + 1) := by omega
   refine wl_set 10 (v' := .int .i64 at1) rfl (congrArg (Value.int .i64) hat1.symm) ?_
   refine wl_set 55 (v' := .int .i64 at1) rfl (congrArg (Value.int .i64) hat1.symm) ?_
   refine wl_set 57 (v' := .int .i64 at1) rfl (congrArg (Value.int .i64) hat1.symm) ?_
   refine wl_calls (γ := Int × ByteArray × Int × Int) (val := (fun g => .agg #[.int .i64 g.1, .string g.2.1, .int .i64 g.2.2.1, .int .i64 g.2.2.2])) (φ := (fun g => RdOk ⟨g.1, g.2.1, g.2.2.1, g.2.2.2⟩)) (Y := (fun g => fun _ => True)) (m' := m + 200 * i + 1 + 1 + 1 + 10 + 1 + 40 * j + 1 + 10) rfl cb79 rfl rfl rfl rfl (fun wx hm => (greading_any at1 wx B sb _ hm.k (by omega) (by omega) (by omega)).mono fun _ _ ⟨r, hok, he, hS, hg⟩ => ⟨(r.at_, r.st, r.meter, r.fuel), he, hok, hS, hg, trivial⟩) (fun _ => Lasts2.true_) ?_
   rintro ⟨ra, rs, rm, rf⟩ hr_ra
   dsimp only at hr_ra ⊢
   have hz_rs : rs.size ≤ 1000000 := hr_ra
   refine wl_alloc zc126 rfl fun g86 => ?_
   refine wl_stores (cs' := [.int .i64 ra, .string rs, .int .i64 rm, .int .i64 rf]) 0 rz126 rfl rfl rfl rfl rfl rfl rfl rfl ?_
   refine nn_ (sr_ (mv_ rfl (mv_ rfl ?_)))
   refine wl_calls (γ := Int × ByteArray × Int × Int) (val := (fun g => .agg #[.int .i64 g.1, .string g.2.1, .int .i64 g.2.2.1, .int .i64 g.2.2.2])) (φ := (fun g => RdOk ⟨g.1, g.2.1, g.2.2.1, g.2.2.2⟩)) (Y := (fun g => fun _ => True)) (m' := m + 200 * i + 1 + 1 + 1 + 10 + 1 + 40 * j + 1 + 10 + 10) rfl cb79 rfl rfl rfl rfl (fun wx hm => (greading_any at1 wx B sb _ hm.k (by omega) (by omega) (by omega)).mono fun _ _ ⟨r, hok, he, hS, hg⟩ => ⟨(r.at_, r.st, r.meter, r.fuel), he, hok, hS, hg, trivial⟩) (fun _ => Lasts2.true_) ?_
   rintro ⟨qa, qs, qm, qf⟩ hr_qa
   dsimp only at hr_qa ⊢
   have hz_qs : qs.size ≤ 1000000 := hr_qa
   refine wl_alloc zc126 rfl fun g88 => ?_
   refine wl_stores (cs' := [.int .i64 qa, .string qs, .int .i64 qm, .int .i64 qf]) 0 rz126 rfl rfl rfl rfl rfl rfl rfl rfl ?_
   refine nn_ (sr_ (fd_ fo126_1 rfl rfl (lk_ sc9 1 rfl rfl rfl (fd_ fo126_1 rfl rfl ?_))))
   refine wl_store 0 sc9 rfl rfl rfl rfl rfl rfl ?_
   refine nn_ ?_
   refine gw_cut (γ := ByteArray × ByteArray × Int × Int × Option Addr × Nat × Nat × List Lg × Int × Nat) (I := (fun g => HrOk g.1 g.2.1 g.2.2.2.2.2.2.2.1 ∧ g.2.2.2.2.2.1 ≤ nx + 1 ∧ (g.2.2.2.2.2.2.2.2.1 = 0 → g.2.2.2.2.2.1 = nx + 1 ∧ hireE ⟨g.1, g.2.1, g.2.2.1, g.2.2.2.1, g.2.2.2.2.2.2.2.1⟩ = 0))) (S' := (fun g => [(0, .pointer (some ⟨sb, 0, none⟩)), (1, .string key), (2, .int .i64 fr), (6, .pointer (some ⟨g1, 0, none⟩)), (8, .pointer (some ⟨gh, 0, none⟩)), (10, .int .i64 at1), (13, .pointer (some ⟨g.2.2.2.2.2.2.2.2.2, 0, none⟩)), (14, .int .i64 g.2.2.2.2.2.2.2.2.1), (19, .int .i64 ((i : Nat) : Int)), (48, .int .i64 v82), (49, .int .i64 ((j : Nat) : Int))])) (K' := (fun g => fun w => Strm 25 w B sb (m + 200 * i + 1 + 1 + 1 + 10 + 1 + 40 * j + 1 + 10 + 10 + 1))) (L' := (fun g => [(g88, 126, [.int .i64 qa, .string rs, .int .i64 qm, .int .i64 qf]), (g86, 126, [.int .i64 ra, .string rs, .int .i64 rm, .int .i64 rf]), (g83, 3, [.int .i64 1, .int .i64 30, .int .i64 100, .int .i64 500]), (g81, 3, [.int .i64 0, .int .i64 0, .int .i64 1, .int .i64 2]), (g4, 42, [.int .i64 fr, .int .i64 (fr + v3)]), (g2, 3, [.int .i64 60, .int .i64 100, .int .i64 1440, .int .i64 2000, .int .i64 3000]), (g1, 45, [.string ⟨#[]⟩, .string ⟨#[]⟩, .int .i64 0, .int .i64 0, .slice none 0 0]), (gh, 45, [.string kx, .string dx, .int .i64 fx, .int .i64 tx, .slice Ax nx cx]), (g.2.2.2.2.2.2.2.2.2, 45, [.string g.1, .string g.2.1, .int .i64 g.2.2.1, .int .i64 g.2.2.2.1, .slice g.2.2.2.2.1 g.2.2.2.2.2.1 g.2.2.2.2.2.2.1])])) (O' := (fun g => [])) (X' := (fun g => [fun _ => True, fun _ => True, fun wy => SlT lgEnc 9 128 wy Ax nx lx, fun wy => SlT lgEnc 9 128 wy g.2.2.2.2.1 g.2.2.2.2.2.1 g.2.2.2.2.2.2.2.1])) ?_ ?_
   ·refine gd (fun wz => Blk wz g88 126 [.int .i64 qa, .string rs, .int .i64 qm, .int .i64 qf] ∧ Blk wz g86 126 [.int .i64 ra, .string rs, .int .i64 rm, .int .i64 rf] ∧ Blk wz g83 3 [.int .i64 1, .int .i64 30, .int .i64 100, .int .i64 500] ∧ Blk wz g81 3 [.int .i64 0, .int .i64 0, .int .i64 1, .int .i64 2] ∧ Blk wz g4 42 [.int .i64 fr, .int .i64 (fr + v3)] ∧ Blk wz g2 3 [.int .i64 60, .int .i64 100, .int .i64 1440, .int .i64 2000, .int .i64 3000] ∧ Blk wz g1 45 [.string ⟨#[]⟩, .string ⟨#[]⟩, .int .i64 0, .int .i64 0, .slice none 0 0] ∧ Blk wz gh 45 [.string kx, .string dx, .int .i64 fx, .int .i64 tx, .slice Ax nx cx] ∧ (fun _ => True) wz ∧ (fun _ => True) wz ∧ (fun wy => SlT lgEnc 9 128 wy Ax nx lx) wz ∧ True) mixed (fun _ hm => ⟨hm.bl 0, hm.bl 1, hm.bl 2, hm.bl 3, hm.bl 4, hm.bl 5, hm.bl 6, hm.bl 7, hm.fa 0, hm.fa 1, hm.fa 2, trivial⟩) fun z => ?_
    refine wt 0 13 1 rfl z (ov_loads rz45 rfl (fun _ hm => hm.2.2.2.2.2.2.2.1) rfl rfl) ?_
    refine wt 1 13 3 rfl z (ov_loads rz126 rfl (fun _ hm => hm.2.1) rfl rfl) ?_
    refine wt 2 13 7 rfl z (ov_move rfl) ?_
    refine wt 5 13 39 rfl z (ov_loads rz126 rfl (fun _ hm => hm.1) rfl rfl) ?_
    refine wa_all [3, 10] (by kernel_rfl) rfl ⟨⟨_, rfl, ?_⟩, ⟨_, rfl, ?_⟩, trivial⟩
    ·refine wl_buildSlice (e := 9) (cs := [.string ⟨#[118, 49]⟩, .string ⟨#[118, 50]⟩, .string ⟨#[118, 51]⟩, .string ⟨#[118, 52]⟩]) rfl (by kernel_rfl) rfl fun g89 => ?_
     refine wl_nil ?_
     refine nw 13 47 (fun _ hm => ⟨hm.bl 1, hm.bl 2, hm.bl 3, hm.bl 4, hm.bl 5, hm.bl 6, hm.bl 7, hm.bl 8, hm.fa 0, hm.fa 1, hm.fa 2, trivial⟩) fun z => ?_
     refine wa_all [4, 10] (by kernel_rfl) rfl ⟨⟨_, rfl, ?_⟩, ⟨_, rfl, ?_⟩, trivial⟩
     ·refine wl_got (γ := ByteArray) (val := fun v => .string v) (φ := fun v => v ∈ ([⟨#[118, 49]⟩, ⟨#[118, 50]⟩, ⟨#[118, 51]⟩, ⟨#[118, 52]⟩] : List ByteArray)) rfl cb57 rfl rfl rfl rfl (fun wx hm => (some_any [⟨#[118, 49]⟩, ⟨#[118, 50]⟩, ⟨#[118, 51]⟩, ⟨#[118, 52]⟩] _ _ _ wx B sb _ hm.k (by omega) (by simp) (by simp) (hm.blkI 0 rfl) (hm.neRow 0 rfl rfl))) fun s90 hs90 => ?_
      have zs90 : s90.size ≤ 100 := mem_sz hs90 (by decide)
      refine wl_nil ?_
      refine nw 13 63 (fun _ hm => ⟨hm.bl 1, hm.bl 2, hm.bl 3, hm.bl 4, hm.bl 5, hm.bl 6, hm.bl 7, hm.bl 8, hm.fa 0, hm.fa 1, hm.fa 2, trivial⟩) fun z => ?_
      refine wa_all [6, 10] (by kernel_rfl) rfl ⟨⟨_, rfl, ?_⟩, ⟨_, rfl, ?_⟩, trivial⟩
      ·refine wl_callx (γ := ByteArray × ByteArray × Int × Int × Option Addr × Nat × Nat × List Lg × Int) (val := (fun g => .tuple #[.agg #[.string g.1, .string g.2.1, .int .i64 g.2.2.1, .int .i64 g.2.2.2.1, .slice g.2.2.2.2.1 g.2.2.2.2.2.1 g.2.2.2.2.2.2.1], .int .i64 g.2.2.2.2.2.2.2.2])) (φ := (fun g => HrOk g.1 g.2.1 g.2.2.2.2.2.2.2.1 ∧ g.2.2.2.2.2.1 ≤ nx + 1 ∧ (g.2.2.2.2.2.2.2.2 = 0 → g.2.2.2.2.2.1 = nx + 1 ∧ hireE ⟨g.1, g.2.1, g.2.2.1, g.2.2.2.1, g.2.2.2.2.2.2.2.1⟩ = 0))) (Y := (fun g => fun wy => SlT lgEnc 9 128 wy g.2.2.2.2.1 g.2.2.2.2.2.1 g.2.2.2.2.2.2.2.1)) rfl cb170 rfl rfl (fun wx hm => (exchangeOf_litR kx dx fx tx lx Ax nx cx wx (hm.fact 2 rfl) hj2 (by omega) s90 ra rm rf qa qm qf rs rs (by omega) hz_rs hz_rs).mono fun _ _ ⟨E, k, d, f, t, A, n, c, l, he, hsl, hok, hn, hn0, hg⟩ => ⟨(k, d, f, t, A, n, c, l, E), he, ⟨hok, hn, hn0⟩, hg, hsl⟩) (fun _ => SlT.lasts2 rfl) ?_
       rintro ⟨k2, d2, f2, t2, A2, n2, c2, l2, E2⟩ hb2
       dsimp only at hb2 ⊢
       refine wl_nil ?_
       refine nw 13 127 (fun _ hm => ⟨hm.bl 1, hm.bl 2, hm.bl 3, hm.bl 4, hm.bl 5, hm.bl 6, hm.bl 7, hm.bl 8, hm.fa 1, hm.fa 2, hm.fa 3, trivial⟩) fun z => ?_
       refine wt 7 13 255 rfl z (ov_move rfl) ?_
       refine wt 8 13 511 rfl z (ov_extract rfl rfl) ?_
       refine wt 9 13 1023 rfl z (ov_extract rfl rfl) ?_
       refine wa1 10 rfl ?_
       refine wl_alloc zc45 rfl fun g91 => ?_
       refine wl_nil ?_
       refine nw 13 2047 (fun _ hm => ⟨hm.bl 2, hm.bl 3, hm.bl 4, hm.bl 5, hm.bl 6, hm.bl 7, hm.bl 8, hm.bl 9, hm.fa 1, hm.fa 2, hm.fa 3, trivial⟩) fun z => ?_
       refine wa1 11 rfl ?_
       refine wl_stores (cs' := [.string k2, .string d2, .int .i64 f2, .int .i64 t2, .slice A2 n2 c2]) 0 rz45 rfl rfl rfl rfl rfl rfl rfl rfl ?_
       refine wl_nil ?_
       refine nw 13 4095 (fun _ hm => ⟨hm.bl 2, hm.bl 3, hm.bl 4, hm.bl 5, hm.bl 6, hm.bl 7, hm.bl 8, hm.bl 9, hm.fa 1, hm.fa 2, hm.fa 3, trivial⟩) fun z => ?_
       refine wt 12 13 8191 rfl z (ov_assign rfl) ?_
       refine wa_done (by kernel_rfl) ?_
       exact nx_meet (k2, d2, f2, t2, A2, n2, c2, l2, E2, g91) hb2 ⟨rfl, rfl, rfl, rfl, rfl, rfl, rfl, rfl, rfl, rfl, rfl, trivial⟩ (fun _ hm => hm.pick [2, 3, 4, 5, 6, 7, 8, 9, 0] [] [1, 2, 3, 0] rfl rfl)
      refine wl_alloc zc45 rfl fun g92 => ?_
      refine wl_nil ?_
      refine nw 13 1087 (fun _ hm => ⟨hm.bl 2, hm.bl 3, hm.bl 4, hm.bl 5, hm.bl 6, hm.bl 7, hm.bl 8, hm.bl 9, hm.fa 0, hm.fa 1, hm.fa 2, trivial⟩) fun z => ?_
      refine wa1 6 rfl ?_
      refine wl_callx (γ := ByteArray × ByteArray × Int × Int × Option Addr × Nat × Nat × List Lg × Int) (val := (fun g => .tuple #[.agg #[.string g.1, .string g.2.1, .int .i64 g.2.2.1, .int .i64 g.2.2.2.1, .slice g.2.2.2.2.1 g.2.2.2.2.2.1 g.2.2.2.2.2.2.1], .int .i64 g.2.2.2.2.2.2.2.2])) (φ := (fun g => HrOk g.1 g.2.1 g.2.2.2.2.2.2.2.1 ∧ g.2.2.2.2.2.1 ≤ nx + 1 ∧ (g.2.2.2.2.2.2.2.2 = 0 → g.2.2.2.2.2.1 = nx + 1 ∧ hireE ⟨g.1, g.2.1, g.2.2.1, g.2.2.2.1, g.2.2.2.2.2.2.2.1⟩ = 0))) (Y := (fun g => fun wy => SlT lgEnc 9 128 wy g.2.2.2.2.1 g.2.2.2.2.2.1 g.2.2.2.2.2.2.2.1)) rfl cb170 rfl rfl (fun wx hm => (exchangeOf_litR kx dx fx tx lx Ax nx cx wx (hm.fact 2 rfl) hj2 (by omega) s90 ra rm rf qa qm qf rs rs (by omega) hz_rs hz_rs).mono fun _ _ ⟨E, k, d, f, t, A, n, c, l, he, hsl, hok, hn, hn0, hg⟩ => ⟨(k, d, f, t, A, n, c, l, E), he, ⟨hok, hn, hn0⟩, hg, hsl⟩) (fun _ => SlT.lasts2 rfl) ?_
      rintro ⟨k2, d2, f2, t2, A2, n2, c2, l2, E2⟩ hb2
      dsimp only at hb2 ⊢
      refine wl_nil ?_
      refine nw 13 1151 (fun _ hm => ⟨hm.bl 2, hm.bl 3, hm.bl 4, hm.bl 5, hm.bl 6, hm.bl 7, hm.bl 8, hm.bl 9, hm.fa 1, hm.fa 2, hm.fa 3, trivial⟩) fun z => ?_
      refine wt 7 13 1279 rfl z (ov_move rfl) ?_
      refine wt 8 13 1535 rfl z (ov_extract rfl rfl) ?_
      refine wt 9 13 2047 rfl z (ov_extract rfl rfl) ?_
      refine wa1 11 rfl ?_
      refine wl_stores (cs' := [.string k2, .string d2, .int .i64 f2, .int .i64 t2, .slice A2 n2 c2]) 0 rz45 rfl rfl rfl rfl rfl rfl rfl rfl ?_
      refine wl_nil ?_
      refine nw 13 4095 (fun _ hm => ⟨hm.bl 2, hm.bl 3, hm.bl 4, hm.bl 5, hm.bl 6, hm.bl 7, hm.bl 8, hm.bl 9, hm.fa 1, hm.fa 2, hm.fa 3, trivial⟩) fun z => ?_
      refine wt 12 13 8191 rfl z (ov_assign rfl) ?_
      refine wa_done (by kernel_rfl) ?_
      exact nx_meet (k2, d2, f2, t2, A2, n2, c2, l2, E2, g92) hb2 ⟨rfl, rfl, rfl, rfl, rfl, rfl, rfl, rfl, rfl, rfl, rfl, trivial⟩ (fun _ hm => hm.pick [2, 3, 4, 5, 6, 7, 8, 9, 0] [] [1, 2, 3, 0] rfl rfl)
     refine wl_alloc zc45 rfl fun g93 => ?_
     refine wl_nil ?_
     refine nw 13 1071 (fun _ hm => ⟨hm.bl 2, hm.bl 3, hm.bl 4, hm.bl 5, hm.bl 6, hm.bl 7, hm.bl 8, hm.bl 9, hm.fa 0, hm.fa 1, hm.fa 2, trivial⟩) fun z => ?_
     refine wa1 4 rfl ?_
     refine wl_got (γ := ByteArray) (val := fun v => .string v) (φ := fun v => v ∈ ([⟨#[118, 49]⟩, ⟨#[118, 50]⟩, ⟨#[118, 51]⟩, ⟨#[118, 52]⟩] : List ByteArray)) rfl cb57 rfl rfl rfl rfl (fun wx hm => (some_any [⟨#[118, 49]⟩, ⟨#[118, 50]⟩, ⟨#[118, 51]⟩, ⟨#[118, 52]⟩] _ _ _ wx B sb _ hm.k (by omega) (by simp) (by simp) (hm.blkI 1 rfl) (hm.neRow 1 rfl rfl))) fun s94 hs94 => ?_
     have zs94 : s94.size ≤ 100 := mem_sz hs94 (by decide)
     refine wl_nil ?_
     refine nw 13 1087 (fun _ hm => ⟨hm.bl 2, hm.bl 3, hm.bl 4, hm.bl 5, hm.bl 6, hm.bl 7, hm.bl 8, hm.bl 9, hm.fa 0, hm.fa 1, hm.fa 2, trivial⟩) fun z => ?_
     refine wa1 6 rfl ?_
     refine wl_callx (γ := ByteArray × ByteArray × Int × Int × Option Addr × Nat × Nat × List Lg × Int) (val := (fun g => .tuple #[.agg #[.string g.1, .string g.2.1, .int .i64 g.2.2.1, .int .i64 g.2.2.2.1, .slice g.2.2.2.2.1 g.2.2.2.2.2.1 g.2.2.2.2.2.2.1], .int .i64 g.2.2.2.2.2.2.2.2])) (φ := (fun g => HrOk g.1 g.2.1 g.2.2.2.2.2.2.2.1 ∧ g.2.2.2.2.2.1 ≤ nx + 1 ∧ (g.2.2.2.2.2.2.2.2 = 0 → g.2.2.2.2.2.1 = nx + 1 ∧ hireE ⟨g.1, g.2.1, g.2.2.1, g.2.2.2.1, g.2.2.2.2.2.2.2.1⟩ = 0))) (Y := (fun g => fun wy => SlT lgEnc 9 128 wy g.2.2.2.2.1 g.2.2.2.2.2.1 g.2.2.2.2.2.2.2.1)) rfl cb170 rfl rfl (fun wx hm => (exchangeOf_litR kx dx fx tx lx Ax nx cx wx (hm.fact 2 rfl) hj2 (by omega) s94 ra rm rf qa qm qf rs rs (by omega) hz_rs hz_rs).mono fun _ _ ⟨E, k, d, f, t, A, n, c, l, he, hsl, hok, hn, hn0, hg⟩ => ⟨(k, d, f, t, A, n, c, l, E), he, ⟨hok, hn, hn0⟩, hg, hsl⟩) (fun _ => SlT.lasts2 rfl) ?_
     rintro ⟨k2, d2, f2, t2, A2, n2, c2, l2, E2⟩ hb2
     dsimp only at hb2 ⊢
     refine wl_nil ?_
     refine nw 13 1151 (fun _ hm => ⟨hm.bl 2, hm.bl 3, hm.bl 4, hm.bl 5, hm.bl 6, hm.bl 7, hm.bl 8, hm.bl 9, hm.fa 1, hm.fa 2, hm.fa 3, trivial⟩) fun z => ?_
     refine wt 7 13 1279 rfl z (ov_move rfl) ?_
     refine wt 8 13 1535 rfl z (ov_extract rfl rfl) ?_
     refine wt 9 13 2047 rfl z (ov_extract rfl rfl) ?_
     refine wa1 11 rfl ?_
     refine wl_stores (cs' := [.string k2, .string d2, .int .i64 f2, .int .i64 t2, .slice A2 n2 c2]) 0 rz45 rfl rfl rfl rfl rfl rfl rfl rfl ?_
     refine wl_nil ?_
     refine nw 13 4095 (fun _ hm => ⟨hm.bl 2, hm.bl 3, hm.bl 4, hm.bl 5, hm.bl 6, hm.bl 7, hm.bl 8, hm.bl 9, hm.fa 1, hm.fa 2, hm.fa 3, trivial⟩) fun z => ?_
     refine wt 12 13 8191 rfl z (ov_assign rfl) ?_
     refine wa_done (by kernel_rfl) ?_
     exact nx_meet (k2, d2, f2, t2, A2, n2, c2, l2, E2, g93) hb2 ⟨rfl, rfl, rfl, rfl, rfl, rfl, rfl, rfl, rfl, rfl, rfl, trivial⟩ (fun _ hm => hm.pick [2, 3, 4, 5, 6, 7, 8, 9, 0] [] [1, 2, 3, 0] rfl rfl)
    refine wl_alloc zc45 rfl fun g95 => ?_
    refine wl_nil ?_
    refine nw 13 1063 (fun _ hm => ⟨hm.bl 1, hm.bl 2, hm.bl 3, hm.bl 4, hm.bl 5, hm.bl 6, hm.bl 7, hm.bl 8, hm.fa 0, hm.fa 1, hm.fa 2, trivial⟩) fun z => ?_
    refine wa1 3 rfl ?_
    refine wl_buildSlice (e := 9) (cs := [.string ⟨#[118, 49]⟩, .string ⟨#[118, 50]⟩, .string ⟨#[118, 51]⟩, .string ⟨#[118, 52]⟩]) rfl (by kernel_rfl) rfl fun g96 => ?_
    refine wl_nil ?_
    refine nw 13 1071 (fun _ hm => ⟨hm.bl 2, hm.bl 3, hm.bl 4, hm.bl 5, hm.bl 6, hm.bl 7, hm.bl 8, hm.bl 9, hm.fa 0, hm.fa 1, hm.fa 2, trivial⟩) fun z => ?_
    refine wa1 4 rfl ?_
    refine wl_got (γ := ByteArray) (val := fun v => .string v) (φ := fun v => v ∈ ([⟨#[118, 49]⟩, ⟨#[118, 50]⟩, ⟨#[118, 51]⟩, ⟨#[118, 52]⟩] : List ByteArray)) rfl cb57 rfl rfl rfl rfl (fun wx hm => (some_any [⟨#[118, 49]⟩, ⟨#[118, 50]⟩, ⟨#[118, 51]⟩, ⟨#[118, 52]⟩] _ _ _ wx B sb _ hm.k (by omega) (by simp) (by simp) (hm.blkI 0 rfl) (hm.neRow 0 rfl rfl))) fun s97 hs97 => ?_
    have zs97 : s97.size ≤ 100 := mem_sz hs97 (by decide)
    refine wl_nil ?_
    refine nw 13 1087 (fun _ hm => ⟨hm.bl 2, hm.bl 3, hm.bl 4, hm.bl 5, hm.bl 6, hm.bl 7, hm.bl 8, hm.bl 9, hm.fa 0, hm.fa 1, hm.fa 2, trivial⟩) fun z => ?_
    refine wa1 6 rfl ?_
    refine wl_callx (γ := ByteArray × ByteArray × Int × Int × Option Addr × Nat × Nat × List Lg × Int) (val := (fun g => .tuple #[.agg #[.string g.1, .string g.2.1, .int .i64 g.2.2.1, .int .i64 g.2.2.2.1, .slice g.2.2.2.2.1 g.2.2.2.2.2.1 g.2.2.2.2.2.2.1], .int .i64 g.2.2.2.2.2.2.2.2])) (φ := (fun g => HrOk g.1 g.2.1 g.2.2.2.2.2.2.2.1 ∧ g.2.2.2.2.2.1 ≤ nx + 1 ∧ (g.2.2.2.2.2.2.2.2 = 0 → g.2.2.2.2.2.1 = nx + 1 ∧ hireE ⟨g.1, g.2.1, g.2.2.1, g.2.2.2.1, g.2.2.2.2.2.2.2.1⟩ = 0))) (Y := (fun g => fun wy => SlT lgEnc 9 128 wy g.2.2.2.2.1 g.2.2.2.2.2.1 g.2.2.2.2.2.2.2.1)) rfl cb170 rfl rfl (fun wx hm => (exchangeOf_litR kx dx fx tx lx Ax nx cx wx (hm.fact 2 rfl) hj2 (by omega) s97 ra rm rf qa qm qf rs rs (by omega) hz_rs hz_rs).mono fun _ _ ⟨E, k, d, f, t, A, n, c, l, he, hsl, hok, hn, hn0, hg⟩ => ⟨(k, d, f, t, A, n, c, l, E), he, ⟨hok, hn, hn0⟩, hg, hsl⟩) (fun _ => SlT.lasts2 rfl) ?_
    rintro ⟨k2, d2, f2, t2, A2, n2, c2, l2, E2⟩ hb2
    dsimp only at hb2 ⊢
    refine wl_nil ?_
    refine nw 13 1151 (fun _ hm => ⟨hm.bl 2, hm.bl 3, hm.bl 4, hm.bl 5, hm.bl 6, hm.bl 7, hm.bl 8, hm.bl 9, hm.fa 1, hm.fa 2, hm.fa 3, trivial⟩) fun z => ?_
    refine wt 7 13 1279 rfl z (ov_move rfl) ?_
    refine wt 8 13 1535 rfl z (ov_extract rfl rfl) ?_
    refine wt 9 13 2047 rfl z (ov_extract rfl rfl) ?_
    refine wa1 11 rfl ?_
    refine wl_stores (cs' := [.string k2, .string d2, .int .i64 f2, .int .i64 t2, .slice A2 n2 c2]) 1 rz45 rfl rfl rfl rfl rfl rfl rfl rfl ?_
    refine wl_nil ?_
    refine nw 13 4095 (fun _ hm => ⟨hm.bl 2, hm.bl 3, hm.bl 4, hm.bl 5, hm.bl 6, hm.bl 7, hm.bl 8, hm.bl 9, hm.fa 1, hm.fa 2, hm.fa 3, trivial⟩) fun z => ?_
    refine wt 12 13 8191 rfl z (ov_assign rfl) ?_
    refine wa_done (by kernel_rfl) ?_
    exact nx_meet (k2, d2, f2, t2, A2, n2, c2, l2, E2, g95) hb2 ⟨rfl, rfl, rfl, rfl, rfl, rfl, rfl, rfl, rfl, rfl, rfl, trivial⟩ (fun _ hm => hm.pick [2, 3, 4, 5, 6, 7, 8, 9, 1] [] [1, 2, 3, 0] rfl rfl)
   rintro ⟨k2, d2, f2, t2, A2, n2, c2, l2, E2, gi⟩ hinv
   replace hinv : HrOk k2 d2 l2 ∧ n2 ≤ nx + 1 ∧ (E2 = 0 → n2 = nx + 1 ∧ hireE ⟨k2, d2, f2, t2, l2⟩ = 0) := hinv
   dsimp only
   refine sr_ ?_
   obtain ⟨hok2, hn2, hne2⟩ := hinv
   refine mv_ rfl (wl_ov (ov_eql rfl rfl) rfl (nn_ ?_))
   refine gw_cond rfl (fun hh => ?_) (fun hh => ?_)
   ·have hE2 : E2 = 0 := by simpa using hh
    clear hh
    refine gw_region ?_
    refine wl_ov (ov_loads rz45 rfl (fun _ hm => hm.blkI 8 rfl) rfl rfl) rfl ?_
    refine wl_stores (cs' := [.string k2, .string d2, .int .i64 f2, .int .i64 t2, .slice A2 n2 c2]) 7 rz45 rfl rfl rfl rfl rfl rfl rfl rfl ?_
    refine wl_nil (nx_blk_nrm (nx_then (gw_region (ad_ rfl rfl (mv_ rfl (wl_nil ?_))))))
    exact nx_round (j + 1, at1, k2, d2, f2, t2, A2, n2, c2, l2) ⟨by dsimp only; omega, by dsimp only; omega, hok2, by dsimp only; have := (hne2 hE2).1; omega, by dsimp only; omega, (hne2 hE2).2⟩ (by dsimp only; omega) ⟨rfl, rfl, rfl, rfl, rfl, rfl, rfl, rfl, (some_int (by omega)), trivial⟩ (fun _ hm => (hm.more rfl (by first | omega | (dsimp only; omega))).pick [3, 4, 5, 6, 7] [] [3] rfl rfl)
   have hE2 : ¬ (E2 = 0) := by simpa using hh
   clear hh
   refine gw_skip (nx_blk_nrm (nx_then (gw_region (ad_ rfl rfl (mv_ rfl (wl_nil ?_))))))
   exact nx_round (j + 1, at1, kx, dx, fx, tx, Ax, nx, cx, lx) ⟨by dsimp only; omega, by dsimp only; omega, hj2, by dsimp only; omega, by dsimp only; omega, hj5⟩ (by dsimp only; omega) ⟨rfl, rfl, rfl, rfl, rfl, rfl, rfl, rfl, (some_int (by omega)), trivial⟩ (fun _ hm => (hm.more rfl (by first | omega | (dsimp only; omega))).pick [3, 4, 5, 6, 7] [] [2] rfl rfl)
  have hj : ¬ (((j : Nat) : Int) < v82) := by simpa using hh
  clear hh
  refine gw_exit ?_
  refine nx_then_exit (nx_then_exit ?_)
  refine nx_blk_here ?_
  refine nx_then (gw_seq (sr_ (mv_ rfl ?_)))
  refine wl_got (γ := Bool) (val := fun v => .bool v) (φ := fun v => True) rfl cb25 rfl rfl rfl rfl (fun wx hm => ((flip_any _ wx B sb _ hm.k (by omega) (by omega) (by omega)).mono fun _ _ ⟨v, he, hS, hg⟩ => ⟨v, trivial, he, hS, hg⟩)) fun f98 _ => ?_
  refine wl_ov (ov_un_not rfl) rfl (nn_ ?_)
  refine gw_cond rfl (fun hh => ?_) (fun hh => ?_)
  ·have hfl : f98 = false := by simpa using hh
   clear hh
   refine sr_ (mv_ rfl (mv_ rfl ?_))
   refine wl_buildSlice (e := 3) (cs := [.int .i64 1, .int .i64 50, .int .i64 100, .int .i64 1440, .int .i64 1470, .int .i64 1471, .int .i64 1500, .int .i64 3000]) rfl (by kernel_rfl) rfl fun g99 => ?_
   refine wl_got (γ := Int) (val := fun v => .int .i64 v) (φ := fun v => v ∈ ([1, 50, 100, 1440, 1470, 1471, 1500, 3000] : List Int)) rfl cb34 rfl rfl rfl rfl (fun wx hm => (pick_any [1, 50, 100, 1440, 1470, 1471, 1500, 3000] _ _ _ wx B sb _ hm.k (by omega) (by simp) (by simp) (hm.blkI 0 rfl) (hm.neRow 0 rfl rfl))) fun v100 hv100 => ?_
   have bv100 : 1 ≤ v100 ∧ v100 ≤ 3000 := mem_rng hv100 (by decide)
   have bv1000 := bv100.1
   have bv1001 := bv100.2
   clear bv100
   refine ad_ rfl rfl (sg_ rfl (nn_ ?_))
   obtain ⟨at2, hat2⟩ : ∃ z : Int, z = mo + v100 := ⟨_, rfl⟩
   have hat2b : 0 ≤ at2 ∧ at2 ≤ 6000000 := by omega
   refine gw_set 10 (v' := .int .i64 at2) rfl (congrArg (Value.int .i64) hat2.symm) ?_
   refine gw_cut (γ := ByteArray × ByteArray × Int × Int × Option Addr × Nat × Nat × List Lg × Int × Nat) (I := (fun g => HrOk g.1 g.2.1 g.2.2.2.2.2.2.2.1 ∧ g.2.2.2.2.2.1 ≤ nx ∧ (g.2.2.2.2.2.2.2.2.1 = 0 → g.2.2.2.2.2.1 = nx ∧ hireE ⟨g.1, g.2.1, g.2.2.1, g.2.2.2.1, g.2.2.2.2.2.2.2.1⟩ = 0))) (S' := (fun g => [(0, .pointer (some ⟨sb, 0, none⟩)), (1, .string key), (2, .int .i64 fr), (6, .pointer (some ⟨g1, 0, none⟩)), (8, .pointer (some ⟨gh, 0, none⟩)), (15, .pointer (some ⟨g.2.2.2.2.2.2.2.2.2, 0, none⟩)), (16, .int .i64 g.2.2.2.2.2.2.2.2.1), (19, .int .i64 ((i : Nat) : Int))])) (K' := (fun g => fun w => Strm 25 w B sb (m + 200 * i + 1 + 1 + 1 + 10 + 1 + 40 * j + 1 + 1 + 10))) (L' := (fun g => [(g99, 3, [.int .i64 1, .int .i64 50, .int .i64 100, .int .i64 1440, .int .i64 1470, .int .i64 1471, .int .i64 1500, .int .i64 3000]), (g81, 3, [.int .i64 0, .int .i64 0, .int .i64 1, .int .i64 2]), (g4, 42, [.int .i64 fr, .int .i64 (fr + v3)]), (g2, 3, [.int .i64 60, .int .i64 100, .int .i64 1440, .int .i64 2000, .int .i64 3000]), (g1, 45, [.string ⟨#[]⟩, .string ⟨#[]⟩, .int .i64 0, .int .i64 0, .slice none 0 0]), (gh, 45, [.string kx, .string dx, .int .i64 fx, .int .i64 tx, .slice Ax nx cx]), (g.2.2.2.2.2.2.2.2.2, 45, [.string g.1, .string g.2.1, .int .i64 g.2.2.1, .int .i64 g.2.2.2.1, .slice g.2.2.2.2.1 g.2.2.2.2.2.1 g.2.2.2.2.2.2.1])])) (O' := (fun g => [])) (X' := (fun g => [fun wy => SlT lgEnc 9 128 wy Ax nx lx, fun wy => SlT lgEnc 9 128 wy g.2.2.2.2.1 g.2.2.2.2.2.1 g.2.2.2.2.2.2.2.1])) ?_ ?_
   ·refine gd (fun wz => Blk wz g99 3 [.int .i64 1, .int .i64 50, .int .i64 100, .int .i64 1440, .int .i64 1470, .int .i64 1471, .int .i64 1500, .int .i64 3000] ∧ Blk wz g81 3 [.int .i64 0, .int .i64 0, .int .i64 1, .int .i64 2] ∧ Blk wz g4 42 [.int .i64 fr, .int .i64 (fr + v3)] ∧ Blk wz g2 3 [.int .i64 60, .int .i64 100, .int .i64 1440, .int .i64 2000, .int .i64 3000] ∧ Blk wz g1 45 [.string ⟨#[]⟩, .string ⟨#[]⟩, .int .i64 0, .int .i64 0, .slice none 0 0] ∧ Blk wz gh 45 [.string kx, .string dx, .int .i64 fx, .int .i64 tx, .slice Ax nx cx] ∧ (fun wy => SlT lgEnc 9 128 wy Ax nx lx) wz ∧ True) mixed (fun _ hm => ⟨hm.bl 0, hm.bl 1, hm.bl 2, hm.bl 3, hm.bl 4, hm.bl 5, hm.fa 0, trivial⟩) fun z => ?_
    refine wt 0 11 1 rfl z (ov_loads rz45 rfl (fun _ hm => hm.2.2.2.2.2.1) rfl rfl) ?_
    refine wt 1 11 3 rfl z (ov_move rfl) ?_
    refine wt 2 11 7 rfl z (ov_move rfl) ?_
    refine wa_all [3, 8] (by kernel_rfl) rfl ⟨⟨_, rfl, ?_⟩, ⟨_, rfl, ?_⟩, trivial⟩
    ·refine wl_calls (γ := Int × ByteArray × Int × Int) (val := (fun g => .agg #[.int .i64 g.1, .string g.2.1, .int .i64 g.2.2.1, .int .i64 g.2.2.2])) (φ := (fun g => RdOk ⟨g.1, g.2.1, g.2.2.1, g.2.2.2⟩)) (Y := (fun g => fun _ => True)) (m' := m + 200 * i + 1 + 1 + 1 + 10 + 1 + 40 * j + 1 + 1 + 10) rfl cb79 rfl rfl rfl rfl (fun wx hm => (greading_any at2 wx B sb _ hm.k (by omega) (by omega) (by omega)).mono fun _ _ ⟨r, hok, he, hS, hg⟩ => ⟨(r.at_, r.st, r.meter, r.fuel), he, hok, hS, hg, trivial⟩) (fun _ => Lasts2.true_) ?_
     rintro ⟨ra, rs, rm, rf⟩ hr_ra
     dsimp only at hr_ra ⊢
     have hz_rs : rs.size ≤ 1000000 := hr_ra
     refine wl_nil ?_
     refine nw 11 15 (fun _ hm => ⟨hm.bl 0, hm.bl 1, hm.bl 2, hm.bl 3, hm.bl 4, hm.bl 5, hm.fa 1, trivial⟩) fun z => ?_
     refine wa_all [4, 8] (by kernel_rfl) rfl ⟨⟨_, rfl, ?_⟩, ⟨_, rfl, ?_⟩, trivial⟩
     ·refine wl_callx (γ := ByteArray × ByteArray × Int × Int × Option Addr × Nat × Nat × List Lg × Int) (val := (fun g => .tuple #[.agg #[.string g.1, .string g.2.1, .int .i64 g.2.2.1, .int .i64 g.2.2.2.1, .slice g.2.2.2.2.1 g.2.2.2.2.2.1 g.2.2.2.2.2.2.1], .int .i64 g.2.2.2.2.2.2.2.2])) (φ := (fun g => HrOk g.1 g.2.1 g.2.2.2.2.2.2.2.1 ∧ g.2.2.2.2.2.1 ≤ nx ∧ (g.2.2.2.2.2.2.2.2 = 0 → g.2.2.2.2.2.1 = nx ∧ hireE ⟨g.1, g.2.1, g.2.2.1, g.2.2.2.1, g.2.2.2.2.2.2.2.1⟩ = 0))) (Y := (fun g => fun wy => SlT lgEnc 9 128 wy g.2.2.2.2.1 g.2.2.2.2.2.1 g.2.2.2.2.2.2.2.1)) rfl cb171 rfl rfl (fun wx hm => (closeOf_genR kx dx fx tx lx Ax nx cx wx (hm.fact 1 rfl) hj2 (by omega) ⟨ra, rs, rm, rf⟩ hr_ra).mono fun _ _ ⟨E, k, d, f, t, A, n, c, l, he, hsl, hok, hn, hn0, hg⟩ => ⟨(k, d, f, t, A, n, c, l, E), he, ⟨hok, hn, hn0⟩, hg, hsl⟩) (fun _ => SlT.lasts2 rfl) ?_
      rintro ⟨k3, d3, f3, t3, A3, n3, c3, l3, E3⟩ hb3
      dsimp only at hb3 ⊢
      refine wl_nil ?_
      refine nw 11 31 (fun _ hm => ⟨hm.bl 0, hm.bl 1, hm.bl 2, hm.bl 3, hm.bl 4, hm.bl 5, hm.fa 2, trivial⟩) fun z => ?_
      refine wt 5 11 63 rfl z (ov_move rfl) ?_
      refine wt 6 11 127 rfl z (ov_extract rfl rfl) ?_
      refine wt 7 11 255 rfl z (ov_extract rfl rfl) ?_
      refine wa1 8 rfl ?_
      refine wl_alloc zc45 rfl fun g102 => ?_
      refine wl_nil ?_
      refine nw 11 511 (fun _ hm => ⟨hm.bl 1, hm.bl 2, hm.bl 3, hm.bl 4, hm.bl 5, hm.bl 6, hm.fa 2, trivial⟩) fun z => ?_
      refine wa1 9 rfl ?_
      refine wl_stores (cs' := [.string k3, .string d3, .int .i64 f3, .int .i64 t3, .slice A3 n3 c3]) 0 rz45 rfl rfl rfl rfl rfl rfl rfl rfl ?_
      refine wl_nil ?_
      refine nw 11 1023 (fun _ hm => ⟨hm.bl 1, hm.bl 2, hm.bl 3, hm.bl 4, hm.bl 5, hm.bl 6, hm.fa 2, trivial⟩) fun z => ?_
      refine wt 10 11 2047 rfl z (ov_assign rfl) ?_
      refine wa_done (by kernel_rfl) ?_
      exact nx_meet (k3, d3, f3, t3, A3, n3, c3, l3, E3, g102) hb3 ⟨rfl, rfl, rfl, rfl, rfl, rfl, rfl, rfl, trivial⟩ (fun _ hm => hm.pick [1, 2, 3, 4, 5, 6, 0] [] [2, 0] rfl rfl)
     refine wl_alloc zc45 rfl fun g103 => ?_
     refine wl_nil ?_
     refine nw 11 271 (fun _ hm => ⟨hm.bl 1, hm.bl 2, hm.bl 3, hm.bl 4, hm.bl 5, hm.bl 6, hm.fa 1, trivial⟩) fun z => ?_
     refine wa1 4 rfl ?_
     refine wl_callx (γ := ByteArray × ByteArray × Int × Int × Option Addr × Nat × Nat × List Lg × Int) (val := (fun g => .tuple #[.agg #[.string g.1, .string g.2.1, .int .i64 g.2.2.1, .int .i64 g.2.2.2.1, .slice g.2.2.2.2.1 g.2.2.2.2.2.1 g.2.2.2.2.2.2.1], .int .i64 g.2.2.2.2.2.2.2.2])) (φ := (fun g => HrOk g.1 g.2.1 g.2.2.2.2.2.2.2.1 ∧ g.2.2.2.2.2.1 ≤ nx ∧ (g.2.2.2.2.2.2.2.2 = 0 → g.2.2.2.2.2.1 = nx ∧ hireE ⟨g.1, g.2.1, g.2.2.1, g.2.2.2.1, g.2.2.2.2.2.2.2.1⟩ = 0))) (Y := (fun g => fun wy => SlT lgEnc 9 128 wy g.2.2.2.2.1 g.2.2.2.2.2.1 g.2.2.2.2.2.2.2.1)) rfl cb171 rfl rfl (fun wx hm => (closeOf_genR kx dx fx tx lx Ax nx cx wx (hm.fact 1 rfl) hj2 (by omega) ⟨ra, rs, rm, rf⟩ hr_ra).mono fun _ _ ⟨E, k, d, f, t, A, n, c, l, he, hsl, hok, hn, hn0, hg⟩ => ⟨(k, d, f, t, A, n, c, l, E), he, ⟨hok, hn, hn0⟩, hg, hsl⟩) (fun _ => SlT.lasts2 rfl) ?_
     rintro ⟨k3, d3, f3, t3, A3, n3, c3, l3, E3⟩ hb3
     dsimp only at hb3 ⊢
     refine wl_nil ?_
     refine nw 11 287 (fun _ hm => ⟨hm.bl 1, hm.bl 2, hm.bl 3, hm.bl 4, hm.bl 5, hm.bl 6, hm.fa 2, trivial⟩) fun z => ?_
     refine wt 5 11 319 rfl z (ov_move rfl) ?_
     refine wt 6 11 383 rfl z (ov_extract rfl rfl) ?_
     refine wt 7 11 511 rfl z (ov_extract rfl rfl) ?_
     refine wa1 9 rfl ?_
     refine wl_stores (cs' := [.string k3, .string d3, .int .i64 f3, .int .i64 t3, .slice A3 n3 c3]) 0 rz45 rfl rfl rfl rfl rfl rfl rfl rfl ?_
     refine wl_nil ?_
     refine nw 11 1023 (fun _ hm => ⟨hm.bl 1, hm.bl 2, hm.bl 3, hm.bl 4, hm.bl 5, hm.bl 6, hm.fa 2, trivial⟩) fun z => ?_
     refine wt 10 11 2047 rfl z (ov_assign rfl) ?_
     refine wa_done (by kernel_rfl) ?_
     exact nx_meet (k3, d3, f3, t3, A3, n3, c3, l3, E3, g103) hb3 ⟨rfl, rfl, rfl, rfl, rfl, rfl, rfl, rfl, trivial⟩ (fun _ hm => hm.pick [1, 2, 3, 4, 5, 6, 0] [] [2, 0] rfl rfl)
    refine wl_alloc zc45 rfl fun g104 => ?_
    refine wl_nil ?_
    refine nw 11 263 (fun _ hm => ⟨hm.bl 1, hm.bl 2, hm.bl 3, hm.bl 4, hm.bl 5, hm.bl 6, hm.fa 0, trivial⟩) fun z => ?_
    refine wa1 3 rfl ?_
    refine wl_calls (γ := Int × ByteArray × Int × Int) (val := (fun g => .agg #[.int .i64 g.1, .string g.2.1, .int .i64 g.2.2.1, .int .i64 g.2.2.2])) (φ := (fun g => RdOk ⟨g.1, g.2.1, g.2.2.1, g.2.2.2⟩)) (Y := (fun g => fun _ => True)) (m' := m + 200 * i + 1 + 1 + 1 + 10 + 1 + 40 * j + 1 + 1 + 10) rfl cb79 rfl rfl rfl rfl (fun wx hm => (greading_any at2 wx B sb _ hm.k (by omega) (by omega) (by omega)).mono fun _ _ ⟨r, hok, he, hS, hg⟩ => ⟨(r.at_, r.st, r.meter, r.fuel), he, hok, hS, hg, trivial⟩) (fun _ => Lasts2.true_) ?_
    rintro ⟨ra, rs, rm, rf⟩ hr_ra
    dsimp only at hr_ra ⊢
    have hz_rs : rs.size ≤ 1000000 := hr_ra
    refine wl_nil ?_
    refine nw 11 271 (fun _ hm => ⟨hm.bl 1, hm.bl 2, hm.bl 3, hm.bl 4, hm.bl 5, hm.bl 6, hm.fa 1, trivial⟩) fun z => ?_
    refine wa1 4 rfl ?_
    refine wl_callx (γ := ByteArray × ByteArray × Int × Int × Option Addr × Nat × Nat × List Lg × Int) (val := (fun g => .tuple #[.agg #[.string g.1, .string g.2.1, .int .i64 g.2.2.1, .int .i64 g.2.2.2.1, .slice g.2.2.2.2.1 g.2.2.2.2.2.1 g.2.2.2.2.2.2.1], .int .i64 g.2.2.2.2.2.2.2.2])) (φ := (fun g => HrOk g.1 g.2.1 g.2.2.2.2.2.2.2.1 ∧ g.2.2.2.2.2.1 ≤ nx ∧ (g.2.2.2.2.2.2.2.2 = 0 → g.2.2.2.2.2.1 = nx ∧ hireE ⟨g.1, g.2.1, g.2.2.1, g.2.2.2.1, g.2.2.2.2.2.2.2.1⟩ = 0))) (Y := (fun g => fun wy => SlT lgEnc 9 128 wy g.2.2.2.2.1 g.2.2.2.2.2.1 g.2.2.2.2.2.2.2.1)) rfl cb171 rfl rfl (fun wx hm => (closeOf_genR kx dx fx tx lx Ax nx cx wx (hm.fact 1 rfl) hj2 (by omega) ⟨ra, rs, rm, rf⟩ hr_ra).mono fun _ _ ⟨E, k, d, f, t, A, n, c, l, he, hsl, hok, hn, hn0, hg⟩ => ⟨(k, d, f, t, A, n, c, l, E), he, ⟨hok, hn, hn0⟩, hg, hsl⟩) (fun _ => SlT.lasts2 rfl) ?_
    rintro ⟨k3, d3, f3, t3, A3, n3, c3, l3, E3⟩ hb3
    dsimp only at hb3 ⊢
    refine wl_nil ?_
    refine nw 11 287 (fun _ hm => ⟨hm.bl 1, hm.bl 2, hm.bl 3, hm.bl 4, hm.bl 5, hm.bl 6, hm.fa 2, trivial⟩) fun z => ?_
    refine wt 5 11 319 rfl z (ov_move rfl) ?_
    refine wt 6 11 383 rfl z (ov_extract rfl rfl) ?_
    refine wt 7 11 511 rfl z (ov_extract rfl rfl) ?_
    refine wa1 9 rfl ?_
    refine wl_stores (cs' := [.string k3, .string d3, .int .i64 f3, .int .i64 t3, .slice A3 n3 c3]) 0 rz45 rfl rfl rfl rfl rfl rfl rfl rfl ?_
    refine wl_nil ?_
    refine nw 11 1023 (fun _ hm => ⟨hm.bl 1, hm.bl 2, hm.bl 3, hm.bl 4, hm.bl 5, hm.bl 6, hm.fa 2, trivial⟩) fun z => ?_
    refine wt 10 11 2047 rfl z (ov_assign rfl) ?_
    refine wa_done (by kernel_rfl) ?_
    exact nx_meet (k3, d3, f3, t3, A3, n3, c3, l3, E3, g104) hb3 ⟨rfl, rfl, rfl, rfl, rfl, rfl, rfl, rfl, trivial⟩ (fun _ hm => hm.pick [1, 2, 3, 4, 5, 6, 0] [] [2, 0] rfl rfl)
   rintro ⟨k3, d3, f3, t3, A3, n3, c3, l3, E3, gj⟩ hinv
   replace hinv : HrOk k3 d3 l3 ∧ n3 ≤ nx ∧ (E3 = 0 → n3 = nx ∧ hireE ⟨k3, d3, f3, t3, l3⟩ = 0) := hinv
   dsimp only
   refine sr_ ?_
   obtain ⟨hok3, hn3, hne3⟩ := hinv
   refine mv_ rfl (wl_ov (ov_eql rfl rfl) rfl (nn_ ?_))
   refine gw_cond rfl (fun hh => ?_) (fun hh => ?_)
   ·have hE3 : E3 = 0 := by simpa using hh
    clear hh
    refine gw_region ?_
    refine wl_ov (ov_loads rz45 rfl (fun _ hm => hm.blkI 6 rfl) rfl rfl) rfl ?_
    refine wl_stores (cs' := [.string k3, .string d3, .int .i64 f3, .int .i64 t3, .slice A3 n3 c3]) 5 rz45 rfl rfl rfl rfl rfl rfl rfl rfl ?_
    refine nn_ (sr_ ?_)
    refine wl_ov (ov_loads rz45 rfl (fun _ hm => hm.blkI 5 rfl) rfl rfl) rfl ?_
    refine wl_stores (cs' := [.string k3, .string d3, .int .i64 f3, .int .i64 t3, .slice A3 n3 c3]) 4 rz45 rfl rfl rfl rfl rfl rfl rfl rfl ?_
    refine nn_ ?_
    refine gw_ret ?_
    refine nx_blk_ret (nx_then_ret (nx_then_ret (nx_blk_ret (nx_then_ret ?_))))
    obtain ⟨hn4, hE4⟩ := hne3 hE3
    refine nx_retc 4 rfl rz45 rfl rfl rfl fun wx hm => ?_
    exact ⟨k3, d3, f3, t3, A3, n3, c3, l3, rfl, (hm.fact 1 rfl), hok3, by omega, by omega, hE4, hm.k.more (by omega), hm.g⟩
   have hE3 : ¬ (E3 = 0) := by simpa using hh
   clear hh
   refine gw_skip (nx_then (sr_ ?_))
   refine wl_ov (ov_loads rz45 rfl (fun _ hm => hm.blkI 5 rfl) rfl rfl) rfl ?_
   refine wl_stores (cs' := [.string kx, .string dx, .int .i64 fx, .int .i64 tx, .slice Ax nx cx]) 4 rz45 rfl rfl rfl rfl rfl rfl rfl rfl ?_
   refine nn_ ?_
   refine gw_ret ?_
   refine nx_blk_ret (nx_then_ret (nx_then_ret (nx_blk_ret (nx_then_ret ?_))))
   refine nx_retc 4 rfl rz45 rfl rfl rfl fun wx hm => ?_
   exact ⟨kx, dx, fx, tx, Ax, nx, cx, lx, rfl, (hm.fact 0 rfl), hj2, by omega, by omega, hj5, hm.k.more (by omega), hm.g⟩
  have hfl : f98 = true := by simpa using hh
  clear hh
  refine gw_skip (nx_then (sr_ ?_))
  refine wl_ov (ov_loads rz45 rfl (fun _ hm => hm.blkI 4 rfl) rfl rfl) rfl ?_
  refine wl_stores (cs' := [.string kx, .string dx, .int .i64 fx, .int .i64 tx, .slice Ax nx cx]) 3 rz45 rfl rfl rfl rfl rfl rfl rfl rfl ?_
  refine nn_ ?_
  refine gw_ret ?_
  refine nx_blk_ret (nx_then_ret (nx_then_ret (nx_blk_ret (nx_then_ret ?_))))
  refine nx_retc 3 rfl rz45 rfl rfl rfl fun wx hm => ?_
  exact ⟨kx, dx, fx, tx, Ax, nx, cx, lx, rfl, (hm.fact 0 rfl), hj2, by omega, by omega, hj5, hm.k.more (by omega), hm.g⟩
 have hi : ¬ (((i : Nat) : Int) < 6) := by simpa using hh
 clear hh
 refine gw_exit ?_
 refine nx_then_exit (nx_then_exit ?_)
 refine nx_blk_here ?_
 refine nx_then (sr_ (mv_ rfl (mv_ rfl (mv_ rfl (ad_ rfl rfl ?_)))))
 refine wl_ov (ov_build (cs := [.int .i64 fr, .int .i64 (fr + 60)]) rfl (by kernel_rfl)) rfl ?_
 refine mv_ rfl ?_
 refine wl_ov (ov_build (cs := [.int .i64 fr, .string ⟨#[115, 49]⟩, .int .i64 0, .int .i64 0]) rfl (by kernel_rfl)) rfl ?_
 refine wl_callx (γ := ByteArray × ByteArray × Int × Int × Option Addr × Nat × Nat × List Lg) (val := (fun g => .tuple #[.agg #[.string g.1, .string g.2.1, .int .i64 g.2.2.1, .int .i64 g.2.2.2.1, .slice g.2.2.2.2.1 g.2.2.2.2.2.1 g.2.2.2.2.2.2.1], .int .i64 0])) (φ := (fun g => HrOk g.1 g.2.1 g.2.2.2.2.2.2.2 ∧ g.2.2.2.2.2.1 ≤ 1 ∧ (0 = 0 → g.2.2.2.2.2.1 = 1 ∧ hireE ⟨g.1, g.2.1, g.2.2.1, g.2.2.2.1, g.2.2.2.2.2.2.2⟩ = 0))) (Y := (fun g => fun wy => SlT lgEnc 9 128 wy g.2.2.2.2.1 g.2.2.2.2.2.1 g.2.2.2.2.2.2.2)) rfl cb169 rfl rfl (fun wx hm => ((by have h := startOf_litR key ⟨#[97, 110, 110]⟩ fr (fr + 60) ⟨#[118, 49]⟩ fr 0 0 ⟨#[115, 49]⟩ wx (by omega) (by decide) (by decide) (by decide); rw [fall_right hkb hf0 hf1] at h; exact h : Calls _ _ _ wx (HireBackR wx 1 0))).mono fun _ _ ⟨k, d, f, t, A, n, c, l, he, hsl, hok, hn, hn0, hg⟩ => ⟨(k, d, f, t, A, n, c, l), he, ⟨hok, hn, hn0⟩, hg, hsl⟩) (fun _ => SlT.lasts2 rfl) ?_
 rintro ⟨k9, d9, f9, t9, A9, n9, c9, l9⟩ hb9
 dsimp only at hb9 ⊢
 obtain ⟨hn9, hE9⟩ := hb9.2.2 rfl
 refine mv_ rfl (wl_ov (ov_extract rfl rfl) rfl (wl_ov (ov_extract rfl rfl) rfl ?_))
 refine wl_alloc zc45 rfl fun g106 => ?_
 refine wl_stores (cs' := [.string k9, .string d9, .int .i64 f9, .int .i64 t9, .slice A9 n9 c9]) 0 rz45 rfl rfl rfl rfl rfl rfl rfl rfl ?_
 refine sg_ rfl (nn_ (sr_ ?_))
 refine wl_ov (ov_loads rz45 rfl (fun _ hm => hm.blkI 0 rfl) rfl rfl) rfl ?_
 refine wl_stores (cs' := [.string k9, .string d9, .int .i64 f9, .int .i64 t9, .slice A9 n9 c9]) 1 rz45 rfl rfl rfl rfl rfl rfl rfl rfl ?_
 refine nn_ ?_
 refine gw_ret ?_
 refine nx_retc 1 rfl rz45 rfl rfl rfl fun wx hm => ?_
 exact ⟨k9, d9, f9, t9, A9, n9, c9, l9, rfl, (hm.fact 0 rfl), hb9.1, by omega, by omega, hE9, hm.k.more (by omega), hm.g⟩
end Go.Proofs.YtnpcbfllnkiopaaGreatDoor
namespace Go.Proofs.YtnpcbfllnkiopaaGreatDoor
open Go.RowKit
section
variable {Tt : List TypeId} {w0 w : World} {B sb m : Nat} {L : List (Nat × TypeId × List Value)} {X : World → Prop}
/-- A value is handed back, and all is kept. -/
def KInt (Tt : List TypeId) (w0 : World) (B sb m : Nat) (L : List (Nat × TypeId × List Value)) (X : World → Prop) (P : Int → Prop) (e : Ending) (w' : World) : Prop := ∃ v : Int, P v ∧ e = .returned (.int .i64 v) ∧ Kept 25 Tt w0 B sb m L X w'
def KStr (Tt : List TypeId) (w0 : World) (B sb m : Nat) (L : List (Nat × TypeId × List Value)) (X : World → Prop) (P : ByteArray → Prop) (e : Ending) (w' : World) : Prop := ∃ v : ByteArray, P v ∧ e = .returned (.string v) ∧ Kept 25 Tt w0 B sb m L X w'
def KBool (Tt : List TypeId) (w0 : World) (B sb m : Nat) (L : List (Nat × TypeId × List Value)) (X : World → Prop) (e : Ending) (w' : World) : Prop := ∃ v : Bool, e = .returned (.bool v) ∧ Kept 25 Tt w0 B sb m L X w'
theorem pick_kept (I : Kept 25 Tt w0 B sb m L X w) (xs : List Int) {g n c : Nat} {T : TypeId} {cs : List Value} (hmem : (g, T, cs) ∈ L) (hm : m ≤ 1000000000000) (hcs : xs.map (Value.int .i64) = cs) (hn : xs.length = n) (hx : 0 < n) (hx2 : n ≤ 1000000) :
    Calls Tryz.prog 34 #[.pointer (some ⟨sb, 0, none⟩), .slice (some ⟨g, 0, none⟩) n c] w (KInt Tt w0 B sb (m + 1) L X (· ∈ xs)) :=
  by
  subst hcs; subst hn
  exact (pick_any xs g c T w B sb m I.s hm hx hx2 (I.blk hmem) (I.ne hmem)).mono fun _ _ ⟨v, hv, he, hS, hg⟩ => ⟨v, hv, he, I.strm hS hg⟩
theorem some_kept (I : Kept 25 Tt w0 B sb m L X w) (xs : List ByteArray) {g n c : Nat} {T : TypeId} {cs : List Value} (hmem : (g, T, cs) ∈ L) (hm : m ≤ 1000000000000) (hcs : xs.map Value.string = cs) (hn : xs.length = n) (hx : 0 < n) (hx2 : n ≤ 1000000) :
    Calls Tryz.prog 57 #[.pointer (some ⟨sb, 0, none⟩), .slice (some ⟨g, 0, none⟩) n c] w (KStr Tt w0 B sb (m + 1) L X (· ∈ xs)) :=
  by
  subst hcs; subst hn
  exact (some_any xs g c T w B sb m I.s hm hx hx2 (I.blk hmem) (I.ne hmem)).mono fun _ _ ⟨v, hv, he, hS, hg⟩ => ⟨v, hv, he, I.strm hS hg⟩
theorem flip_kept (I : Kept 25 Tt w0 B sb m L X w) (n : Int) (hm : m ≤ 1000000000000) (h1 : -9223372036854775808 ≤ n) (h2 : n ≤ 9223372036854775807) :
    Calls Tryz.prog 25 #[.pointer (some ⟨sb, 0, none⟩), .int .i64 n] w (KBool Tt w0 B sb (m + 1) L X) :=
  (flip_any n w B sb m I.s hm h1 h2).mono fun _ _ ⟨v, he, hS, hg⟩ => ⟨v, he, I.strm hS hg⟩
theorem next_kept (I : Kept 25 Tt w0 B sb m L X w) (n : Int) (hm : m ≤ 1000000000000) (h1 : -9223372036854775808 ≤ n) (h2 : n ≤ 9223372036854775807) :
    Calls Tryz.prog 56 #[.pointer (some ⟨sb, 0, none⟩), .int .i64 n] w (KInt Tt w0 B sb (m + 1) L X (IsBelow n)) :=
  (next_any n w B sb m I.s hm h1 h2).mono fun _ _ ⟨v, hv, he, hS, hg⟩ => ⟨v, hv, he, I.strm hS hg⟩
theorem odd_kept (I : Kept 25 Tt w0 B sb m L X w) (lo hi : Int) (hm : m ≤ 900000000000) (h1 : -1000000000000000 ≤ lo) (h2 : hi ≤ 1000000000000000) (h3 : lo ≤ hi) :
    Calls Tryz.prog 58 #[.pointer (some ⟨sb, 0, none⟩), .int .i64 lo, .int .i64 hi] w (KInt Tt w0 B sb (m + 2) L X (fun v => -2000000000000000 ≤ v ∧ v ≤ 2000000000000000)) :=
  (odd_any lo hi w B sb m I.s hm h1 h2 h3).mono fun _ _ ⟨v, hv, he, hS, hg⟩ => ⟨v, hv, he, I.strm hS hg⟩
theorem reading_kept (I : Kept 25 Tt w0 B sb m L X w) (at_ : Int) (hm : m ≤ 100000000000) (h0 : -4000000000000000 ≤ at_) (h1 : at_ ≤ 4000000000000000) :
    Calls Tryz.prog 79 #[.pointer (some ⟨sb, 0, none⟩), .int .i64 at_] w (fun e w' => ∃ r : Rd, RdOk r ∧ e = .returned (.agg (rdCells r).toArray) ∧ Kept 25 Tt w0 B sb (m + 10) L X w') :=
  (greading_any at_ w B sb m I.s hm h0 h1).mono fun _ _ ⟨r, hr, he, hS, hg⟩ => ⟨r, hr, he, I.strm hS hg⟩
theorem time_kept (I : Kept 25 Tt w0 B sb m L X w) (hm : m ≤ 100000000000) :
    Calls Tryz.prog 78 #[.pointer (some ⟨sb, 0, none⟩)] w (fun e w' => ∃ fr to_ : Int, Far fr ∧ Far to_ ∧ e = .returned (.agg #[.int .i64 fr, .int .i64 to_]) ∧ Kept 25 Tt w0 B sb (m + 10) L X w') :=
  (gtime_any w B sb m I.s hm).mono fun _ _ ⟨fr, to_, h1, h2, he, hS, hg⟩ => ⟨fr, to_, h1, h2, he, I.strm hS hg⟩
end
end Go.Proofs.YtnpcbfllnkiopaaGreatDoor
namespace Go.Proofs.YtnpcbfllnkiopaaGreatDoor
open Go.RowKit
section
variable {TS : TypeId} {Tt : List TypeId} {w0 w w' : World} {B sb m m' : Nat} {L : List (Nat × TypeId × List Value)} {X Y : World → Prop}
/-- A call has made a block: it joins those that are known. -/
theorem Kept.add (h : Kept TS Tt w0 B sb m L X w) (hg : w.grownBy w' none) {g : Nat} {T : TypeId} {cs : List Value} (hge : w.heap.size ≤ g) (hb : Blk w' g T cs) : Kept TS Tt w0 B sb m ((g, T, cs) :: L) X w' := by
  have h2 := h.grow0 hg
  refine ⟨h2.s, h2.g, fun x hx => ?_, List.Pairwise.cons (fun y hy e => by have h3 := (h.b y hy).2.lt; have e2 : g = y.1 := e; omega) h.nd, h2.t, h2.l, h2.x⟩
  rcases List.mem_cons.1 hx with rfl | hx
  · exact ⟨⟨Nat.lt_of_lt_of_le h.s.lt hge, Nat.le_trans h.g.size hge⟩, hb⟩
  · exact h2.b x hx
theorem Kept.free (h : Kept TS Tt w0 B sb m L X w) : Kept TS [] w0 B sb m L (fun _ => True) w := ⟨h.s, h.g, h.b, h.nd, List.not_mem_nil, Lasts.true_ _, trivial⟩
theorem Kept.put {g : Nat} {T : TypeId} {cs cs' : List Value} (h : Kept TS [] w0 B sb m ((g, T, cs) :: L) X w) (hb : Blk w' g T cs') (hg : w.grownBy w' (some g)) : Kept TS [] w0 B sb m ((g, T, cs') :: L) X w' := by
  have hnd := List.pairwise_cons.1 h.nd
  refine h.stored (g := g) (List.mem_cons_self ..) List.not_mem_nil hg hb (fun x hx => ?_) (List.Pairwise.cons hnd.1 hnd.2)
  rcases List.mem_cons.1 hx with rfl | hx
  · exact .inl rfl
  · exact .inr ⟨List.mem_cons_of_mem _ hx, fun e => hnd.1 x hx e.symm⟩
theorem Kept.put2 {x : Nat × TypeId × List Value} {g : Nat} {T : TypeId} {cs cs' : List Value} (h : Kept TS [] w0 B sb m (x :: (g, T, cs) :: L) X w) (hb : Blk w' g T cs') (hg : w.grownBy w' (some g)) : Kept TS [] w0 B sb m (x :: (g, T, cs') :: L) X w' := by
  have hnd := List.pairwise_cons.1 h.nd
  have hnd2 := List.pairwise_cons.1 hnd.2
  have hx1 : x.1 ≠ g := hnd.1 _ (List.mem_cons_self ..)
  refine h.stored (g := g) (List.mem_cons_of_mem _ (List.mem_cons_self ..)) List.not_mem_nil hg hb (fun y hy => ?_) (List.Pairwise.cons (fun y hy => ?_) (List.Pairwise.cons hnd2.1 hnd2.2))
  · rcases List.mem_cons.1 hy with rfl | hy
    · exact .inr ⟨List.mem_cons_self .., hx1⟩
    · rcases List.mem_cons.1 hy with rfl | hy
      · exact .inl rfl
      · exact .inr ⟨List.mem_cons_of_mem _ (List.mem_cons_of_mem _ hy), fun e => hnd2.1 y hy e.symm⟩
  · rcases List.mem_cons.1 hy with rfl | hy
    · exact hx1
    · exact hnd.1 y (List.mem_cons_of_mem _ hy)
end
/-- The cells of a leg block begin with the legs l. -/
def Fit (cs : List Value) (n : Nat) (l : List Lg) : Prop := n * 9 ≤ cs.length ∧ cs.take (n * 9) = l.flatMap lgEnc ∧ l.length = n
theorem Fit.get {cs : List Value} {n j r : Nat} {l : List Lg} {x : Lg} {v : Value} (h : Fit cs n l) (hx : l[j]? = some x) (hv : (lgEnc x)[r]? = some v) : cs[j * 9 + r]? = some v := by
  have := flat_get lgEnc 9 lg_len l j x hx r v hv
  rw [← h.2.1, List.getElem?_take] at this
  split at this
  · exact this
  · cases this
theorem Fit.splice {cs : List Value} {n j r : Nat} {l : List Lg} {x y : Lg} {vs : List Value} (h : Fit cs n l) (hx : l[j]? = some x) (hy : lgEnc y = splice (lgEnc x) r vs) (hr : r + vs.length ≤ 9) : Fit (Go.Proofs.YtnpcbfllnkiopaaGreatDoor.splice cs (j * 9 + r) vs) n (l.set j y) := by
  have hj : j < n := by have := (List.getElem?_eq_some_iff.1 hx).1; have := h.2.2; omega
  have h1 := h.1
  refine ⟨by rw [splice_length _ _ _ (by omega)]; exact h1, ?_, by rw [List.length_set]; exact h.2.2⟩
  rw [take_splice _ _ _ _ (by omega) h1, h.2.1]
  exact flat_set lgEnc 9 lg_len hy hr l j hx
theorem set_splice (cs : List Value) (i : Nat) (v : Value) (hi : i < cs.length) : cs.set i v = splice cs i [v] := by
  simp [splice, List.set_eq_take_append_cons_drop, hi]
theorem Fit.set_ {cs : List Value} {n j r : Nat} {l : List Lg} {x y : Lg} {v : Value} (h : Fit cs n l) (hx : l[j]? = some x) (hy : lgEnc y = Go.Proofs.YtnpcbfllnkiopaaGreatDoor.splice (lgEnc x) r [v]) (hr : r < 9) : Fit (cs.set (j * 9 + r) v) n (l.set j y) := by
  have hj : j < n := by have := (List.getElem?_eq_some_iff.1 hx).1; have := h.2.2; omega
  rw [set_splice _ _ _ (by have := h.1; omega)]
  exact h.splice hx hy (by simp; omega)
theorem Fit.slt {cs : List Value} {n : Nat} {l : List Lg} {w : World} {g : Nat} (h : Fit cs n l) (hb : Blk w g 128 cs) : SlT lgEnc 9 128 w (some ⟨g, 0, none⟩) n l := by
  refine ⟨h.2.2, fun _ => ⟨g, 0, cs.toArray, _, rfl, hb, fun i x hx j v hv => ?_⟩⟩
  rw [Nat.zero_add, List.getElem?_toArray]
  exact h.get hx hv
/-- The leg block is let go: what lasts is that the legs lie there. -/
theorem Kept.legs {TS : TypeId} {w0 w : World} {B sb m g n : Nat} {cs : List Value} {L : List (Nat × TypeId × List Value)} {X : World → Prop} {l : List Lg} (h : Kept TS [] w0 B sb m ((g, 128, cs) :: L) X w) (hf : Fit cs n l) (ht : TS ∉ [128]) :
    Kept TS [128] w0 B sb m L (fun w => SlT lgEnc 9 128 w (some ⟨g, 0, none⟩) n l) w :=
  ⟨h.s, h.g, fun x hx => h.b x (List.mem_cons_of_mem _ hx), (List.pairwise_cons.1 h.nd).2, ht, SlT.lasts (List.mem_singleton.2 rfl), hf.slt (h.blk (List.mem_cons_self ..))⟩
theorem legs_set {l : List Lg} {j : Nat} {y : Lg} (h : ∀ g ∈ l, LgOk g) (hy : LgOk y) : ∀ g ∈ l.set j y, LgOk g := fun g hg => by
  rcases List.mem_or_eq_of_mem_set hg with h1 | rfl
  · exact h g h1
  · exact hy
end Go.Proofs.YtnpcbfllnkiopaaGreatDoor
namespace Go.Proofs.YtnpcbfllnkiopaaGreatDoor
open Go.RowKit
theorem rightHire_any (key : ByteArray) (fr : Int) (w : World) (B sb m : Nat) (hS : Strm 25 w B sb m) (hm : m ≤ 10000000000) (hkey : key.size ≤ 100) (hkb : keyB key = true) (hf0 : 0 ≤ fr) (hf1 : fr ≤ 5000000) :
    Calls Tryz.prog 76 #[.pointer (some ⟨sb, 0, none⟩), .string key, .int .i64 fr] w (fun e w' => ∃ (k d : ByteArray) (f t : Int) (A : Option Addr) (n c : Nat) (l : List Lg), e = .returned (.agg #[.string k, .string d, .int .i64 f, .int .i64 t, .slice A n c]) ∧ SlT lgEnc 9 128 w' A n l ∧ HrOk k d l ∧ 1 ≤ n ∧ n ≤ 4 ∧ Strm 25 w' B sb (m + 1500) ∧ w.grownBy w' (some sb)) :=
  (rightHireR_any key fr w B sb m hS hm hkey hkb hf0 hf1).mono fun _ _ ⟨k, d, f, t, A, n, c, l, he, h1, h2, h3, h4, _, h6, h7⟩ => ⟨k, d, f, t, A, n, c, l, he, h1, h2, h3, h4, h6, h7⟩
end Go.Proofs.YtnpcbfllnkiopaaGreatDoor
namespace Go.Proofs.YtnpcbfllnkiopaaGreatDoor
open Go.RowKit
theorem rightHire_kept {w0 w : World} {B sb m : Nat} {L : List (Nat × TypeId × List Value)} {X : World → Prop} (I : Kept 25 [128] w0 B sb m L X w) (key : ByteArray) (fr : Int) (hm : m ≤ 10000000000) (hkey : key.size ≤ 100) (hkb : keyB key = true) (hf0 : 0 ≤ fr) (hf1 : fr ≤ 5000000) :
    Calls Tryz.prog 76 #[.pointer (some ⟨sb, 0, none⟩), .string key, .int .i64 fr] w (fun e w' => ∃ (k d : ByteArray) (f t : Int) (A : Option Addr) (n c : Nat) (l : List Lg), e = .returned (.agg #[.string k, .string d, .int .i64 f, .int .i64 t, .slice A n c]) ∧ HrOk k d l ∧ 1 ≤ n ∧ n ≤ 4 ∧ Kept 25 [128] w0 B sb (m + 1500) L (fun w => X w ∧ SlT lgEnc 9 128 w A n l) w') :=
  (rightHire_any key fr w B sb m I.s hm hkey hkb hf0 hf1).mono fun _ _ ⟨k, d, f, t, A, n, c, l, he, hsl, hok, h1, h4, hS, hg⟩ => ⟨k, d, f, t, A, n, c, l, he, hok, h1, h4, (I.strm hS hg).also (SlT.lasts (List.mem_singleton.2 rfl)) hsl⟩
theorem h1_key : keyB ⟨#[104, 49]⟩ = true := by kernel_rfl
set_option maxRecDepth 100000 in
set_option maxHeartbeats 4000000 in
theorem ghire_any (w : World) (B sb m : Nat) (hS : Strm 25 w B sb m) (hm : m ≤ 1000000000) :
    Calls Tryz.prog 17 #[.pointer (some ⟨sb, 0, none⟩)] w (fun e w' => ∃ (k d : ByteArray) (f t : Int) (A : Option Addr) (n c : Nat) (l : List Lg), e = .returned (.agg #[.string k, .string d, .int .i64 f, .int .i64 t, .slice A n c]) ∧ SlT lgEnc 9 128 w' A n l ∧ HrOk k d l ∧ n ≤ 4 ∧ Strm 25 w' B sb (m + 2000) ∧ w.grownBy w' (some sb)) := by
  go_enter Tryz.func17, Tryz.ntmps17
  go_wp2_with fail
  have I := Kept.start (Tt := [128]) hS (by decide)
  clear hS
  refine (pick_kept (I.alloc2 45 [.string ⟨#[]⟩, .string ⟨#[]⟩, .int .i64 0, .int .i64 0, .slice none 0 0] _ _) [0, 100, 1440] (List.Mem.head _) (by omega) (by with_unfolding_all rfl) (by with_unfolding_all rfl) (by decide) (by decide)).mono ?_
  rintro e w1 ⟨fr, hfr, rfl, I2⟩
  have hfb : 0 ≤ fr ∧ fr ≤ 1440 := by simp at hfr; omega
  have hf0 := hfb.1
  have hf1 := hfb.2
  clear I hfr hfb
  have I := I2.sub (L' := [(w.heap.size, 45, [.string ⟨#[]⟩, .string ⟨#[]⟩, .int .i64 0, .int .i64 0, .slice none 0 0])]) (List.Sublist.cons _ (List.Sublist.refl _))
  clear I2
  go_wp2_with fail
  refine (rightHire_kept I ⟨#[104, 49]⟩ fr (by omega) (by decide) h1_key (by omega) (by omega)).mono ?_
  rintro e w3 ⟨k1, d1, f1, t1, A1, n1, c1, l1, rfl, hok, hn1, hn4, I2⟩
  have Hok := Lib.hid hok
  have I3 := (I2.only (SlT.lasts (by decide)) I2.x.2).alloc 45 [.string k1, .string d1, .int .i64 f1, .int .i64 t1, .slice A1 n1 c1]
  clear I I2 hok
  obtain ⟨Hb, hHb⟩ : ∃ Hb, Hb = w3.heap.size := ⟨_, rfl⟩
  rw [← hHb] at I3
  have I := I3
  clear I3
  go_wp2_with fail
  rw [← hHb]
  clear hHb
  refine (flip_kept I 10 (by omega) (by omega) (by omega)).mono ?_
  rintro e w4 ⟨fl, rfl, I2⟩
  clear I
  have I := I2
  clear I2
  cases fl
  · have hbH := I.blk (List.mem_cons_self ..)
    have hbR := I.blk (g := w.heap.size) (by repeat (first | exact List.mem_cons_self .. | apply List.mem_cons_of_mem))
    go_wp2_with (first
      | (with_reducible refine wpList_load_all rfl 45 (.tmp 3) rfl Hb _ _ _ hbH rfl Tryz.underlying45 rfl 5 info_hr rfl ?_)
      | (with_reducible refine wpList_store_all rfl 45 (.tmp 2) (.tmp 15) rfl w.heap.size _ _ [.string k1, .string d1, .int .i64 f1, .int .i64 t1, .slice A1 n1 c1] hbR rfl rfl 5 info_hr rfl rfl (by simp [Value.oneCell']) ?_
         intro w9 hb9 hg9))
    have I9 := I.stored (L' := []) (g := w.heap.size) (by repeat (first | exact List.mem_cons_self .. | apply List.mem_cons_of_mem)) (by decide) hg9 hb9 (fun x hx => by cases hx) List.Pairwise.nil
    refine ret_blk (p := 2) (ty := 45) rfl w.heap.size _ _ _ hb9 rfl Tryz.underlying45 rfl 5 info_hr rfl rfl ?_
    exact ⟨_, _, _, _, _, _, _, _, rfl, I9.x, Hok.out, by omega, I9.s.more (by omega), I9.g⟩

  · have hbH := I.blk (g := Hb) (by repeat (first | exact List.mem_cons_self .. | apply List.mem_cons_of_mem))
    have q4 := hbH.cell_of (i := 4) (v := .slice A1 n1 c1) rfl
    clear hbH
    go_wp2_with fail
    refine (cloneLegs_any l1 A1 n1 c1 _ I.x (by omega) (by omega)).mono ?_
    rintro e w5 ⟨g, c2, rfl, hown, hg5⟩
    obtain ⟨cs, hbL, hfit, htk⟩ := hown.blk
    have Hf := Lib.hid (show Fit cs n1 l1 from ⟨hfit, htk, I.x.len⟩)
    have I2 := I.free.add hg5 hown.1 hbL
    clear q4 I hown hbL hfit htk hg5
    have I := I2
    clear I2
    have hbH := I.blk (g := Hb) (by repeat (first | exact List.mem_cons_self .. | apply List.mem_cons_of_mem))
    have q4 := hbH.cell_of (i := 4) (v := .slice A1 n1 c1) rfl
    have p4 := hbH.frozen 4
    have I2 := I.put2 (hbH.set_ 4 (.slice (some ⟨g, 0, none⟩) n1 c2)) (grow_setCell (World.grownBy.refl _ _) (p := ⟨Hb, 4, none⟩) (.inl rfl) _)
    go_wp2_with fail
    refine (next_kept I2 6 (by omega) (by omega) (by omega)).mono ?_
    rintro e w6 ⟨v, hv, rfl, I3⟩
    have hvc : v = 0 ∨ v = 1 ∨ v = 2 ∨ v = 3 ∨ v = 4 ∨ v = 5 := by rcases hv with ⟨h1, h2 | h2⟩ <;> omega
    clear I I2 q4 p4 hbH hv
    have I := (I3.more (m' := m + 1900) (by omega)).sub (L' := [(g, 128, cs), (Hb, 45, [.string k1, .string d1, .int .i64 f1, .int .i64 t1, .slice (some ⟨g, 0, none⟩) n1 c2]), (w.heap.size, 45, [.string ⟨#[]⟩, .string ⟨#[]⟩, .int .i64 0, .int .i64 0, .slice none 0 0])]) (List.Sublist.refl _)
    clear I3
    rcases hvc with rfl | rfl | rfl | rfl | rfl | rfl
    · go_wp2_with fail
      refine (some_kept (I.alloc _ _) [⟨#[104, 49]⟩, ⟨#[]⟩, ⟨#[65]⟩] (List.Mem.head _) (by omega) (by with_unfolding_all rfl) (by with_unfolding_all rfl) (by decide) (by decide)).mono ?_
      rintro e w2 ⟨ka, hka, rfl, I2⟩
      have hska : ka.size ≤ 100 := mem_small hka (by decide)
      clear I hka
      have I := I2.sub (List.Sublist.cons _ (List.Sublist.refl _))
      clear I2
      go_wp2_with fail
      refine (some_kept (I.alloc _ _) [⟨#[97, 110, 110]⟩, ⟨#[]⟩] (List.Mem.head _) (by omega) (by with_unfolding_all rfl) (by with_unfolding_all rfl) (by decide) (by decide)).mono ?_
      rintro e w2 ⟨da, hda, rfl, I2⟩
      have hsda : da.size ≤ 100 := mem_small hda (by decide)
      clear I hda
      have I := I2.sub (List.Sublist.cons _ (List.Sublist.refl _))
      clear I2
      have hbH := I.blk (g := Hb) (by repeat (first | exact List.mem_cons_self .. | apply List.mem_cons_of_mem))
      have q0 := hbH.cell_of (i := 0) (v := .string k1) rfl
      have p0 := hbH.frozen 0
      have q1 := hbH.cell_of (i := 1) (v := .string d1) rfl
      have p1 := hbH.frozen 1
      clear hbH
      go_upto_region 20 with fail
      have I2 := I.put2 (((I.blk (g := Hb) (by repeat (first | exact List.mem_cons_self .. | apply List.mem_cons_of_mem))).set_ 0 (.string ka)).set_ 1 (.string da)) (grow_setCell (grow_setCell (World.grownBy.refl _ _) (p := ⟨Hb, 0, none⟩) (.inl rfl) _) (p := ⟨Hb, 1, none⟩) (.inl rfl) _)
      have I3 := I2.legs Hf.out (by decide)
      clear I I2 q0 q1 p0 p1
      have I := I3
      clear I3
      have hbH := I.blk (List.mem_cons_self ..)
      have hbR := I.blk (g := w.heap.size) (by repeat (first | exact List.mem_cons_self .. | apply List.mem_cons_of_mem))
      go_wp2_with (first
        | (with_reducible refine wpList_load_all rfl 45 (.tmp 3) rfl Hb _ _ _ hbH rfl Tryz.underlying45 rfl 5 info_hr rfl ?_)
        | (with_reducible refine wpList_store_all rfl 45 (.tmp 2) (.tmp 95) rfl w.heap.size _ _ [.string ka, .string da, .int .i64 f1, .int .i64 t1, .slice (some ⟨g, 0, none⟩) n1 c2] hbR rfl rfl 5 info_hr rfl rfl (by simp [Value.oneCell']) ?_
           intro w9 hb9 hg9))
      have I9 := I.stored (L' := []) (g := w.heap.size) (by repeat (first | exact List.mem_cons_self .. | apply List.mem_cons_of_mem)) (by decide) hg9 hb9 (fun x hx => by cases hx) List.Pairwise.nil
      refine ret_blk (p := 2) (ty := 45) rfl w.heap.size _ _ _ hb9 rfl Tryz.underlying45 rfl 5 info_hr rfl rfl ?_
      exact ⟨_, _, _, _, _, _, _, _, rfl, I9.x, ⟨by omega, by omega, Hok.out.2.2⟩, by omega, I9.s.more (by omega), I9.g⟩
    · go_wp2_with fail
      refine (time_kept I (by omega)).mono ?_
      rintro e w2 ⟨f2, t2, _, _, rfl, I2⟩
      clear I
      have I := I2
      clear I2
      have hbH := I.blk (g := Hb) (by repeat (first | exact List.mem_cons_self .. | apply List.mem_cons_of_mem))
      have q2 := hbH.cell_of (i := 2) (v := .int .i64 f1) rfl
      have p2 := hbH.frozen 2
      have q3 := hbH.cell_of (i := 3) (v := .int .i64 t1) rfl
      have p3 := hbH.frozen 3
      clear hbH
      go_upto_region 20 with fail
      have I2 := I.put2 (((I.blk (g := Hb) (by repeat (first | exact List.mem_cons_self .. | apply List.mem_cons_of_mem))).set_ 2 (.int .i64 f2)).set_ 3 (.int .i64 t2)) (grow_setCell (grow_setCell (World.grownBy.refl _ _) (p := ⟨Hb, 2, none⟩) (.inl rfl) _) (p := ⟨Hb, 3, none⟩) (.inl rfl) _)
      have I3 := I2.legs Hf.out (by decide)
      clear I I2 q2 q3 p2 p3
      have I := I3
      clear I3
      have hbH := I.blk (List.mem_cons_self ..)
      have hbR := I.blk (g := w.heap.size) (by repeat (first | exact List.mem_cons_self .. | apply List.mem_cons_of_mem))
      go_wp2_with (first
        | (with_reducible refine wpList_load_all rfl 45 (.tmp 3) rfl Hb _ _ _ hbH rfl Tryz.underlying45 rfl 5 info_hr rfl ?_)
        | (with_reducible refine wpList_store_all rfl 45 (.tmp 2) (.tmp 95) rfl w.heap.size _ _ [.string k1, .string d1, .int .i64 f2, .int .i64 t2, .slice (some ⟨g, 0, none⟩) n1 c2] hbR rfl rfl 5 info_hr rfl rfl (by simp [Value.oneCell']) ?_
           intro w9 hb9 hg9))
      have I9 := I.stored (L' := []) (g := w.heap.size) (by repeat (first | exact List.mem_cons_self .. | apply List.mem_cons_of_mem)) (by decide) hg9 hb9 (fun x hx => by cases hx) List.Pairwise.nil
      refine ret_blk (p := 2) (ty := 45) rfl w.heap.size _ _ _ hb9 rfl Tryz.underlying45 rfl 5 info_hr rfl rfl ?_
      exact ⟨_, _, _, _, _, _, _, _, rfl, I9.x, Hok.out, by omega, I9.s.more (by omega), I9.g⟩
    · have hbH := I.blk (g := Hb) (by repeat (first | exact List.mem_cons_self .. | apply List.mem_cons_of_mem))
      have q4 := hbH.cell_of (i := 4) (v := .slice (some ⟨g, 0, none⟩) n1 c2) rfl
      have p4 := hbH.frozen 4
      clear hbH
      go_upto_region 20 with fail
      have I2 := I.put2 ((I.blk (g := Hb) (by repeat (first | exact List.mem_cons_self .. | apply List.mem_cons_of_mem))).set_ 4 (.slice none 0 0)) (grow_setCell (World.grownBy.refl _ _) (p := ⟨Hb, 4, none⟩) (.inl rfl) _)
      have I3 := (I2.sub (List.Sublist.cons _ (List.Sublist.refl _)))
      have I4 : Kept 25 [128] w B sb _ _ (fun w => SlT lgEnc 9 128 w none 0 []) _ := ⟨I3.s, I3.g, I3.b, I3.nd, by decide, SlT.lasts (List.mem_singleton.2 rfl), SlT.nil_ _ _⟩
      clear I I2 I3 q4 p4
      have I := I4
      clear I4
      have hbH := I.blk (List.mem_cons_self ..)
      have hbR := I.blk (g := w.heap.size) (by repeat (first | exact List.mem_cons_self .. | apply List.mem_cons_of_mem))
      go_wp2_with (first
        | (with_reducible refine wpList_load_all rfl 45 (.tmp 3) rfl Hb _ _ _ hbH rfl Tryz.underlying45 rfl 5 info_hr rfl ?_)
        | (with_reducible refine wpList_store_all rfl 45 (.tmp 2) (.tmp 95) rfl w.heap.size _ _ [.string k1, .string d1, .int .i64 f1, .int .i64 t1, .slice none 0 0] hbR rfl rfl 5 info_hr rfl rfl (by simp [Value.oneCell']) ?_
           intro w9 hb9 hg9))
      have I9 := I.stored (L' := []) (g := w.heap.size) (by repeat (first | exact List.mem_cons_self .. | apply List.mem_cons_of_mem)) (by decide) hg9 hb9 (fun x hx => by cases hx) List.Pairwise.nil
      refine ret_blk (p := 2) (ty := 45) rfl w.heap.size _ _ _ hb9 rfl Tryz.underlying45 rfl 5 info_hr rfl rfl ?_
      exact ⟨_, _, _, _, _, _, _, _, rfl, I9.x, ⟨Hok.out.1, Hok.out.2.1, fun _ h => by cases h⟩, by omega, I9.s.more (by omega), I9.g⟩
    · have mk := fun (wx : World) (hH : Blk wx Hb 45 [.string k1, .string d1, .int .i64 f1, .int .i64 t1, .slice (some ⟨g, 0, none⟩) n1 c2]) => hH.cell_of (i := 4) (v := .slice (some ⟨g, 0, none⟩) n1 c2) rfl
      have Mk := Lib.hid mk
      clear mk
      go_upto_region 15 with fail
      go_cut [4] (fun p wx => ∃ j : Nat, j < n1 ∧ p = .pointer (some ⟨g, j * 9, none⟩) ∧ Kept 25 [] w B sb (m + 1900 + 1) [(g, 128, cs), (Hb, 45, [.string k1, .string d1, .int .i64 f1, .int .i64 t1, .slice (some ⟨g, 0, none⟩) n1 c2]), (w.heap.size, 45, [.string ⟨#[]⟩, .string ⟨#[]⟩, .int .i64 0, .int .i64 0, .slice none 0 0])] (fun _ => True) wx)
      case first =>
        go_region_held3 (fun wx => wx.cell? ⟨Hb, 4, none⟩ = some (.slice (some ⟨g, 0, none⟩) n1 c2))
          (first
            | with_reducible exact Mk.out _ (I.blk (by repeat (first | exact List.mem_cons_self .. | apply List.mem_cons_of_mem)))
            | with_reducible exact Mk.out _ (I.drew.blk (by repeat (first | exact List.mem_cons_self .. | apply List.mem_cons_of_mem))))
          (first
            | (go_at_call 56; (with_reducible refine (next_kept I (n1 : Int) (by omega) (by omega) (by omega)).mono ?_); rintro e w2 ⟨v, hv, rfl, I2⟩; have hvn : 0 ≤ v ∧ v < (n1 : Int) := (by rcases hv with ⟨h1, h2 | h2⟩ <;> omega); obtain ⟨j, rfl⟩ : ∃ j : Nat, v = (j : Int) := ⟨v.toNat, by omega⟩; have hj : j < n1 := (by omega); have hj0 := hvn.1; have hj1 := hvn.2; clear I hv hvn; have I := I2; clear I2)
            | (go_at_call 56; (with_reducible refine (next_kept I.drew (n1 : Int) (by omega) (by omega) (by omega)).mono ?_); rintro e w2 ⟨v, hv, rfl, I2⟩; have hvn : 0 ≤ v ∧ v < (n1 : Int) := (by rcases hv with ⟨h1, h2 | h2⟩ <;> omega); obtain ⟨j, rfl⟩ : ∃ j : Nat, v = (j : Int) := ⟨v.toNat, by omega⟩; have hj : j < n1 := (by omega); have hj0 := hvn.1; have hj1 := hvn.2; clear I hv hvn; have I := I2; clear I2))
        all_goals
          go_wp2_with fail
          go_meet
          exact ⟨j, hj, rfl, I⟩
      case rest =>
        obtain ⟨j, hj, rfl, I1⟩ := hcut
        obtain ⟨wb, hwb⟩ : ∃ wb : World, wb = wc := ⟨_, rfl⟩
        rw [← hwb] at I1 ⊢
        clear hwb I Mk
        have I := I1
        clear I1
        obtain ⟨x, hx⟩ : ∃ x, l1[j]? = some x := ⟨_, List.getElem?_eq_getElem (by have := Hf.out.2.2; omega)⟩
        have Hx := Lib.hid hx
        have Hxo := Lib.hid (Hok.out.2.2 x (List.mem_of_getElem? hx))
        have hjl : j * 9 + 9 ≤ cs.length := by have := Hf.out.1; omega
        clear hx
        go_wp2_with fail
        refine (some_kept (I.alloc _ _) [⟨#[118, 49]⟩, ⟨#[]⟩, ⟨#[65]⟩] (List.Mem.head _) (by omega) (by with_unfolding_all rfl) (by with_unfolding_all rfl) (by decide) (by decide)).mono ?_
        rintro e w2 ⟨ve, hve, rfl, I2⟩
        have hsve : ve.size ≤ 100 := mem_small hve (by decide)
        clear I hve
        have I := I2.sub (List.Sublist.cons _ (List.Sublist.refl _))
        clear I2
        go_wp2_with fail
        refine (odd_kept I 0 500 (by omega) (by omega) (by omega) (by omega)).mono ?_
        rintro e w2 ⟨at_, hat, rfl, I2⟩
        clear I hat
        have I := I2
        clear I2
        have hbL := I.blk (g := g) (by repeat (first | exact List.mem_cons_self .. | apply List.mem_cons_of_mem))
        have q0 := hbL.cell_of (i := j * 9) (v := .string x.veh) (Hf.out.get (r := 0) Hx.out rfl)
        have q1 := hbL.cell_of (i := j * 9 + 1) (v := .int .i64 x.out.at_) (Hf.out.get (r := 1) Hx.out rfl)
        have p0 := hbL.frozen (j * 9)
        have p1 := hbL.frozen (j * 9 + 1)
        clear hbL
        go_upto_region 20 with fail
        have I2 := I.put (((I.blk (g := g) (by repeat (first | exact List.mem_cons_self .. | apply List.mem_cons_of_mem))).set_ (j * 9) (.string ve)).set_ (j * 9 + 1) (.int .i64 at_)) (grow_setCell (grow_setCell (World.grownBy.refl _ _) (p := ⟨g, j * 9, none⟩) (.inl rfl) _) (p := ⟨g, j * 9 + 1, none⟩) (.inl rfl) _)
        have hx2 : (l1.set j ⟨ve, x.out, x.inn⟩)[j]? = some ⟨ve, x.out, x.inn⟩ := List.getElem?_set_self (by have := Hf.out.2.2; omega)
        have hf2 := ((Hf.out.set_ (r := 0) (y := ⟨ve, x.out, x.inn⟩) (v := .string ve) Hx.out rfl (by omega)).set_ (r := 1) (y := ⟨ve, ⟨at_, x.out.st, x.out.meter, x.out.fuel⟩, x.inn⟩) (v := .int .i64 at_) hx2 rfl (by omega))
        have I3 := I2.legs hf2 (by decide)
        have hok2 := legs_set (j := j) (y := ⟨ve, ⟨at_, x.out.st, x.out.meter, x.out.fuel⟩, x.inn⟩) (legs_set (j := j) (y := ⟨ve, x.out, x.inn⟩) Hok.out.2.2 ⟨by show ve.size ≤ _; omega, Hxo.out.2⟩) ⟨by show ve.size ≤ _; omega, Hxo.out.2⟩
        have Hok2 := Lib.hid hok2
        clear I I2 q0 q1 p0 p1 hx2 hf2 hok2
        have I := I3
        clear I3
        have hbH := I.blk (List.mem_cons_self ..)
        have hbR := I.blk (g := w.heap.size) (by repeat (first | exact List.mem_cons_self .. | apply List.mem_cons_of_mem))
        go_wp2_with (first
          | (with_reducible refine wpList_load_all rfl 45 (.tmp 3) rfl Hb _ _ _ hbH rfl Tryz.underlying45 rfl 5 info_hr rfl ?_)
          | (with_reducible refine wpList_store_all rfl 45 (.tmp 2) (.tmp 95) rfl w.heap.size _ _ [.string k1, .string d1, .int .i64 f1, .int .i64 t1, .slice (some ⟨g, 0, none⟩) n1 c2] hbR rfl rfl 5 info_hr rfl rfl (by simp [Value.oneCell']) ?_
             intro w9 hb9 hg9))
        have I9 := I.stored (L' := []) (g := w.heap.size) (by repeat (first | exact List.mem_cons_self .. | apply List.mem_cons_of_mem)) (by decide) hg9 hb9 (fun x hx => by cases hx) List.Pairwise.nil
        refine ret_blk (p := 2) (ty := 45) rfl w.heap.size _ _ _ hb9 rfl Tryz.underlying45 rfl 5 info_hr rfl rfl ?_
        exact ⟨_, _, _, _, _, _, _, _, rfl, I9.x, ⟨Hok.out.1, Hok.out.2.1, Hok2.out⟩, by omega, I9.s.more (by omega), I9.g⟩
    · have mk := fun (wx : World) (hH : Blk wx Hb 45 [.string k1, .string d1, .int .i64 f1, .int .i64 t1, .slice (some ⟨g, 0, none⟩) n1 c2]) => hH.cell_of (i := 4) (v := .slice (some ⟨g, 0, none⟩) n1 c2) rfl
      have Mk := Lib.hid mk
      clear mk
      go_upto_region 18 with fail
      go_cut [5] (fun p wx => ∃ j : Nat, j < n1 ∧ p = .pointer (some ⟨g, j * 9, none⟩) ∧ Kept 25 [] w B sb (m + 1900 + 1) [(g, 128, cs), (Hb, 45, [.string k1, .string d1, .int .i64 f1, .int .i64 t1, .slice (some ⟨g, 0, none⟩) n1 c2]), (w.heap.size, 45, [.string ⟨#[]⟩, .string ⟨#[]⟩, .int .i64 0, .int .i64 0, .slice none 0 0])] (fun _ => True) wx)
      case first =>
        go_region_held3 (fun wx => wx.cell? ⟨Hb, 4, none⟩ = some (.slice (some ⟨g, 0, none⟩) n1 c2))
          (first
            | with_reducible exact Mk.out _ (I.blk (by repeat (first | exact List.mem_cons_self .. | apply List.mem_cons_of_mem)))
            | with_reducible exact Mk.out _ (I.drew.blk (by repeat (first | exact List.mem_cons_self .. | apply List.mem_cons_of_mem))))
          (first
            | (go_at_call 56; (with_reducible refine (next_kept I (n1 : Int) (by omega) (by omega) (by omega)).mono ?_); rintro e w2 ⟨v, hv, rfl, I2⟩; have hvn : 0 ≤ v ∧ v < (n1 : Int) := (by rcases hv with ⟨h1, h2 | h2⟩ <;> omega); obtain ⟨j, rfl⟩ : ∃ j : Nat, v = (j : Int) := ⟨v.toNat, by omega⟩; have hj : j < n1 := (by omega); have hj0 := hvn.1; have hj1 := hvn.2; clear I hv hvn; have I := I2; clear I2)
            | (go_at_call 56; (with_reducible refine (next_kept I.drew (n1 : Int) (by omega) (by omega) (by omega)).mono ?_); rintro e w2 ⟨v, hv, rfl, I2⟩; have hvn : 0 ≤ v ∧ v < (n1 : Int) := (by rcases hv with ⟨h1, h2 | h2⟩ <;> omega); obtain ⟨j, rfl⟩ : ∃ j : Nat, v = (j : Int) := ⟨v.toNat, by omega⟩; have hj : j < n1 := (by omega); have hj0 := hvn.1; have hj1 := hvn.2; clear I hv hvn; have I := I2; clear I2))
        all_goals
          go_wp2_with fail
          go_meet
          exact ⟨j, hj, rfl, I⟩
      case rest =>
        obtain ⟨j, hj, rfl, I1⟩ := hcut
        obtain ⟨wb, hwb⟩ : ∃ wb : World, wb = wc := ⟨_, rfl⟩
        rw [← hwb] at I1 ⊢
        clear hwb I Mk
        have I := I1
        clear I1
        obtain ⟨x, hx⟩ : ∃ x, l1[j]? = some x := ⟨_, List.getElem?_eq_getElem (by have := Hf.out.2.2; omega)⟩
        have Hx := Lib.hid hx
        have Hxo := Lib.hid (Hok.out.2.2 x (List.mem_of_getElem? hx))
        have hjl : j * 9 + 9 ≤ cs.length := by have := Hf.out.1; omega
        clear hx
        go_wp2_with fail
        refine (pick_kept (I.alloc _ _) [-1, 0, 100, 5000] (List.Mem.head _) (by omega) (by with_unfolding_all rfl) (by with_unfolding_all rfl) (by decide) (by decide)).mono ?_
        rintro e w2 ⟨pv, hpv, rfl, I2⟩
        have hbpv : -100000000 ≤ pv ∧ pv ≤ 100000000 := mem_far hpv (by decide)
        clear I hpv
        have I := I2.sub (List.Sublist.cons _ (List.Sublist.refl _))
        clear I2
        have hp0 := hbpv.1
        have hp1 := hbpv.2
        go_wp2_with fail
        refine (reading_kept I pv (by omega) (by omega) (by omega)).mono ?_
        rintro e w2 ⟨⟨ra, rs, rm, rf⟩, hr, rfl, I2⟩
        rw [show (rdCells ⟨ra, rs, rm, rf⟩).toArray = #[.int .i64 ra, .string rs, .int .i64 rm, .int .i64 rf] from rfl]
        have Hr := Lib.hid hr
        clear I hr
        have I := I2
        clear I2
        have hbL := I.blk (g := g) (by repeat (first | exact List.mem_cons_self .. | apply List.mem_cons_of_mem))
        go_upto_region 20 with (with_reducible refine wpList_store_blk rfl 126 (.tmp 94) (.tmp 92) rfl g (j * 9 + 5) _ cs [.int .i64 ra, .string rs, .int .i64 rm, .int .i64 rf] hbL rfl rfl 4 info_rd rfl (by omega) (by simp [Value.oneCell']) ?_
                                intro w7 hb7 hg7)
        have I2 := I.put hb7 hg7
        have hf2 := Hf.out.splice (r := 5) (y := ⟨x.veh, x.out, ⟨ra, rs, rm, rf⟩⟩) (vs := [.int .i64 ra, .string rs, .int .i64 rm, .int .i64 rf]) Hx.out rfl (Nat.le_refl 9)
        have I3 := I2.legs hf2 (by decide)
        have hok2 := legs_set (j := j) (y := ⟨x.veh, x.out, ⟨ra, rs, rm, rf⟩⟩) Hok.out.2.2 ⟨Hxo.out.1, Hxo.out.2.1, Hr.out⟩
        have Hok2 := Lib.hid hok2
        clear I I2 hbL hb7 hg7 hf2 hok2
        have I := I3
        clear I3
        have hbH := I.blk (List.mem_cons_self ..)
        have hbR := I.blk (g := w.heap.size) (by repeat (first | exact List.mem_cons_self .. | apply List.mem_cons_of_mem))
        go_wp2_with (first
          | (with_reducible refine wpList_load_all rfl 45 (.tmp 3) rfl Hb _ _ _ hbH rfl Tryz.underlying45 rfl 5 info_hr rfl ?_)
          | (with_reducible refine wpList_store_all rfl 45 (.tmp 2) (.tmp 95) rfl w.heap.size _ _ [.string k1, .string d1, .int .i64 f1, .int .i64 t1, .slice (some ⟨g, 0, none⟩) n1 c2] hbR rfl rfl 5 info_hr rfl rfl (by simp [Value.oneCell']) ?_
             intro w9 hb9 hg9))
        have I9 := I.stored (L' := []) (g := w.heap.size) (by repeat (first | exact List.mem_cons_self .. | apply List.mem_cons_of_mem)) (by decide) hg9 hb9 (fun x hx => by cases hx) List.Pairwise.nil
        refine ret_blk (p := 2) (ty := 45) rfl w.heap.size _ _ _ hb9 rfl Tryz.underlying45 rfl 5 info_hr rfl rfl ?_
        exact ⟨_, _, _, _, _, _, _, _, rfl, I9.x, ⟨Hok.out.1, Hok.out.2.1, Hok2.out⟩, by omega, I9.s.more (by omega), I9.g⟩
    · have mk := fun (wx : World) (hH : Blk wx Hb 45 [.string k1, .string d1, .int .i64 f1, .int .i64 t1, .slice (some ⟨g, 0, none⟩) n1 c2]) => hH.cell_of (i := 4) (v := .slice (some ⟨g, 0, none⟩) n1 c2) rfl
      have Mk := Lib.hid mk
      clear mk
      go_upto_region 6 with fail
      go_cut [6] (fun p wx => ∃ j : Nat, j < n1 ∧ p = .pointer (some ⟨g, j * 9, none⟩) ∧ Kept 25 [] w B sb (m + 1900 + 1) [(g, 128, cs), (Hb, 45, [.string k1, .string d1, .int .i64 f1, .int .i64 t1, .slice (some ⟨g, 0, none⟩) n1 c2]), (w.heap.size, 45, [.string ⟨#[]⟩, .string ⟨#[]⟩, .int .i64 0, .int .i64 0, .slice none 0 0])] (fun _ => True) wx)
      case first =>
        go_region_held3 (fun wx => wx.cell? ⟨Hb, 4, none⟩ = some (.slice (some ⟨g, 0, none⟩) n1 c2))
          (first
            | with_reducible exact Mk.out _ (I.blk (by repeat (first | exact List.mem_cons_self .. | apply List.mem_cons_of_mem)))
            | with_reducible exact Mk.out _ (I.drew.blk (by repeat (first | exact List.mem_cons_self .. | apply List.mem_cons_of_mem))))
          (first
            | (go_at_call 56; (with_reducible refine (next_kept I (n1 : Int) (by omega) (by omega) (by omega)).mono ?_); rintro e w2 ⟨v, hv, rfl, I2⟩; have hvn : 0 ≤ v ∧ v < (n1 : Int) := (by rcases hv with ⟨h1, h2 | h2⟩ <;> omega); obtain ⟨j, rfl⟩ : ∃ j : Nat, v = (j : Int) := ⟨v.toNat, by omega⟩; have hj : j < n1 := (by omega); have hj0 := hvn.1; have hj1 := hvn.2; clear I hv hvn; have I := I2; clear I2)
            | (go_at_call 56; (with_reducible refine (next_kept I.drew (n1 : Int) (by omega) (by omega) (by omega)).mono ?_); rintro e w2 ⟨v, hv, rfl, I2⟩; have hvn : 0 ≤ v ∧ v < (n1 : Int) := (by rcases hv with ⟨h1, h2 | h2⟩ <;> omega); obtain ⟨j, rfl⟩ : ∃ j : Nat, v = (j : Int) := ⟨v.toNat, by omega⟩; have hj : j < n1 := (by omega); have hj0 := hvn.1; have hj1 := hvn.2; clear I hv hvn; have I := I2; clear I2))
        all_goals
          go_wp2_with fail
          go_meet
          exact ⟨j, hj, rfl, I⟩
      case rest =>
        obtain ⟨j, hj, rfl, I1⟩ := hcut
        obtain ⟨wb, hwb⟩ : ∃ wb : World, wb = wc := ⟨_, rfl⟩
        rw [← hwb] at I1 ⊢
        clear hwb I Mk
        have I := I1
        clear I1
        obtain ⟨x, hx⟩ : ∃ x, l1[j]? = some x := ⟨_, List.getElem?_eq_getElem (by have := Hf.out.2.2; omega)⟩
        have Hx := Lib.hid hx
        have Hxo := Lib.hid (Hok.out.2.2 x (List.mem_of_getElem? hx))
        have hjl : j * 9 + 9 ≤ cs.length := by have := Hf.out.1; omega
        clear hx
        go_wp2_with fail
        refine (pick_kept (I.alloc _ _) [0, 0, 1] (List.Mem.head _) (by omega) (by with_unfolding_all rfl) (by with_unfolding_all rfl) (by decide) (by decide)).mono ?_
        rintro e w2 ⟨pv, hpv, rfl, I2⟩
        have hbpv : -100000000 ≤ pv ∧ pv ≤ 100000000 := mem_far hpv (by decide)
        clear I hpv
        have I := I2.sub (List.Sublist.cons _ (List.Sublist.refl _))
        clear I2
        have hbL := I.blk (g := g) (by repeat (first | exact List.mem_cons_self .. | apply List.mem_cons_of_mem))
        go_upto_region 20 with (with_reducible refine wpList_store_blk rfl 126 (.tmp 36) (.tmp 34) rfl g (j * 9 + 5) _ cs [.int .i64 (-1), .string ⟨#[]⟩, .int .i64 pv, .int .i64 0] hbL rfl rfl 4 info_rd rfl (by omega) (by simp [Value.oneCell']) ?_
                                intro w7 hb7 hg7)
        have I2 := I.put hb7 hg7
        have hf2 := Hf.out.splice (r := 5) (y := ⟨x.veh, x.out, ⟨-1, ⟨#[]⟩, pv, 0⟩⟩) (vs := [.int .i64 (-1), .string ⟨#[]⟩, .int .i64 pv, .int .i64 0]) Hx.out rfl (Nat.le_refl 9)
        have I3 := I2.legs hf2 (by decide)
        have hok2 := legs_set (j := j) (y := ⟨x.veh, x.out, ⟨-1, ⟨#[]⟩, pv, 0⟩⟩) Hok.out.2.2 ⟨Hxo.out.1, Hxo.out.2.1, (show (⟨#[]⟩ : ByteArray).size ≤ 1000000 by decide)⟩
        have Hok2 := Lib.hid hok2
        clear I I2 hbL hb7 hg7 hf2 hok2
        have I := I3
        clear I3
        have hbH := I.blk (List.mem_cons_self ..)
        have hbR := I.blk (g := w.heap.size) (by repeat (first | exact List.mem_cons_self .. | apply List.mem_cons_of_mem))
        go_wp2_with (first
          | (with_reducible refine wpList_load_all rfl 45 (.tmp 3) rfl Hb _ _ _ hbH rfl Tryz.underlying45 rfl 5 info_hr rfl ?_)
          | (with_reducible refine wpList_store_all rfl 45 (.tmp 2) (.tmp 95) rfl w.heap.size _ _ [.string k1, .string d1, .int .i64 f1, .int .i64 t1, .slice (some ⟨g, 0, none⟩) n1 c2] hbR rfl rfl 5 info_hr rfl rfl (by simp [Value.oneCell']) ?_
             intro w9 hb9 hg9))
        have I9 := I.stored (L' := []) (g := w.heap.size) (by repeat (first | exact List.mem_cons_self .. | apply List.mem_cons_of_mem)) (by decide) hg9 hb9 (fun x hx => by cases hx) List.Pairwise.nil
        refine ret_blk (p := 2) (ty := 45) rfl w.heap.size _ _ _ hb9 rfl Tryz.underlying45 rfl 5 info_hr rfl rfl ?_
        exact ⟨_, _, _, _, _, _, _, _, rfl, I9.x, ⟨Hok.out.1, Hok.out.2.1, Hok2.out⟩, by omega, I9.s.more (by omega), I9.g⟩
end Go.Proofs.YtnpcbfllnkiopaaGreatDoor
namespace Go.Proofs.YtnpcbfllnkiopaaGreatDoor
open Go.RowKit
set_option maxRecDepth 100000 in
theorem lg_same (g : Lg) (w : World) :
    (binOp .neq 128 (.agg (lgEnc g).toArray) (.agg (lgEnc g).toArray)).run Tryz.prog w = .ok (.bool false) w := by
  obtain ⟨veh, ⟨a1, s1, m1, f1⟩, ⟨a2, s2, m2, f2⟩⟩ := g
  show (binOp .neq 128 (.agg #[.string veh, .int .i64 a1, .string s1, .int .i64 m1, .int .i64 f1, .int .i64 a2, .string s2, .int .i64 m2, .int .i64 f2]) (.agg #[.string veh, .int .i64 a1, .string s1, .int .i64 m1, .int .i64 f1, .int .i64 a2, .string s2, .int .i64 m2, .int .i64 f2])).run Tryz.prog w = _
  have hS : Tryz.prog.underlying 128 = some (.struct (Tryz.prog.fieldsOf 128)) := by kernel_rfl
  have hp : Tryz.prog.stoodInHeld 128 = false := by kernel_rfl
  have hS2 : Tryz.prog.underlying 126 = some (.struct (Tryz.prog.fieldsOf 126)) := by kernel_rfl
  have hp2 : Tryz.prog.stoodInHeld 126 = false := by kernel_rfl
  have e1 : ∀ w : World, (Op.equalIn 9999 126 (.agg #[.int .i64 a1, .string s1, .int .i64 m1, .int .i64 f1]) (.agg #[.int .i64 a1, .string s1, .int .i64 m1, .int .i64 f1])).run Tryz.prog w = .ok true w := fun w => by
    rw [show (9999 : Nat) = 9998 + 1 from rfl, run_equalIn_agg w 9998 126 _ _ hS2 hp2]
    simp only [Program.fieldsOf, Tryz.underlying126]
    have u3 := Tryz.underlying3
    have u9 := Tryz.underlying9
    go_simp
  rw [run_neq_struct, show (10000 : Nat) = 9999 + 1 from rfl, run_equalIn_agg w 9999 128 _ _ hS hp]
  simp only [Program.fieldsOf, Tryz.underlying128]
  have u3 := Tryz.underlying3
  have u9 := Tryz.underlying9
  clear hS hp hS2 hp2
  go_simp
set_option maxRecDepth 100000 in
set_option maxHeartbeats 1000000 in
theorem equalLegs_any (l : List Lg) (A1 A2 : Option Addr) (n c1 c2 : Nat) (w : World) (h1 : SlT lgEnc 9 128 w A1 n l) (h2 : SlT lgEnc 9 128 w A2 n l) (hn : n ≤ 1000000) :
    Calls Tryz.prog 96 #[.slice A1 n c1, .slice A2 n c2] w (fun e w' => e = .returned (.bool true) ∧ w.grownBy w' none) := by
  have hlen := h1.len
  go_enter Tryz.func96, Tryz.ntmps96
  go_wp2_with fail
  go_loopw [13] (fun i wr => ∃ k : Nat, k ≤ n ∧ i = .int .i64 k ∧ w.grownBy wr none) (fun i _ => n - (intOf i).toNat)
  case atStart => exact ⟨0, Nat.zero_le _, rfl, World.grownBy.refl _ _⟩
  case round =>
    obtain ⟨k, hk, rfl, hgr⟩ := hrel
    by_cases hlt : k < n
    · obtain ⟨b1, o1, rfl, hb1, hr1⟩ := (h1.grow0 hgr).get (by omega)
      obtain ⟨b2, o2, rfl, hb2, hr2⟩ := (h2.grow0 hgr).get (by omega)
      obtain ⟨g, hg⟩ : ∃ g, l[k]? = some g := ⟨_, List.getElem?_eq_getElem (by omega)⟩
      have hs := fun w => lg_same g w
      have q1 := hr1 k g hg
      have q2 := hr2 k g hg
      obtain ⟨veh, ⟨a1, s1, m1, f1⟩, ⟨a2, s2, m2, f2⟩⟩ := g
      have hs' : ∀ w : World, (binOp .neq 128 (.agg #[.string veh, .int .i64 a1, .string s1, .int .i64 m1, .int .i64 f1, .int .i64 a2, .string s2, .int .i64 m2, .int .i64 f2]) (.agg #[.string veh, .int .i64 a1, .string s1, .int .i64 m1, .int .i64 f1, .int .i64 a2, .string s2, .int .i64 m2, .int .i64 f2])).run Tryz.prog w = .ok (.bool false) w := hs
      have p0 : wr.cell? ⟨b1, o1 + k * 9, none⟩ = some (.string veh) := q1 0 _ rfl
      have p1 := q1 1 _ rfl
      have p2 := q1 2 _ rfl
      have p3 := q1 3 _ rfl
      have p4 := q1 4 _ rfl
      have p5 := q1 5 _ rfl
      have p6 := q1 6 _ rfl
      have p7 := q1 7 _ rfl
      have p8 := q1 8 _ rfl
      have r0 : wr.cell? ⟨b2, o2 + k * 9, none⟩ = some (.string veh) := q2 0 _ rfl
      have r1 := q2 1 _ rfl
      have r2 := q2 2 _ rfl
      have r3 := q2 3 _ rfl
      have r4 := q2 4 _ rfl
      have r5 := q2 5 _ rfl
      have r6 := q2 6 _ rfl
      have r7 := q2 7 _ rfl
      have r8 := q2 8 _ rfl
      have d0 : (0 : Int) ≤ (k : Int) := by omega
      have d1 : (k : Int) < (n : Int) := by omega
      clear hs hr1 hr2 q1 q2 hg
      go_wp2_with fail
      go_quiet (fail)
      go_wp2_with fail
      go_roundw
      case rel => exact ⟨k + 1, by omega, by go_num, grow_drewN hgr _⟩
      case measure => simp [intOf]; omega
    · go_wp2_with fail
      go_ret
      exact ⟨rfl, hgr⟩
set_option maxRecDepth 100000 in
set_option maxHeartbeats 1000000 in
theorem sameHire_any (key driver : ByteArray) (fr to_ : Int) (l : List Lg) (A1 A2 : Option Addr) (n c1 c2 : Nat) (w : World) (h1 : SlT lgEnc 9 128 w A1 n l) (h2 : SlT lgEnc 9 128 w A2 n l) (hn : n ≤ 1000000) :
    Calls Tryz.prog 28 #[.agg #[.string key, .string driver, .int .i64 fr, .int .i64 to_, .slice A1 n c1], .agg #[.string key, .string driver, .int .i64 fr, .int .i64 to_, .slice A2 n c2]] w (fun e w' => e = .returned (.bool true) ∧ w.grownBy w' none) := by
  go_enter Tryz.func28, Tryz.ntmps28
  go_wp2_with fail
  refine (equalLegs_any l A1 A2 n c1 c2 _ ((h1.alloc _).alloc _) ((h2.alloc _).alloc _) hn).mono ?_
  rintro e w1 ⟨rfl, hg1⟩
  go_wp2_with fail
  go_ret
  exact ⟨rfl, grow_trans (grow_alloc (grow_alloc (World.grownBy.refl _ _) _) _) hg1⟩
theorem hired_hire : hireE ⟨⟨#[104]⟩, ⟨#[100]⟩, 5, 9, [startLeg ⟨#[118]⟩ ⟨5, ⟨#[115]⟩, 0, 0⟩]⟩ = 0 := by kernel_rfl
set_option maxRecDepth 100000 in
set_option maxHeartbeats 1000000 in
theorem hired_any (w : World) : Calls Tryz.prog 29 #[] w (fun e w' => e = .returned (.bool true) ∧ w.grownBy w' none) := by
  have cH : ∀ w, Calls Tryz.prog 97 #[.string ⟨#[104]⟩, .string ⟨#[100]⟩, .agg #[.int .i64 5, .int .i64 9], .string ⟨#[118]⟩, .agg #[.int .i64 5, .string ⟨#[115]⟩, .int .i64 0, .int .i64 0]] w (fun e w' => ∃ A, e = .returned (.tuple #[.agg #[.string ⟨#[104]⟩, .string ⟨#[100]⟩, .int .i64 5, .int .i64 9, .slice A 1 1], .int .i64 0]) ∧ w.grownBy w' none) := fun w => by
    have h := start_any ⟨#[104]⟩ ⟨#[100]⟩ 5 9 ⟨#[118]⟩ ⟨5, ⟨#[115]⟩, 0, 0⟩ w (by decide) (by decide) (by decide) (by decide : (⟨#[115]⟩ : ByteArray).size ≤ 1000000)
    rw [hired_hire] at h
    exact h.mono fun e w' ⟨A, h1, _, h3⟩ => ⟨A, h1, h3⟩
  have CH := Lib.hid cH
  clear cH
  go_enter Tryz.func29, Tryz.ntmps29
  go_wp2_with fail
  refine (CH.out _).mono ?_
  rintro e w1 ⟨A, rfl, hg1⟩
  go_wp2_with fail
  go_ret
  exact ⟨rfl, grow_alloc hg1 _⟩
end Go.Proofs.YtnpcbfllnkiopaaGreatDoor
namespace Go.Proofs.YtnpcbfllnkiopaaGreatDoor
open Go.RowKit
theorem str_pos {t : ByteArray} (h : (t.toList == (⟨#[]⟩ : ByteArray).toList) = false) : 1 ≤ t.size := by
  by_cases h0 : t.size = 0
  · have e : t = ⟨#[]⟩ := by
      cases t with
      | mk a => exact congrArg ByteArray.mk (Array.eq_empty_of_size_eq_zero h0)
    rw [e] at h; simp at h
  · omega
theorem extract_hi2 (s : ByteArray) (i : Nat) : (s.extract 0 i).size ≤ i := by
  rw [ByteArray.size_extract]; omega
theorem extract_lo2 (s : ByteArray) (i : Nat) : (s.extract i s.size).size ≤ s.size - i := by
  rw [ByteArray.size_extract]; omega
theorem gchanged_any (tx wi : ByteArray) (w : World) (B sb m : Nat) (hS : Strm 25 w B sb m) (hm : m ≤ 100000000000) (htx : tx.size ≤ 1000000) (hwi : wi.size ≤ 1000) :
  Calls Tryz.prog 35 #[.pointer (some ⟨sb, 0, none⟩), .string tx, .string wi] w (fun e w' => ∃ v : ByteArray, e = .returned (.string v) ∧ v.size ≤ tx.size + wi.size + 4 ∧ Strm 25 w' B sb (m + 3) ∧ w.grownBy w' (some sb)) := by
 refine gw_enter ⟨63, w, (some sb), []⟩ Tryz.func35 rfl Tryz.ntmps35 rfl (memS (X := []) hS allF_nil allL_nil) ?_
 refine sr_ (sg_ rfl (nn_ (gw_seq (sr_ (mv_ rfl (wl_ov (ov_seql rfl rfl) rfl (mv_ rfl ?_)))))))
 rcases Bool.eq_false_or_eq_true (tx.toList == (⟨#[]⟩ : ByteArray).toList) with h1 | h1
 ·refine wl_set 11 rfl (congrArg Value.bool h1) ?_
  refine goff rfl rfl rfl (goff rfl rfl rfl (pt_ rfl rfl (nn_ (ct_ rfl (sr_ (mv_ rfl (sg_ rfl (nn_ ?_))))))))
  refine gw_ret ?_
  refine nx_then_ret ?_
  refine nx_ret1 rfl rfl fun wx hm => ?_
  exact ⟨wi, rfl, (by (try simp only [ByteArray.size_append]); omega), hm.k.more (by omega), hm.g⟩
 refine wl_set 11 rfl (congrArg Value.bool h1) ?_
 refine wl_guard_on rfl rfl rfl (mv_ rfl (wl_guard_on rfl rfl rfl (wl_ov (ov_seql rfl rfl) rfl (pf_ rfl rfl (nn_ ?_)))))
 refine gw_cond rfl (fun hh => ?_) (fun hh => ?_)
 ·have h2 : (wi.toList == (⟨#[]⟩ : ByteArray).toList) = true := by simpa using hh
  clear hh
  refine sr_ (mv_ rfl (sg_ rfl (nn_ ?_)))
  refine gw_ret ?_
  refine nx_then_ret ?_
  refine nx_ret1 rfl rfl fun wx hm => ?_
  exact ⟨wi, rfl, (by (try simp only [ByteArray.size_append]); omega), hm.k.more (by omega), hm.g⟩
 have h2 : (wi.toList == (⟨#[]⟩ : ByteArray).toList) = false := by simpa using hh
 clear hh
 refine gw_skip (nx_then (sr_ ?_))
 have htx1 := str_pos h1
 have hwi1 := str_pos h2
 refine mv_ rfl (mv_ rfl ?_)
 refine wl_ov (ov_lens us9 rfl) rfl ?_
 refine wl_got (γ := Int) (val := fun v => .int .i64 v) (φ := fun v => IsBelow ((tx).size : Int) v) rfl cb56 rfl rfl rfl rfl (fun wx hm => (next_any _ wx B sb _ hm.k (by omega) (by omega) (by omega))) fun va hva => ?_
 have ha := isBelow_lt hva (by omega)
 refine sg_ rfl (nn_ (sr_ (mv_ rfl (mv_ rfl (mv_ rfl ?_)))))
 refine wl_ov (ov_lens us9 rfl) rfl ?_
 refine wl_got (γ := Int) (val := fun v => .int .i64 v) (φ := fun v => IsBelow ((wi).size : Int) v) rfl cb56 rfl rfl rfl rfl (fun wx hm => (next_any _ wx B sb _ hm.k (by omega) (by omega) (by omega))) fun vb hvb => ?_
 have hb := isBelow_lt hvb (by omega)
 have hbd := byteAt_bd wi vb
 refine wl_ov (ov_strIx us9 rfl rfl (by omega) (by omega)) rfl ?_
 refine sg_ rfl (nn_ (gw_seq (sr_ (mv_ rfl ?_))))
 refine wl_got (γ := Int) (val := fun v => .int .i64 v) (φ := fun v => IsBelow 3 v) rfl cb56 rfl rfl rfl rfl (fun wx hm => (next_any _ wx B sb _ hm.k (by omega) (by omega) (by omega))) fun vc hvc => ?_
 have e1 := extract_hi2 tx va.toNat
 have e2 := extract_lo2 tx (va + 1).toNat
 have e3 := encode_size (byteAt wi vb)
 have e4 := extract_lo2 tx va.toNat
 refine nn_ (gw_block (sr_ (wl_ov (ov_eql rfl rfl) rfl (sg_ rfl (nn_ ?_)))))
 refine gw_cond rfl (fun hh => ?_) (fun hh => ?_)
 ·have hc1 : vc = 0 := by simpa using hh
  clear hh
  refine gw_seq ?_
  refine gd (fun wz => True) mixed (fun _ _ => trivial) fun z => ?_
  refine wt 0 13 1 rfl z (ov_move rfl) ?_
  refine wt 1 13 3 rfl z (ov_move rfl) ?_
  refine wt 2 13 7 rfl z (ov_strHi us9 rfl rfl (by omega) (by omega)) ?_
  refine wt 3 13 15 rfl z (ov_move rfl) ?_
  refine wt 4 13 31 rfl z (ov_toI32 (by kernel_rfl) (by kernel_rfl) rfl (by omega) (by omega)) ?_
  refine wt 5 13 63 rfl z (ov_runeStr (by kernel_rfl) us9 rfl) ?_
  refine wt 6 13 127 rfl z (ov_sadd rfl rfl (by (try simp only [ByteArray.size_append]); omega)) ?_
  refine wt 7 13 255 rfl z (ov_move rfl) ?_
  refine wt 8 13 511 rfl z (ov_move rfl) ?_
  refine wt 9 13 1023 rfl z (ov_add rfl rfl (by omega) (by omega)) ?_
  refine wt 10 13 2047 rfl z (ov_strLo us9 rfl rfl (by omega) (by omega)) ?_
  refine wt 11 13 4095 rfl z (ov_sadd rfl rfl (by (try simp only [ByteArray.size_append]); omega)) ?_
  refine wt 12 13 8191 rfl z (ov_assign rfl) ?_
  refine wa_done (by kernel_rfl) ?_
  refine nx_then ?_
  refine gw_ret ?_
  refine nx_blk_ret (nx_then_ret ?_)
  refine nx_ret1 rfl rfl fun wx hm => ?_
  exact ⟨((tx.extract 0 va.toNat) ++ (Utf8.encode (byteAt wi vb))) ++ (tx.extract (va + 1).toNat tx.size), rfl, (by (try simp only [ByteArray.size_append]); omega), hm.k.more (by omega), hm.g⟩
 have hc1 : ¬ (vc = 0) := by simpa using hh
 clear hh
 refine sr_ (wl_ov (ov_eql rfl rfl) rfl (sg_ rfl (nn_ ?_)))
 refine gw_cond rfl (fun hh => ?_) (fun hh => ?_)
 ·have hc2 : vc = 1 := by simpa using hh
  clear hh
  refine gw_seq ?_
  refine gd (fun wz => True) mixed (fun _ _ => trivial) fun z => ?_
  refine wt 0 12 1 rfl z (ov_move rfl) ?_
  refine wt 1 12 3 rfl z (ov_move rfl) ?_
  refine wt 2 12 7 rfl z (ov_strHi us9 rfl rfl (by omega) (by omega)) ?_
  refine wt 3 12 15 rfl z (ov_move rfl) ?_
  refine wt 4 12 31 rfl z (ov_toI32 (by kernel_rfl) (by kernel_rfl) rfl (by omega) (by omega)) ?_
  refine wt 5 12 63 rfl z (ov_runeStr (by kernel_rfl) us9 rfl) ?_
  refine wt 6 12 127 rfl z (ov_sadd rfl rfl (by (try simp only [ByteArray.size_append]); omega)) ?_
  refine wt 7 12 255 rfl z (ov_move rfl) ?_
  refine wt 8 12 511 rfl z (ov_move rfl) ?_
  refine wt 9 12 1023 rfl z (ov_strLo us9 rfl rfl (by omega) (by omega)) ?_
  refine wt 10 12 2047 rfl z (ov_sadd rfl rfl (by (try simp only [ByteArray.size_append]); omega)) ?_
  refine wt 11 12 4095 rfl z (ov_assign rfl) ?_
  refine wa_done (by kernel_rfl) ?_
  refine nx_then ?_
  refine gw_ret ?_
  refine nx_blk_ret (nx_then_ret ?_)
  refine nx_ret1 rfl rfl fun wx hm => ?_
  exact ⟨((tx.extract 0 va.toNat) ++ (Utf8.encode (byteAt wi vb))) ++ (tx.extract va.toNat tx.size), rfl, (by (try simp only [ByteArray.size_append]); omega), hm.k.more (by omega), hm.g⟩
 have hc2 : ¬ (vc = 1) := by simpa using hh
 clear hh
 refine gw_skip (nx_blk_nrm (nx_then (gw_seq ?_)))
 refine gd (fun wz => True) mixed (fun _ _ => trivial) fun z => ?_
 refine wt 0 9 1 rfl z (ov_move rfl) ?_
 refine wt 1 9 3 rfl z (ov_move rfl) ?_
 refine wt 2 9 7 rfl z (ov_strHi us9 rfl rfl (by omega) (by omega)) ?_
 refine wt 3 9 15 rfl z (ov_move rfl) ?_
 refine wt 4 9 31 rfl z (ov_move rfl) ?_
 refine wt 5 9 63 rfl z (ov_add rfl rfl (by omega) (by omega)) ?_
 refine wt 6 9 127 rfl z (ov_strLo us9 rfl rfl (by omega) (by omega)) ?_
 refine wt 7 9 255 rfl z (ov_sadd rfl rfl (by (try simp only [ByteArray.size_append]); omega)) ?_
 refine wt 8 9 511 rfl z (ov_assign rfl) ?_
 refine wa_done (by kernel_rfl) ?_
 refine nx_then ?_
 refine gw_ret ?_
 refine nx_ret1 rfl rfl fun wx hm => ?_
 exact ⟨(tx.extract 0 va.toNat) ++ (tx.extract (va + 1).toNat tx.size), rfl, (by (try simp only [ByteArray.size_append]); omega), hm.k.more (by omega), hm.g⟩
end Go.Proofs.YtnpcbfllnkiopaaGreatDoor
namespace Go.Proofs.YtnpcbfllnkiopaaGreatDoor
open Go.RowKit Go.ChangeShapes
theorem var_at {P : Program} {w : World} {n : String} {g : Nat} {cs : Array Value} (hg : P.globalNamed n = some g) (h : w.var? P n = some cs) : ∃ T f, w.heap[g]? = some (.cells cs T f) := by
  unfold World.var? at h
  rw [hg] at h
  simp only [Option.bind_some] at h
  split at h
  · rename_i c T f he
    cases h
    exact ⟨T, f, he⟩
  · cases h
theorem star_err : "*" ++ "errors.errorString" = "*errors.errorString" := by decide
theorem row_err (u : TypeId) (h : Tryz.prog.typeName? 3 u = some "*errors.errorString") : u = 382 :=
  typeName_ptr_named (nm := "errors.errorString") (by rw [star_err]; kernel_rfl) (by kernel_rfl) (by decide) u (by rw [star_err]; exact h)
theorem txtW_of {l : List (String × DataW Unit)} {W : World} (x1 x2 : List UInt8) (hL : laidMet Tryz.prog l W) (hS : W.ShapedOpen Tryz.prog)
    (h1 : l.filter (fun x => x.1 == "internal/strconv.uint64pow10") = [("internal/strconv.uint64pow10", Lib.tabData .u64 Lib.pow10Tab)])
    (h2 : l.filter (fun x => x.1 == "strconv.ErrSyntax") = [("strconv.ErrSyntax", .iface "*errors.errorString" (.ptr (.agg [.lit (.string x1)])))])
    (h3 : l.filter (fun x => x.1 == "strconv.ErrRange") = [("strconv.ErrRange", .iface "*errors.errorString" (.ptr (.agg [.lit (.string x2)])))]) : TxtW W := by
  have c1 := hL.filter (fun x => x.1 == "internal/strconv.uint64pow10")
  have c2 := hL.filter (fun x => x.1 == "strconv.ErrSyntax")
  have c3 := hL.filter (fun x => x.1 == "strconv.ErrRange")
  rw [h1] at c1
  rw [h2] at c2
  rw [h3] at c3
  refine ⟨?_, ?_, ?_, ?_⟩
  · have hg : Tryz.prog.globalNamed "internal/strconv.uint64pow10" = some 1 := by kernel_rfl
    have h := Lib.tabIs_of_head (t := 364) (e := 311) hg (by kernel_rfl) Tryz.underlying364 Tryz.underlying311 (by kernel_rfl) (by kernel_rfl) c1
    exact var_at hg h
  · obtain ⟨m, hm⟩ := cell_of_shapedOpen_int (P := Tryz.prog) (g := 0) (t := 3) (zero := #[.int .i64 0]) hS (of_decide_eq_true (by kernel_rfl)) (by kernel_rfl) rfl (by kernel_rfl) (by kernel_rfl) Tryz.underlying3
    unfold World.cell? at hm
    split at hm
    · rename_i c T f he
      exact ⟨c, T, f, m, he, by simpa using hm⟩
    · cases hm
  · have hg : Tryz.prog.globalNamed "strconv.ErrSyntax" = some 2 := by kernel_rfl
    obtain ⟨a, s, hv, _⟩ := laid_sentinel c2 hg (by kernel_rfl) Tryz.underlying103 row_err Tryz.underlying382 Tryz.underlying384 rfl rfl Tryz.underlying9 (by kernel_rfl) (by kernel_rfl)
    obtain ⟨T, f, h⟩ := var_at hg hv
    exact ⟨T, f, _, _, h⟩
  · have hg : Tryz.prog.globalNamed "strconv.ErrRange" = some 3 := by kernel_rfl
    obtain ⟨a, s, hv, _⟩ := laid_sentinel c3 hg (by kernel_rfl) Tryz.underlying103 row_err Tryz.underlying382 Tryz.underlying384 rfl rfl Tryz.underlying9 (by kernel_rfl) (by kernel_rfl)
    obtain ⟨T, f, h⟩ := var_at hg hv
    exact ⟨T, f, _, _, h⟩
end Go.Proofs.YtnpcbfllnkiopaaGreatDoor
namespace Go.Proofs.YtnpcbfllnkiopaaGreatDoor
open Go.RowKit
set_option maxRecDepth 100000 in
theorem same_event_neq (x0 : Int) (x1 : ByteArray) (x2 : ByteArray) (x3 : Int) (x4 : ByteArray) (w : World) : (binOp .neq 54 (.agg #[.int .i64 x0, .string x1, .string x2, .int .i64 x3, .string x4]) (.agg #[.int .i64 x0, .string x1, .string x2, .int .i64 x3, .string x4])).run Tryz.prog w = .ok (.bool false) w := by
  have hS : Tryz.prog.underlying 54 = some (.struct (Tryz.prog.fieldsOf 54)) := by kernel_rfl
  have hp : Tryz.prog.stoodInHeld 54 = false := by kernel_rfl
  rw [run_neq_struct, show (10000 : Nat) = 9999 + 1 from rfl, run_equalIn_agg w 9999 54 _ _ hS hp]
  simp only [Program.fieldsOf, Tryz.underlying54]
  have u3 := Tryz.underlying3
  have u9 := Tryz.underlying9
  clear hS hp
  go_simp
theorem guard_event : Tryz.prog.eqGuardType Tryz.prog.depth 54 = false := by kernel_rfl
theorem equal_event_any (l : List Ev) (A1 A2 : Option Addr) (n c1 c2 : Nat) (w : World) (h1 : SlT evEnc 5 54 w A1 n l) (h2 : SlT evEnc 5 54 w A2 n l) (hn : n ≤ 1000000) :
  Calls Tryz.prog 21 #[.slice A1 n c1, .slice A2 n c2] w (fun e w' => e = .returned (.bool true) ∧ w.grownBy w' none) := by
 refine gw_enter ⟨26, w, none, []⟩ Tryz.func21 rfl Tryz.ntmps21 rfl (mem0 (X := [SlOld evEnc 5 54 w.heap.size none A1 n l, SlOld evEnc 5 54 w.heap.size none A2 n l]) (allF_cons h1.old (allF_cons h2.old allF_nil)) (allL_cons SlOld.lasts (allL_cons SlOld.lasts allL_nil))) ?_
 refine sr_ ?_
 have hlen := h1.len
 refine sg_ rfl (nn_ (gw_seq (sr_ (mv_ rfl (wl_ov (ov_len es47 rfl) rfl (mv_ rfl (wl_ov (ov_len es47 rfl) rfl (wl_ov (ov_neq rfl rfl) rfl ?_))))))))
 refine wl_set 10 (v' := .bool false) rfl (congrArg Value.bool (by simp)) ?_
 refine nn_ (cf_ rfl (gw_skip (nx_then (gw_seq (sr_ (mv_ rfl (wl_ov (ov_len es47 rfl) rfl (mv_ rfl (nn_ (gw_block ?_))))))))))
 refine gw_loop (γ := Nat) (fun (k : Nat) => k ≤ n) (fun (k : Nat) => [(0, .slice A1 n c1), (1, .slice A2 n c2), (12, .int .i64 ((n : Nat) : Int)), (13, .int .i64 ((k : Nat) : Int))]) (fun (k : Nat) => fun _ => True) (fun (k : Nat) => []) (fun (k : Nat) => []) (fun (k : Nat) => [SlOld evEnc 5 54 w.heap.size none A1 n l, SlOld evEnc 5 54 w.heap.size none A2 n l]) (fun (k : Nat) => n - k) 0 (Nat.zero_le _) ⟨rfl, rfl, rfl, rfl, trivial⟩ (fun _ hm => hm.pick [] [] [0, 1] rfl rfl) ?_
 intro k hinv
 replace hinv : k ≤ n := hinv
 refine sr_ (wl_ov (ov_lss rfl rfl) rfl (nn_ (gw_seq ?_)))
 refine gw_cond rfl (fun hh => ?_) (fun hh => ?_)
 ·have hk : ((k : Nat) : Int) < ((n : Nat) : Int) := by simpa using hh
  clear hh
  refine gw_skip (nx_then (gw_seq (gw_block (sr_ ?_))))
  obtain ⟨b1, o1, hA, _, _⟩ := h1.get (by omega)
  subst hA
  obtain ⟨b2, o2, hA, _, _⟩ := h2.get (by omega)
  subst hA
  obtain ⟨x, hx⟩ : ∃ x, l[k]? = some x := ⟨_, List.getElem?_eq_getElem (by omega)⟩
  obtain ⟨x0, x1, x2, x3, x4⟩ := x
  refine mv_ rfl (sg_ rfl (nn_ (gw_seq ?_)))
  refine gd (fun wz => (SlOld evEnc 5 54 w.heap.size none (some ⟨b1, o1, none⟩) n l) wz ∧ (SlOld evEnc 5 54 w.heap.size none (some ⟨b2, o2, none⟩) n l) wz ∧ True) mixed (fun _ hm => ⟨hm.fa 0, hm.fa 1, trivial⟩) fun z => ?_
  refine wt 0 9 1 rfl z (ov_move rfl) ?_
  refine wt 1 9 3 rfl z (ov_move rfl) ?_
  refine wt 2 9 7 rfl z (ov_index (j := k) es47 rfl rfl (by omega)) ?_
  refine wt 3 9 15 rfl z (ov_elem (vs := [.int .i64 x0, .string x1, .string x2, .int .i64 x3, .string x4]) rz54 rfl (fun _ hm => (hm.1).1) hx rfl rfl) ?_
  refine wt 4 9 31 rfl z (ov_move rfl) ?_
  refine wt 5 9 63 rfl z (ov_move rfl) ?_
  refine wt 6 9 127 rfl z (ov_index (j := k) es47 rfl rfl (by omega)) ?_
  refine wt 7 9 255 rfl z (ov_elem (vs := [.int .i64 x0, .string x1, .string x2, .int .i64 x3, .string x4]) rz54 rfl (fun _ hm => (hm.2.1).1) hx rfl rfl) ?_
  refine wt 8 9 511 rfl z (ov_bin rfl rfl (cmp_agg guard_event (fun wx => same_event_neq x0 x1 x2 x3 x4 wx))) ?_
  refine wa_done (by kernel_rfl) ?_
  refine nx_then (cf_ rfl (gw_skip (nx_blk_nrm (nx_then (gw_region (ad_ rfl rfl (mv_ rfl (wl_nil ?_))))))))
  exact nx_round (k + 1) (by omega) (by omega) ⟨rfl, rfl, rfl, (some_int (by omega)), trivial⟩ (fun _ hm => hm.pick [] [] [0, 1] rfl rfl)
 have hk : ¬ (((k : Nat) : Int) < ((n : Nat) : Int)) := by simpa using hh
 clear hh
 refine gw_exit ?_
 refine nx_then_exit (nx_then_exit ?_)
 refine nx_blk_here ?_
 refine nx_then (sr_ (sg_ rfl (nn_ ?_)))
 refine gw_ret ?_
 refine nx_ret1 rfl rfl fun wx hm => ?_
 exact ⟨rfl, hm.g⟩
theorem hrGot.open {t : ByteArray} {w w' : World} {e : Ending} (h : hrGot t w e w') : ∃ A n c, e = .returned (.tuple #[.agg #[.string (hrH t).key, .string (hrH t).driver, .int .i64 (hrH t).fr, .int .i64 (hrH t).to_, .slice A n c], .int .i64 (hrAt t), .int .i64 (hrE t)]) ∧ SlT lgEnc 9 128 w' A n (hrH t).legs ∧ w.grownBy w' none := by
  obtain ⟨k, d, f, t2, A, n, c, he, hH, hs, hg⟩ := h
  refine ⟨A, n, c, ?_, hs, hg⟩
  rw [he, show k = (hrH t).key from (congrArg Hr.key hH).symm, show d = (hrH t).driver from (congrArg Hr.driver hH).symm, show f = (hrH t).fr from (congrArg Hr.fr hH).symm, show t2 = (hrH t).to_ from (congrArg Hr.to_ hH).symm]
theorem hrH_len {t : ByteArray} (ht : t.size ≤ 200000) : (hrH t).legs.length ≤ t.size := by
  have h := (hrR_all ht).2
  unfold hrH
  split
  · exact Nat.zero_le _
  · split
    · exact Nat.zero_le _
    · split
      · exact Nat.zero_le _
      · rename_i x hx
        split
        · rw [hx] at h; exact h
        · exact Nat.zero_le _
theorem hirGen_any (w : World) (B sb m : Nat) (hS : Strm 25 w B sb m) (hm : m ≤ 1000000) (htx : TxtO w.heap.size (some sb) w) :
  Calls Tryz.prog 24 #[.pointer (some ⟨sb, 0, none⟩)] w (fun e w' => ∃ v : ByteArray, e = .returned (.string v) ∧ v.size ≤ 30000 ∧ Strm 25 w' B sb (m + 2000) ∧ w.grownBy w' (some sb)) := by
 refine gw_enter ⟨20, w, (some sb), [128]⟩ Tryz.func24 rfl Tryz.ntmps24 rfl (memS (X := [TxtO w.heap.size (some sb)]) hS (allF_cons htx allF_nil) (allL_cons TxtO.lasts allL_nil)) ?_
 refine sr_ (sg_ rfl (nn_ (sr_ (mv_ rfl (mv_ rfl ?_)))))
 refine wl_buildSlice (e := 3) (cs := [.int .i64 0, .int .i64 100]) rfl (by kernel_rfl) rfl fun g1 => ?_
 refine wl_got (γ := Int) (val := fun v => .int .i64 v) (φ := fun v => v ∈ ([0, 100] : List Int)) rfl cb34 rfl rfl rfl rfl (fun wx hm => (pick_any [0, 100] _ _ _ wx B sb _ hm.k (by omega) (by simp) (by simp) (hm.blkI 0 rfl) (hm.neRow 0 rfl rfl))) fun pf hpf => ?_
 have bpf : 0 ≤ pf ∧ pf ≤ 100 := mem_rng hpf (by decide)
 have bpf0 := bpf.1
 have bpf1 := bpf.2
 clear bpf
 refine wl_calls (γ := ByteArray × ByteArray × Int × Int × Option Addr × Nat × Nat × List Lg) (val := (fun g => .agg #[.string g.1, .string g.2.1, .int .i64 g.2.2.1, .int .i64 g.2.2.2.1, .slice g.2.2.2.2.1 g.2.2.2.2.2.1 g.2.2.2.2.2.2.1])) (φ := (fun g => hireE (⟨g.1, g.2.1, g.2.2.1, g.2.2.2.1, g.2.2.2.2.2.2.2⟩ : Hr) = 0 ∧ g.2.2.2.2.2.1 ≤ 4)) (Y := (fun g => fun wy => SlT lgEnc 9 128 wy g.2.2.2.2.1 g.2.2.2.2.2.1 g.2.2.2.2.2.2.2)) (m' := m + 1 + 1500) rfl cb76 rfl rfl rfl rfl (fun wx hm => (rightHireR_any ⟨#[104, 49]⟩ pf wx B sb _ hm.k (by omega) (by decide) (by kernel_rfl) (by omega) (by omega)).mono fun _ _ ⟨k, d, f, t2, A, n, c, ls, he, h1, h2, h3, h4, h5, hS, hg⟩ => ⟨(k, d, f, t2, A, n, c, ls), he, ⟨h5, h4⟩, hS, hg, h1⟩) (fun _ => SlT.lasts2 rfl) ?_
 rintro ⟨k, d, f, t2, A, n, c, ls⟩ hH
 dsimp only at hH ⊢
 obtain ⟨h0, hn4⟩ := hH
 have hB := hrB_of h0
 have hts := hirTx_sz (l := ls) hB hB.2.2.2.2.1
 have hl20 : ls.length ≤ 20 := hB.2.2.2.2.2
 refine wl_callv rfl cb23 rfl rfl (fun wx hm => (hirLines_any k d f t2 ls A n c wx (hm.fact 1 rfl).1 (hm.fact 0 rfl) hB)) ?_
 refine sg_ rfl (nn_ (gw_seq (sr_ (mv_ rfl ?_))))
 refine wl_buildSlice (e := 3) (cs := [.int .i64 0, .int .i64 0, .int .i64 1, .int .i64 2]) rfl (by kernel_rfl) rfl fun g2 => ?_
 refine wl_got (γ := Int) (val := fun v => .int .i64 v) (φ := fun v => v ∈ ([0, 0, 1, 2] : List Int)) rfl cb34 rfl rfl rfl rfl (fun wx hm => (pick_any [0, 0, 1, 2] _ _ _ wx B sb _ hm.k (by omega) (by simp) (by simp) (hm.blkI 0 rfl) (hm.neRow 0 rfl rfl))) fun pv hpv => ?_
 have bpv : 0 ≤ pv ∧ pv ≤ 2 := mem_rng hpv (by decide)
 have bpv0 := bpv.1
 have bpv1 := bpv.2
 clear bpv
 clear hpv
 obtain hv3 | hv3 | hv3 : pv = 0 ∨ pv = 1 ∨ pv = 2 := (by omega)
 ·subst hv3
  refine mv_ rfl (nn_ (gw_block ?_))
  refine gw_rounds 1 ?_
  refine gr_next ?_
  refine sr_ (wl_ov (ov_lss rfl rfl) rfl ?_)
  refine wl_set 14 (v' := .bool false) rfl (congrArg Value.bool (by decide)) ?_
  refine nn_ (gw_seq (cf_ rfl ?_))
  refine gw_exit ?_
  refine nx_then_exit (nx_then_exit ?_)
  refine nx_blk_here ?_
  refine nx_then (sr_ (mv_ rfl (sg_ rfl (nn_ ?_))))
  refine gw_ret ?_
  refine nx_ret1 rfl rfl fun wx hm => ?_
  exact ⟨(hirTx (⟨k, d, f, t2, ls⟩ : Hr) ls), rfl, by omega, hm.k.more (by omega), hm.g⟩
 ·subst hv3
  refine mv_ rfl (nn_ (gw_block ?_))
  refine gw_rounds 2 ?_
  refine gr_next ?_
  refine sr_ (wl_ov (ov_lss rfl rfl) rfl ?_)
  refine wl_set 14 (v' := .bool true) rfl (congrArg Value.bool (by decide)) ?_
  refine nn_ (gw_seq (ct_ rfl (gw_skip (nx_then (gw_seq (gw_block (gw_region (mv_ rfl (mv_ rfl ?_)))))))))
  refine wl_calls (γ := ByteArray) (val := (fun g => .string g)) (φ := (fun g => g.size ≤ (hirTx (⟨k, d, f, t2, ls⟩ : Hr) ls).size + 14)) (Y := (fun g => fun _ => True)) (m' := m + 1 + 1500 + 1 + 3) rfl cb35 rfl rfl rfl rfl (fun wx hm => (by have h := gchanged_any (hirTx (⟨k, d, f, t2, ls⟩ : Hr) ls) ⟨#[32, 10, 45, 48, 45, 57, 104, 108, 101, 118]⟩ wx B sb _ hm.k (by omega) (by omega) (by decide +kernel); exact h.mono fun _ _ ⟨v, he, hv, hS, hg⟩ => ⟨v, he, Nat.le_trans hv (by rw [show (⟨#[32, 10, 45, 48, 45, 57, 104, 108, 101, 118]⟩ : ByteArray).size = 10 from rfl]; omega), hS, hg, trivial⟩)) (fun _ => Lasts2.true_) ?_
  rintro u1 hs2
  refine sg_ rfl (wl_nil (nx_blk_nrm (nx_then (gw_region (ad_ rfl rfl ?_)))))
  refine wl_set 18 (v' := .int .i64 1) rfl rfl ?_
  refine mv_ rfl (wl_nil ?_)
  refine nx_next ?_
  refine gr_next ?_
  refine sr_ (wl_ov (ov_lss rfl rfl) rfl ?_)
  refine wl_set 14 (v' := .bool false) rfl (congrArg Value.bool (by decide)) ?_
  refine nn_ (gw_seq (cf_ rfl ?_))
  refine gw_exit ?_
  refine nx_then_exit (nx_then_exit ?_)
  refine nx_blk_here ?_
  refine nx_then (sr_ (mv_ rfl (sg_ rfl (nn_ ?_))))
  refine gw_ret ?_
  refine nx_ret1 rfl rfl fun wx hm => ?_
  exact ⟨u1, rfl, by omega, hm.k.more (by omega), hm.g⟩
 subst hv3
 refine mv_ rfl (nn_ (gw_block ?_))
 refine gw_rounds 3 ?_
 refine gr_next ?_
 refine sr_ (wl_ov (ov_lss rfl rfl) rfl ?_)
 refine wl_set 14 (v' := .bool true) rfl (congrArg Value.bool (by decide)) ?_
 refine nn_ (gw_seq (ct_ rfl (gw_skip (nx_then (gw_seq (gw_block (gw_region (mv_ rfl (mv_ rfl ?_)))))))))
 refine wl_calls (γ := ByteArray) (val := (fun g => .string g)) (φ := (fun g => g.size ≤ (hirTx (⟨k, d, f, t2, ls⟩ : Hr) ls).size + 14)) (Y := (fun g => fun _ => True)) (m' := m + 1 + 1500 + 1 + 3) rfl cb35 rfl rfl rfl rfl (fun wx hm => (by have h := gchanged_any (hirTx (⟨k, d, f, t2, ls⟩ : Hr) ls) ⟨#[32, 10, 45, 48, 45, 57, 104, 108, 101, 118]⟩ wx B sb _ hm.k (by omega) (by omega) (by decide +kernel); exact h.mono fun _ _ ⟨v, he, hv, hS, hg⟩ => ⟨v, he, Nat.le_trans hv (by rw [show (⟨#[32, 10, 45, 48, 45, 57, 104, 108, 101, 118]⟩ : ByteArray).size = 10 from rfl]; omega), hS, hg, trivial⟩)) (fun _ => Lasts2.true_) ?_
 rintro u1 hs2
 refine sg_ rfl (wl_nil (nx_blk_nrm (nx_then (gw_region (ad_ rfl rfl ?_)))))
 refine wl_set 18 (v' := .int .i64 1) rfl rfl ?_
 refine mv_ rfl (wl_nil ?_)
 refine nx_next ?_
 refine gr_next ?_
 refine sr_ (wl_ov (ov_lss rfl rfl) rfl ?_)
 refine wl_set 14 (v' := .bool true) rfl (congrArg Value.bool (by decide)) ?_
 refine nn_ (gw_seq (ct_ rfl (gw_skip (nx_then (gw_seq (gw_block (gw_region (mv_ rfl (mv_ rfl ?_)))))))))
 refine wl_calls (γ := ByteArray) (val := (fun g => .string g)) (φ := (fun g => g.size ≤ (u1).size + 14)) (Y := (fun g => fun _ => True)) (m' := m + 1 + 1500 + 1 + 3 + 3) rfl cb35 rfl rfl rfl rfl (fun wx hm => (by have h := gchanged_any u1 ⟨#[32, 10, 45, 48, 45, 57, 104, 108, 101, 118]⟩ wx B sb _ hm.k (by omega) (by omega) (by decide +kernel); exact h.mono fun _ _ ⟨v, he, hv, hS, hg⟩ => ⟨v, he, Nat.le_trans hv (by rw [show (⟨#[32, 10, 45, 48, 45, 57, 104, 108, 101, 118]⟩ : ByteArray).size = 10 from rfl]; omega), hS, hg, trivial⟩)) (fun _ => Lasts2.true_) ?_
 rintro u2 hs3
 refine sg_ rfl (wl_nil (nx_blk_nrm (nx_then (gw_region (ad_ rfl rfl ?_)))))
 refine wl_set 18 (v' := .int .i64 2) rfl rfl ?_
 refine mv_ rfl (wl_nil ?_)
 refine nx_next ?_
 refine gr_next ?_
 refine sr_ (wl_ov (ov_lss rfl rfl) rfl ?_)
 refine wl_set 14 (v' := .bool false) rfl (congrArg Value.bool (by decide)) ?_
 refine nn_ (gw_seq (cf_ rfl ?_))
 refine gw_exit ?_
 refine nx_then_exit (nx_then_exit ?_)
 refine nx_blk_here ?_
 refine nx_then (sr_ (mv_ rfl (sg_ rfl (nn_ ?_))))
 refine gw_ret ?_
 refine nx_ret1 rfl rfl fun wx hm => ?_
 exact ⟨u2, rfl, by omega, hm.k.more (by omega), hm.g⟩
theorem hireTexts_walk (a0 : Option Addr) (len0 cap0 : Nat) (z0 : List Int) (w : World) (hR : RowIn w a0 len0 cap0 z0) (htx : TxtW w) :
  Calls Tryz.prog 4 #[.slice a0 len0 cap0] w fun e w' => e = .returned (.bool true) ∧ Below w.heap.size w w' := by
 refine gw_enter ⟨101, w, none, []⟩ Tryz.func4 rfl Tryz.ntmps4 rfl (mem0 (X := []) allF_nil allL_nil) ?_
 refine sr_ (sg_ rfl (nn_ (sr_ (mv_ rfl ?_))))
 refine wl_ov (ov_build (cs := [.slice a0 len0 cap0, .int .i64 0]) rfl (by kernel_rfl)) rfl ?_
 refine wl_box rfl rfl rfl fun sb => ?_
 refine sg_ rfl (nn_ (sr_ (mv_ rfl ?_)))
 refine wl_law [128, 54] hR 0 rfl fun w1 B hg1 hsb => ?_
 refine wl_also (Y := TxtO w1.heap.size (some sb)) (TxtO.lasts) (fun wx hm => txt_law htx hg1 hsb hm.g) ?_
 refine wl_calls (γ := ByteArray × ByteArray × Int × Int × Option Addr × Nat × Nat × List Lg) (val := (fun g => .agg #[.string g.1, .string g.2.1, .int .i64 g.2.2.1, .int .i64 g.2.2.2.1, .slice g.2.2.2.2.1 g.2.2.2.2.2.1 g.2.2.2.2.2.2.1])) (φ := (fun g => HrOk g.1 g.2.1 g.2.2.2.2.2.2.2 ∧ g.2.2.2.2.2.1 ≤ 4)) (Y := (fun g => fun wy => SlT lgEnc 9 128 wy g.2.2.2.2.1 g.2.2.2.2.2.1 g.2.2.2.2.2.2.2)) (m' := 0 + 2000) rfl cb17 rfl rfl rfl rfl (fun wx hm => (ghire_any wx B sb _ hm.k (by omega)).mono fun _ _ ⟨k, d, f, t2, A, n, c, ls, he, hsl, hok, hn4, hS, hg⟩ => ⟨(k, d, f, t2, A, n, c, ls), he, ⟨hok, hn4⟩, hS, hg, hsl⟩) (fun _ => SlT.lasts2 rfl) ?_
 rintro ⟨k, d, f, t2, A, n, c, ls⟩ hH
 dsimp only at hH ⊢
 obtain ⟨hok, hn4⟩ := hH
 obtain ⟨HE, hHE⟩ : ∃ z, z = hireE (⟨k, d, f, t2, ls⟩ : Hr) := ⟨_, rfl⟩
 by_cases hHE0 : HE = 0
 ·subst hHE0
  have hB := hrB_of hHE.symm
  refine wl_alloc zc45 rfl fun g1 => ?_
  refine wl_stores (cs' := [.string k, .string d, .int .i64 f, .int .i64 t2, .slice A n c]) 0 rz45 rfl rfl rfl rfl rfl rfl rfl rfl ?_
  refine nn_ (sr_ ?_)
  refine wl_ov (ov_loads rz45 rfl (fun _ hm => hm.blkI 0 rfl) rfl rfl) rfl ?_
  refine wl_callx (γ := Option Addr × Nat × Nat) (val := (fun g => .tuple #[.slice g.1 g.2.1 g.2.2, .int .i64 0])) (φ := (fun g => g.2.1 ≤ 8)) (Y := (fun g => fun wy => SlT evEnc 5 54 wy g.1 g.2.1 (isort evLt (hirEvs ls)))) rfl cb18 rfl rfl (fun wx hm => (hirEvents_right k d f t2 ls A n c wx (hm.fact 0 rfl) hok hn4 hHE.symm).mono fun _ _ ⟨E, q, ec, he, h1, h2, hg⟩ => ⟨(E, q, ec), he, h2, hg, h1⟩) (fun _ => SlT.lasts2 rfl) ?_
  rintro ⟨E1, q1, ec1⟩ hq1
  dsimp only at hq1 ⊢
  refine mv_ rfl (wl_ov (ov_extract rfl rfl) rfl (wl_ov (ov_extract rfl rfl) rfl (sg_ rfl (sg_ rfl (nn_ (sr_ ?_))))))
  refine wl_ov (ov_loads rz45 rfl (fun _ hm => hm.blkI 0 rfl) rfl rfl) rfl ?_
  refine wl_callv rfl cb19 rfl rfl (fun wx hm => (hirText_right k d f t2 ls A n c wx (hm.fact 2 rfl).1 (hm.fact 1 rfl) hok (by omega) hHE.symm)) ?_
  refine mv_ rfl (wl_ov (ov_extract rfl rfl) rfl (wl_ov (ov_extract rfl rfl) rfl (sg_ rfl (sg_ rfl (nn_ (sr_ ?_))))))
  refine wl_ov (ov_loads rz45 rfl (fun _ hm => hm.blkI 0 rfl) rfl rfl) rfl ?_
  refine wl_callv (v := .int .i64 0) rfl cb20 rfl rfl (fun wx hm => (by have h := hireFault_any k d f t2 ls A n c wx (hm.fact 1 rfl) hok (by omega); rw [← hHE] at h; exact h)) ?_
  refine sg_ rfl (nn_ (gw_seq (sr_ (mv_ rfl (mv_ rfl (wl_ov (ov_neq rfl rfl) rfl ?_))))))
  refine wl_set 33 (v' := .bool false) rfl (congrArg Value.bool (by decide)) ?_
  refine mv_ rfl (wl_guard_on rfl rfl rfl (mv_ rfl (wl_guard_on rfl rfl rfl (mv_ rfl (wl_guard_on rfl rfl rfl (wl_ov (ov_neq rfl rfl) rfl ?_))))))
  refine wl_set 37 (v' := .bool false) rfl (congrArg Value.bool (by decide)) ?_
  refine pf_ rfl rfl (mv_ rfl (wl_guard_on rfl rfl rfl (mv_ rfl (wl_guard_on rfl rfl rfl (wl_ov (ov_neq rfl rfl) rfl ?_)))))
  refine wl_set 41 (v' := .bool false) rfl (congrArg Value.bool (by decide)) ?_
  refine wl_guard_on rfl rfl rfl (mv_ rfl (goff rfl rfl rfl (goff rfl rfl rfl (goff rfl rfl rfl (goff rfl rfl rfl (gnd rfl rfl rfl (gnd rfl rfl rfl (goff rfl rfl rfl (wl_guard_on rfl rfl rfl (pf_ rfl rfl (pf_ rfl rfl (mv_ rfl (wl_guard_on rfl rfl rfl ?_)))))))))))))
  refine mv_ rfl (wl_guard_on rfl rfl rfl (wl_ov (ov_eql rfl rfl) rfl ?_))
  refine wl_set 54 (v' := .bool true) rfl (congrArg Value.bool (by decide)) ?_
  refine wl_guard_on rfl rfl rfl (mv_ rfl (wl_guard_on rfl rfl rfl (mv_ rfl (wl_guard_on rfl rfl rfl ?_))))
  refine wl_ov (ov_loads rz45 rfl (fun _ hm => hm.blkI 0 rfl) rfl rfl) rfl ?_
  refine wl_guard_on rfl rfl rfl ?_
  refine wl_callx (γ := Option Addr × Nat × Nat) (val := (fun g => .slice g.1 g.2.1 g.2.2)) (φ := (fun g => g.2.1 ≤ 8)) (Y := (fun g => fun wy => SlT evEnc 5 54 wy g.1 g.2.1 (isort evLt (hirEvs ls)))) rfl cb22 rfl rfl (fun wx hm => (hirEvents_ref k d f t2 ls A n c wx (hm.fact 1 rfl) hB.2.2.2.2.1 hn4).mono fun _ _ ⟨E, q, ec, he, h1, h2, hg⟩ => ⟨(E, q, ec), he, h2, hg, h1⟩) (fun _ => SlT.lasts2 rfl) ?_
  rintro ⟨E2, q2, ec2⟩ hq2
  dsimp only at hq2 ⊢
  refine wl_guard_on rfl rfl rfl ?_
  refine wl_look (R := q1 = q2) (fun wx hm => by have h3 := ((hm.fact 1 rfl)).len; have h4 := ((hm.fact 0 rfl)).len; omega) ?_
  intro hqq
  subst hqq
  refine wl_callv rfl cb21 rfl rfl (fun wx hm => (equal_event_any (isort evLt (hirEvs ls)) E1 E2 q1 ec1 ec2 wx (hm.fact 1 rfl) (hm.fact 0 rfl) (by omega))) ?_
  refine wl_guard_on rfl rfl rfl (wl_ov (ov_un_not rfl) rfl ?_)
  refine wl_set 60 (v' := .bool false) rfl (congrArg Value.bool (by decide)) ?_
  refine wl_guard_on rfl rfl rfl (mv_ rfl (wl_guard_on rfl rfl rfl (mv_ rfl (wl_guard_on rfl rfl rfl ?_))))
  refine wl_ov (ov_loads rz45 rfl (fun _ hm => hm.blkI 0 rfl) rfl rfl) rfl ?_
  refine wl_guard_on rfl rfl rfl ?_
  refine wl_callv rfl cb23 rfl rfl (fun wx hm => (hirLines_any k d f t2 ls A n c wx (hm.fact 3 rfl).1 (hm.fact 2 rfl) hB)) ?_
  refine wl_guard_on rfl rfl rfl (wl_ov (ov_sneq rfl rfl) rfl (wl_guard_on rfl rfl rfl (pf_ rfl rfl (wl_guard_on rfl rfl rfl (pt_ rfl rfl (pf_ rfl rfl (nn_ ?_)))))))
  refine gw_set 68 (v' := .bool false) rfl (congrArg Value.bool (by rw [beq_self_eq_true]; rfl)) ?_
  refine cf_ rfl (gw_skip (nx_then (sr_ (mv_ rfl ?_))))
  refine wl_calls (γ := ByteArray) (val := (fun g => .string g)) (φ := (fun g => g.size ≤ 30000)) (Y := (fun g => fun _ => True)) (m' := 0 + 2000 + 2000) rfl cb24 rfl rfl rfl rfl (fun wx hm => (hirGen_any wx B sb _ hm.k (by omega) ((hm.fact 3 rfl).heap)).mono fun _ _ ⟨u, he, hu, hS, hg⟩ => ⟨u, he, hu, hS, hg, trivial⟩) (fun _ => Lasts2.true_) ?_
  rintro u hu
  refine sg_ rfl (nn_ (gw_seq (sr_ (mv_ rfl ?_))))
  refine wl_got (γ := Bool) (val := fun v => .bool v) (φ := fun v => True) rfl cb25 rfl rfl rfl rfl (fun wx hm => ((flip_any _ wx B sb _ hm.k (by omega) (by omega) (by omega)).mono fun _ _ ⟨v, he, hS, hg⟩ => ⟨v, trivial, he, hS, hg⟩)) fun fl _ => ?_
  refine nn_ ?_
  refine gw_cond rfl (fun hh => ?_) (fun hh => ?_)
  ·have hfl : fl = true := by simpa using hh
   clear hh
   refine gw_region (sg_ rfl (nn_ (sr_ (mv_ rfl ?_))))
   have hrl := hrH_len (t := (⟨#[]⟩ : ByteArray)) (by decide)
   refine wl_callx (γ := Option Addr × Nat × Nat) (val := (fun g => .tuple #[.agg #[.string ((hrH (⟨#[]⟩ : ByteArray)).key), .string ((hrH (⟨#[]⟩ : ByteArray)).driver), .int .i64 ((hrH (⟨#[]⟩ : ByteArray)).fr), .int .i64 ((hrH (⟨#[]⟩ : ByteArray)).to_), .slice g.1 g.2.1 g.2.2], .int .i64 (hrAt (⟨#[]⟩ : ByteArray)), .int .i64 (hrE (⟨#[]⟩ : ByteArray))])) (φ := (fun g => g.2.1 = (hrH (⟨#[]⟩ : ByteArray)).legs.length)) (Y := (fun g => fun wy => SlT lgEnc 9 128 wy g.1 g.2.1 (hrH (⟨#[]⟩ : ByteArray)).legs)) rfl cb26 rfl rfl (fun wx hm => (hRead_w (⟨#[]⟩ : ByteArray) wx (hm.fact 4 rfl).1 (by decide)).mono fun _ _ h => by
    obtain ⟨A, n, c, he, hsl, hg⟩ := h.open
    exact ⟨(A, n, c), he, hsl.len.symm, hg, hsl⟩) (fun _ => SlT.lasts2 rfl) ?_
   rintro ⟨A3, n3, c3⟩ hk3
   dsimp only at hk3 ⊢
   subst hk3
   refine mv_ rfl (wl_ov (ov_extract rfl rfl) rfl (wl_ov (ov_extract rfl rfl) rfl (wl_ov (ov_extract rfl rfl) rfl ?_)))
   refine wl_alloc zc45 rfl fun g3 => ?_
   refine wl_stores (cs' := [.string ((hrH (⟨#[]⟩ : ByteArray)).key), .string ((hrH (⟨#[]⟩ : ByteArray)).driver), .int .i64 ((hrH (⟨#[]⟩ : ByteArray)).fr), .int .i64 ((hrH (⟨#[]⟩ : ByteArray)).to_), .slice A3 ((hrH (⟨#[]⟩ : ByteArray)).legs.length) c3]) 0 rz45 rfl rfl rfl rfl rfl rfl rfl rfl ?_
   refine sg_ rfl (sg_ rfl (nn_ (sr_ (mv_ rfl ?_))))
   refine wl_callx (γ := Option Addr × Nat × Nat) (val := (fun g => .tuple #[.agg #[.string ((hrH (⟨#[]⟩ : ByteArray)).key), .string ((hrH (⟨#[]⟩ : ByteArray)).driver), .int .i64 ((hrH (⟨#[]⟩ : ByteArray)).fr), .int .i64 ((hrH (⟨#[]⟩ : ByteArray)).to_), .slice g.1 g.2.1 g.2.2], .int .i64 (hrAt (⟨#[]⟩ : ByteArray)), .int .i64 (hrE (⟨#[]⟩ : ByteArray))])) (φ := (fun g => g.2.1 = (hrH (⟨#[]⟩ : ByteArray)).legs.length)) (Y := (fun g => fun wy => SlT lgEnc 9 128 wy g.1 g.2.1 (hrH (⟨#[]⟩ : ByteArray)).legs)) rfl cb27 rfl rfl (fun wx hm => (hRref_w (⟨#[]⟩ : ByteArray) wx (hm.fact 5 rfl).1 (by decide)).mono fun _ _ h => by
    obtain ⟨A, n, c, he, hsl, hg⟩ := h.open
    exact ⟨(A, n, c), he, hsl.len.symm, hg, hsl⟩) (fun _ => SlT.lasts2 rfl) ?_
   rintro ⟨A4, n4, c4⟩ hk4
   dsimp only at hk4 ⊢
   subst hk4
   refine mv_ rfl (wl_ov (ov_extract rfl rfl) rfl (wl_ov (ov_extract rfl rfl) rfl (wl_ov (ov_extract rfl rfl) rfl ?_)))
   refine wl_alloc zc45 rfl fun g4 => ?_
   refine wl_stores (cs' := [.string ((hrH (⟨#[]⟩ : ByteArray)).key), .string ((hrH (⟨#[]⟩ : ByteArray)).driver), .int .i64 ((hrH (⟨#[]⟩ : ByteArray)).fr), .int .i64 ((hrH (⟨#[]⟩ : ByteArray)).to_), .slice A4 ((hrH (⟨#[]⟩ : ByteArray)).legs.length) c4]) 0 rz45 rfl rfl rfl rfl rfl rfl rfl rfl ?_
   refine sg_ rfl (sg_ rfl (nn_ (sr_ (mv_ rfl (mv_ rfl (wl_ov (ov_eql rfl rfl) rfl ?_))))))
   refine wl_set 87 (v' := .bool true) rfl (congrArg Value.bool (by simp)) ?_
   refine mv_ rfl (wl_guard_on rfl rfl rfl (mv_ rfl (wl_guard_on rfl rfl rfl (mv_ rfl (wl_guard_on rfl rfl rfl (wl_ov (ov_eql rfl rfl) rfl ?_))))))
   refine wl_set 91 (v' := .bool true) rfl (congrArg Value.bool (by simp)) ?_
   refine pt_ rfl rfl (mv_ rfl (wl_guard_on rfl rfl rfl ?_))
   refine wl_ov (ov_loads rz45 rfl (fun _ hm => hm.blkI 1 rfl) rfl rfl) rfl ?_
   refine wl_guard_on rfl rfl rfl ?_
   refine wl_ov (ov_loads rz45 rfl (fun _ hm => hm.blkI 0 rfl) rfl rfl) rfl ?_
   refine wl_guard_on rfl rfl rfl ?_
   refine wl_callv rfl cb28 rfl rfl (fun wx hm => (sameHire_any (hrH (⟨#[]⟩ : ByteArray)).key (hrH (⟨#[]⟩ : ByteArray)).driver (hrH (⟨#[]⟩ : ByteArray)).fr (hrH (⟨#[]⟩ : ByteArray)).to_ (hrH (⟨#[]⟩ : ByteArray)).legs A3 A4 _ c3 c4 wx (hm.fact 1 rfl) (hm.fact 0 rfl) (by exact Nat.le_trans hrl (by decide)))) ?_
   refine pt_ rfl rfl (mv_ rfl (wl_guard_on rfl rfl rfl ?_))
   refine wl_callv rfl cb29 rfl rfl (fun wx hm => (hired_any wx)) ?_
   refine pt_ rfl rfl (sg_ rfl (nn_ ?_))
   refine gw_ret ?_
   refine nx_ret1 rfl rfl fun wx hm => ?_
   exact ⟨rfl, law_end hg1 hsb hm.g⟩
  have hfl : fl = false := by simpa using hh
  clear hh
  refine gw_skip (nx_then (sr_ (mv_ rfl ?_)))
  have hrl := hrH_len (t := u) (by omega)
  refine wl_callx (γ := Option Addr × Nat × Nat) (val := (fun g => .tuple #[.agg #[.string ((hrH u).key), .string ((hrH u).driver), .int .i64 ((hrH u).fr), .int .i64 ((hrH u).to_), .slice g.1 g.2.1 g.2.2], .int .i64 (hrAt u), .int .i64 (hrE u)])) (φ := (fun g => g.2.1 = (hrH u).legs.length)) (Y := (fun g => fun wy => SlT lgEnc 9 128 wy g.1 g.2.1 (hrH u).legs)) rfl cb26 rfl rfl (fun wx hm => (hRead_w u wx (hm.fact 4 rfl).1 (by omega)).mono fun _ _ h => by
   obtain ⟨A, n, c, he, hsl, hg⟩ := h.open
   exact ⟨(A, n, c), he, hsl.len.symm, hg, hsl⟩) (fun _ => SlT.lasts2 rfl) ?_
  rintro ⟨A3, n3, c3⟩ hk3
  dsimp only at hk3 ⊢
  subst hk3
  refine mv_ rfl (wl_ov (ov_extract rfl rfl) rfl (wl_ov (ov_extract rfl rfl) rfl (wl_ov (ov_extract rfl rfl) rfl ?_)))
  refine wl_alloc zc45 rfl fun g5 => ?_
  refine wl_stores (cs' := [.string ((hrH u).key), .string ((hrH u).driver), .int .i64 ((hrH u).fr), .int .i64 ((hrH u).to_), .slice A3 ((hrH u).legs.length) c3]) 0 rz45 rfl rfl rfl rfl rfl rfl rfl rfl ?_
  refine sg_ rfl (sg_ rfl (nn_ (sr_ (mv_ rfl ?_))))
  refine wl_callx (γ := Option Addr × Nat × Nat) (val := (fun g => .tuple #[.agg #[.string ((hrH u).key), .string ((hrH u).driver), .int .i64 ((hrH u).fr), .int .i64 ((hrH u).to_), .slice g.1 g.2.1 g.2.2], .int .i64 (hrAt u), .int .i64 (hrE u)])) (φ := (fun g => g.2.1 = (hrH u).legs.length)) (Y := (fun g => fun wy => SlT lgEnc 9 128 wy g.1 g.2.1 (hrH u).legs)) rfl cb27 rfl rfl (fun wx hm => (hRref_w u wx (hm.fact 5 rfl).1 (by omega)).mono fun _ _ h => by
   obtain ⟨A, n, c, he, hsl, hg⟩ := h.open
   exact ⟨(A, n, c), he, hsl.len.symm, hg, hsl⟩) (fun _ => SlT.lasts2 rfl) ?_
  rintro ⟨A4, n4, c4⟩ hk4
  dsimp only at hk4 ⊢
  subst hk4
  refine mv_ rfl (wl_ov (ov_extract rfl rfl) rfl (wl_ov (ov_extract rfl rfl) rfl (wl_ov (ov_extract rfl rfl) rfl ?_)))
  refine wl_alloc zc45 rfl fun g6 => ?_
  refine wl_stores (cs' := [.string ((hrH u).key), .string ((hrH u).driver), .int .i64 ((hrH u).fr), .int .i64 ((hrH u).to_), .slice A4 ((hrH u).legs.length) c4]) 0 rz45 rfl rfl rfl rfl rfl rfl rfl rfl ?_
  refine sg_ rfl (sg_ rfl (nn_ (sr_ (mv_ rfl (mv_ rfl (wl_ov (ov_eql rfl rfl) rfl ?_))))))
  refine wl_set 87 (v' := .bool true) rfl (congrArg Value.bool (by simp)) ?_
  refine mv_ rfl (wl_guard_on rfl rfl rfl (mv_ rfl (wl_guard_on rfl rfl rfl (mv_ rfl (wl_guard_on rfl rfl rfl (wl_ov (ov_eql rfl rfl) rfl ?_))))))
  refine wl_set 91 (v' := .bool true) rfl (congrArg Value.bool (by simp)) ?_
  refine pt_ rfl rfl (mv_ rfl (wl_guard_on rfl rfl rfl ?_))
  refine wl_ov (ov_loads rz45 rfl (fun _ hm => hm.blkI 1 rfl) rfl rfl) rfl ?_
  refine wl_guard_on rfl rfl rfl ?_
  refine wl_ov (ov_loads rz45 rfl (fun _ hm => hm.blkI 0 rfl) rfl rfl) rfl ?_
  refine wl_guard_on rfl rfl rfl ?_
  refine wl_callv rfl cb28 rfl rfl (fun wx hm => (sameHire_any (hrH u).key (hrH u).driver (hrH u).fr (hrH u).to_ (hrH u).legs A3 A4 _ c3 c4 wx (hm.fact 1 rfl) (hm.fact 0 rfl) (by omega))) ?_
  refine pt_ rfl rfl (mv_ rfl (wl_guard_on rfl rfl rfl ?_))
  refine wl_callv rfl cb29 rfl rfl (fun wx hm => (hired_any wx)) ?_
  refine pt_ rfl rfl (sg_ rfl (nn_ ?_))
  refine gw_ret ?_
  refine nx_ret1 rfl rfl fun wx hm => ?_
  exact ⟨rfl, law_end hg1 hsb hm.g⟩
 refine wl_alloc zc45 rfl fun g7 => ?_
 refine wl_stores (cs' := [.string k, .string d, .int .i64 f, .int .i64 t2, .slice A n c]) 0 rz45 rfl rfl rfl rfl rfl rfl rfl rfl ?_
 refine nn_ (sr_ ?_)
 refine wl_ov (ov_loads rz45 rfl (fun _ hm => hm.blkI 0 rfl) rfl rfl) rfl ?_
 refine wl_callv (v := .tuple #[.slice none 0 0, .int .i64 HE]) rfl cb18 rfl rfl (fun wx hm => (by have h := hirEvents_bad k d f t2 ls A n c wx (hm.fact 0 rfl) hok hn4 (by rw [← hHE]; exact hHE0); rw [← hHE] at h; exact h)) ?_
 refine mv_ rfl (wl_ov (ov_extract rfl rfl) rfl (wl_ov (ov_extract rfl rfl) rfl (sg_ rfl (sg_ rfl (nn_ (sr_ ?_))))))
 refine wl_ov (ov_loads rz45 rfl (fun _ hm => hm.blkI 0 rfl) rfl rfl) rfl ?_
 refine wl_callv (v := .tuple #[.string ⟨#[]⟩, .int .i64 HE]) rfl cb19 rfl rfl (fun wx hm => (by have h := hirText_bad k d f t2 ls A n c wx (hm.fact 1 rfl).1 (hm.fact 0 rfl) hok (by omega) (by rw [← hHE]; exact hHE0); rw [← hHE] at h; exact h)) ?_
 refine mv_ rfl (wl_ov (ov_extract rfl rfl) rfl (wl_ov (ov_extract rfl rfl) rfl (sg_ rfl (sg_ rfl (nn_ (sr_ ?_))))))
 refine wl_ov (ov_loads rz45 rfl (fun _ hm => hm.blkI 0 rfl) rfl rfl) rfl ?_
 refine wl_callv (v := .int .i64 HE) rfl cb20 rfl rfl (fun wx hm => (by have h := hireFault_any k d f t2 ls A n c wx (hm.fact 0 rfl) hok (by omega); rw [← hHE] at h; exact h)) ?_
 refine sg_ rfl (nn_ (gw_seq (sr_ (mv_ rfl (mv_ rfl (wl_ov (ov_neq rfl rfl) rfl ?_))))))
 refine wl_set 33 (v' := .bool false) rfl (congrArg Value.bool (by simp)) ?_
 refine mv_ rfl (wl_guard_on rfl rfl rfl (mv_ rfl (wl_guard_on rfl rfl rfl (mv_ rfl (wl_guard_on rfl rfl rfl (wl_ov (ov_neq rfl rfl) rfl ?_))))))
 refine wl_set 37 (v' := .bool false) rfl (congrArg Value.bool (by simp)) ?_
 refine pf_ rfl rfl (mv_ rfl (wl_guard_on rfl rfl rfl (mv_ rfl (wl_guard_on rfl rfl rfl (wl_ov (ov_neq rfl rfl) rfl (wl_guard_on rfl rfl rfl (mv_ rfl ?_)))))))
 refine wl_set 42 (v' := .bool true) rfl (congrArg Value.bool (by rw [decide_eq_false hHE0]; rfl)) ?_
 refine wl_guard_on rfl rfl rfl (mv_ rfl (wl_guard_on rfl rfl rfl (wl_ov (ov_len es47 rfl) rfl ?_)))
 refine wl_set 44 (v' := .int .i64 0) rfl rfl ?_
 refine wl_guard_on rfl rfl rfl ?_
 refine wl_ov (ov_gtr rfl rfl) rfl ?_
 refine wl_set 45 (v' := .bool false) rfl (congrArg Value.bool (by decide)) ?_
 refine wl_guard_on rfl rfl rfl (mv_ rfl (wl_guard_on rfl rfl rfl (mv_ rfl (wl_guard_on rfl rfl rfl (wl_ov (ov_sneq rfl rfl) rfl ?_)))))
 refine wl_set 48 (v' := .bool false) rfl (congrArg Value.bool (by decide +kernel)) ?_
 refine wl_guard_on rfl rfl rfl (pf_ rfl rfl (wl_guard_on rfl rfl rfl (pt_ rfl rfl (pf_ rfl rfl (mv_ rfl (wl_guard_on rfl rfl rfl (mv_ rfl (wl_guard_on rfl rfl rfl (wl_ov (ov_eql rfl rfl) rfl (wl_guard_on rfl rfl rfl (mv_ rfl ?_)))))))))))
 refine wl_set 55 (v' := .bool false) rfl (congrArg Value.bool (decide_eq_false hHE0)) ?_
 refine goff rfl rfl rfl (goff rfl rfl rfl (goff rfl rfl rfl (goff rfl rfl rfl (goff rfl rfl rfl (goff rfl rfl rfl (gnd rfl rfl rfl (gnd rfl rfl rfl (gnd rfl rfl rfl (gnd rfl rfl rfl (goff rfl rfl rfl (wl_guard_on rfl rfl rfl (pf_ rfl rfl (pf_ rfl rfl ?_)))))))))))))
 refine nn_ (cf_ rfl (gw_skip (nx_then (sr_ (mv_ rfl ?_)))))
 refine wl_calls (γ := ByteArray) (val := (fun g => .string g)) (φ := (fun g => g.size ≤ 30000)) (Y := (fun g => fun _ => True)) (m' := 0 + 2000 + 2000) rfl cb24 rfl rfl rfl rfl (fun wx hm => (hirGen_any wx B sb _ hm.k (by omega) ((hm.fact 1 rfl).heap)).mono fun _ _ ⟨u, he, hu, hS, hg⟩ => ⟨u, he, hu, hS, hg, trivial⟩) (fun _ => Lasts2.true_) ?_
 rintro u hu
 refine sg_ rfl (nn_ (gw_seq (sr_ (mv_ rfl ?_))))
 refine wl_got (γ := Bool) (val := fun v => .bool v) (φ := fun v => True) rfl cb25 rfl rfl rfl rfl (fun wx hm => ((flip_any _ wx B sb _ hm.k (by omega) (by omega) (by omega)).mono fun _ _ ⟨v, he, hS, hg⟩ => ⟨v, trivial, he, hS, hg⟩)) fun fl _ => ?_
 refine nn_ ?_
 refine gw_cond rfl (fun hh => ?_) (fun hh => ?_)
 ·have hfl : fl = true := by simpa using hh
  clear hh
  refine gw_region (sg_ rfl (nn_ (sr_ (mv_ rfl ?_))))
  have hrl := hrH_len (t := (⟨#[]⟩ : ByteArray)) (by decide)
  refine wl_callx (γ := Option Addr × Nat × Nat) (val := (fun g => .tuple #[.agg #[.string ((hrH (⟨#[]⟩ : ByteArray)).key), .string ((hrH (⟨#[]⟩ : ByteArray)).driver), .int .i64 ((hrH (⟨#[]⟩ : ByteArray)).fr), .int .i64 ((hrH (⟨#[]⟩ : ByteArray)).to_), .slice g.1 g.2.1 g.2.2], .int .i64 (hrAt (⟨#[]⟩ : ByteArray)), .int .i64 (hrE (⟨#[]⟩ : ByteArray))])) (φ := (fun g => g.2.1 = (hrH (⟨#[]⟩ : ByteArray)).legs.length)) (Y := (fun g => fun wy => SlT lgEnc 9 128 wy g.1 g.2.1 (hrH (⟨#[]⟩ : ByteArray)).legs)) rfl cb26 rfl rfl (fun wx hm => (hRead_w (⟨#[]⟩ : ByteArray) wx (hm.fact 2 rfl).1 (by decide)).mono fun _ _ h => by
   obtain ⟨A, n, c, he, hsl, hg⟩ := h.open
   exact ⟨(A, n, c), he, hsl.len.symm, hg, hsl⟩) (fun _ => SlT.lasts2 rfl) ?_
  rintro ⟨A3, n3, c3⟩ hk3
  dsimp only at hk3 ⊢
  subst hk3
  refine mv_ rfl (wl_ov (ov_extract rfl rfl) rfl (wl_ov (ov_extract rfl rfl) rfl (wl_ov (ov_extract rfl rfl) rfl ?_)))
  refine wl_alloc zc45 rfl fun g9 => ?_
  refine wl_stores (cs' := [.string ((hrH (⟨#[]⟩ : ByteArray)).key), .string ((hrH (⟨#[]⟩ : ByteArray)).driver), .int .i64 ((hrH (⟨#[]⟩ : ByteArray)).fr), .int .i64 ((hrH (⟨#[]⟩ : ByteArray)).to_), .slice A3 ((hrH (⟨#[]⟩ : ByteArray)).legs.length) c3]) 0 rz45 rfl rfl rfl rfl rfl rfl rfl rfl ?_
  refine sg_ rfl (sg_ rfl (nn_ (sr_ (mv_ rfl ?_))))
  refine wl_callx (γ := Option Addr × Nat × Nat) (val := (fun g => .tuple #[.agg #[.string ((hrH (⟨#[]⟩ : ByteArray)).key), .string ((hrH (⟨#[]⟩ : ByteArray)).driver), .int .i64 ((hrH (⟨#[]⟩ : ByteArray)).fr), .int .i64 ((hrH (⟨#[]⟩ : ByteArray)).to_), .slice g.1 g.2.1 g.2.2], .int .i64 (hrAt (⟨#[]⟩ : ByteArray)), .int .i64 (hrE (⟨#[]⟩ : ByteArray))])) (φ := (fun g => g.2.1 = (hrH (⟨#[]⟩ : ByteArray)).legs.length)) (Y := (fun g => fun wy => SlT lgEnc 9 128 wy g.1 g.2.1 (hrH (⟨#[]⟩ : ByteArray)).legs)) rfl cb27 rfl rfl (fun wx hm => (hRref_w (⟨#[]⟩ : ByteArray) wx (hm.fact 3 rfl).1 (by decide)).mono fun _ _ h => by
   obtain ⟨A, n, c, he, hsl, hg⟩ := h.open
   exact ⟨(A, n, c), he, hsl.len.symm, hg, hsl⟩) (fun _ => SlT.lasts2 rfl) ?_
  rintro ⟨A4, n4, c4⟩ hk4
  dsimp only at hk4 ⊢
  subst hk4
  refine mv_ rfl (wl_ov (ov_extract rfl rfl) rfl (wl_ov (ov_extract rfl rfl) rfl (wl_ov (ov_extract rfl rfl) rfl ?_)))
  refine wl_alloc zc45 rfl fun g10 => ?_
  refine wl_stores (cs' := [.string ((hrH (⟨#[]⟩ : ByteArray)).key), .string ((hrH (⟨#[]⟩ : ByteArray)).driver), .int .i64 ((hrH (⟨#[]⟩ : ByteArray)).fr), .int .i64 ((hrH (⟨#[]⟩ : ByteArray)).to_), .slice A4 ((hrH (⟨#[]⟩ : ByteArray)).legs.length) c4]) 0 rz45 rfl rfl rfl rfl rfl rfl rfl rfl ?_
  refine sg_ rfl (sg_ rfl (nn_ (sr_ (mv_ rfl (mv_ rfl (wl_ov (ov_eql rfl rfl) rfl ?_))))))
  refine wl_set 87 (v' := .bool true) rfl (congrArg Value.bool (by simp)) ?_
  refine mv_ rfl (wl_guard_on rfl rfl rfl (mv_ rfl (wl_guard_on rfl rfl rfl (mv_ rfl (wl_guard_on rfl rfl rfl (wl_ov (ov_eql rfl rfl) rfl ?_))))))
  refine wl_set 91 (v' := .bool true) rfl (congrArg Value.bool (by simp)) ?_
  refine pt_ rfl rfl (mv_ rfl (wl_guard_on rfl rfl rfl ?_))
  refine wl_ov (ov_loads rz45 rfl (fun _ hm => hm.blkI 1 rfl) rfl rfl) rfl ?_
  refine wl_guard_on rfl rfl rfl ?_
  refine wl_ov (ov_loads rz45 rfl (fun _ hm => hm.blkI 0 rfl) rfl rfl) rfl ?_
  refine wl_guard_on rfl rfl rfl ?_
  refine wl_callv rfl cb28 rfl rfl (fun wx hm => (sameHire_any (hrH (⟨#[]⟩ : ByteArray)).key (hrH (⟨#[]⟩ : ByteArray)).driver (hrH (⟨#[]⟩ : ByteArray)).fr (hrH (⟨#[]⟩ : ByteArray)).to_ (hrH (⟨#[]⟩ : ByteArray)).legs A3 A4 _ c3 c4 wx (hm.fact 1 rfl) (hm.fact 0 rfl) (by exact Nat.le_trans hrl (by decide)))) ?_
  refine pt_ rfl rfl (mv_ rfl (wl_guard_on rfl rfl rfl ?_))
  refine wl_callv rfl cb29 rfl rfl (fun wx hm => (hired_any wx)) ?_
  refine pt_ rfl rfl (sg_ rfl (nn_ ?_))
  refine gw_ret ?_
  refine nx_ret1 rfl rfl fun wx hm => ?_
  exact ⟨rfl, law_end hg1 hsb hm.g⟩
 have hfl : fl = false := by simpa using hh
 clear hh
 refine gw_skip (nx_then (sr_ (mv_ rfl ?_)))
 have hrl := hrH_len (t := u) (by omega)
 refine wl_callx (γ := Option Addr × Nat × Nat) (val := (fun g => .tuple #[.agg #[.string ((hrH u).key), .string ((hrH u).driver), .int .i64 ((hrH u).fr), .int .i64 ((hrH u).to_), .slice g.1 g.2.1 g.2.2], .int .i64 (hrAt u), .int .i64 (hrE u)])) (φ := (fun g => g.2.1 = (hrH u).legs.length)) (Y := (fun g => fun wy => SlT lgEnc 9 128 wy g.1 g.2.1 (hrH u).legs)) rfl cb26 rfl rfl (fun wx hm => (hRead_w u wx (hm.fact 2 rfl).1 (by omega)).mono fun _ _ h => by
  obtain ⟨A, n, c, he, hsl, hg⟩ := h.open
  exact ⟨(A, n, c), he, hsl.len.symm, hg, hsl⟩) (fun _ => SlT.lasts2 rfl) ?_
 rintro ⟨A3, n3, c3⟩ hk3
 dsimp only at hk3 ⊢
 subst hk3
 refine mv_ rfl (wl_ov (ov_extract rfl rfl) rfl (wl_ov (ov_extract rfl rfl) rfl (wl_ov (ov_extract rfl rfl) rfl ?_)))
 refine wl_alloc zc45 rfl fun g11 => ?_
 refine wl_stores (cs' := [.string ((hrH u).key), .string ((hrH u).driver), .int .i64 ((hrH u).fr), .int .i64 ((hrH u).to_), .slice A3 ((hrH u).legs.length) c3]) 0 rz45 rfl rfl rfl rfl rfl rfl rfl rfl ?_
 refine sg_ rfl (sg_ rfl (nn_ (sr_ (mv_ rfl ?_))))
 refine wl_callx (γ := Option Addr × Nat × Nat) (val := (fun g => .tuple #[.agg #[.string ((hrH u).key), .string ((hrH u).driver), .int .i64 ((hrH u).fr), .int .i64 ((hrH u).to_), .slice g.1 g.2.1 g.2.2], .int .i64 (hrAt u), .int .i64 (hrE u)])) (φ := (fun g => g.2.1 = (hrH u).legs.length)) (Y := (fun g => fun wy => SlT lgEnc 9 128 wy g.1 g.2.1 (hrH u).legs)) rfl cb27 rfl rfl (fun wx hm => (hRref_w u wx (hm.fact 3 rfl).1 (by omega)).mono fun _ _ h => by
  obtain ⟨A, n, c, he, hsl, hg⟩ := h.open
  exact ⟨(A, n, c), he, hsl.len.symm, hg, hsl⟩) (fun _ => SlT.lasts2 rfl) ?_
 rintro ⟨A4, n4, c4⟩ hk4
 dsimp only at hk4 ⊢
 subst hk4
 refine mv_ rfl (wl_ov (ov_extract rfl rfl) rfl (wl_ov (ov_extract rfl rfl) rfl (wl_ov (ov_extract rfl rfl) rfl ?_)))
 refine wl_alloc zc45 rfl fun g12 => ?_
 refine wl_stores (cs' := [.string ((hrH u).key), .string ((hrH u).driver), .int .i64 ((hrH u).fr), .int .i64 ((hrH u).to_), .slice A4 ((hrH u).legs.length) c4]) 0 rz45 rfl rfl rfl rfl rfl rfl rfl rfl ?_
 refine sg_ rfl (sg_ rfl (nn_ (sr_ (mv_ rfl (mv_ rfl (wl_ov (ov_eql rfl rfl) rfl ?_))))))
 refine wl_set 87 (v' := .bool true) rfl (congrArg Value.bool (by simp)) ?_
 refine mv_ rfl (wl_guard_on rfl rfl rfl (mv_ rfl (wl_guard_on rfl rfl rfl (mv_ rfl (wl_guard_on rfl rfl rfl (wl_ov (ov_eql rfl rfl) rfl ?_))))))
 refine wl_set 91 (v' := .bool true) rfl (congrArg Value.bool (by simp)) ?_
 refine pt_ rfl rfl (mv_ rfl (wl_guard_on rfl rfl rfl ?_))
 refine wl_ov (ov_loads rz45 rfl (fun _ hm => hm.blkI 1 rfl) rfl rfl) rfl ?_
 refine wl_guard_on rfl rfl rfl ?_
 refine wl_ov (ov_loads rz45 rfl (fun _ hm => hm.blkI 0 rfl) rfl rfl) rfl ?_
 refine wl_guard_on rfl rfl rfl ?_
 refine wl_callv rfl cb28 rfl rfl (fun wx hm => (sameHire_any (hrH u).key (hrH u).driver (hrH u).fr (hrH u).to_ (hrH u).legs A3 A4 _ c3 c4 wx (hm.fact 1 rfl) (hm.fact 0 rfl) (by omega))) ?_
 refine pt_ rfl rfl (mv_ rfl (wl_guard_on rfl rfl rfl ?_))
 refine wl_callv rfl cb29 rfl rfl (fun wx hm => (hired_any wx)) ?_
 refine pt_ rfl rfl (sg_ rfl (nn_ ?_))
 refine gw_ret ?_
 refine nx_ret1 rfl rfl fun wx hm => ?_
 exact ⟨rfl, law_end hg1 hsb hm.g⟩
theorem hireTexts_law {l : List (String × DataW Unit)} (y1 y2 : List UInt8) (a0 : Option Addr) (len0 cap0 : Nat) (z0 : List Int) (W : World) (hR : RowIn W a0 len0 cap0 z0) (hL : laidMet Tryz.prog l W) (hS : W.ShapedOpen Tryz.prog)
    (h1 : l.filter (fun x => x.1 == "internal/strconv.uint64pow10") = [("internal/strconv.uint64pow10", Lib.tabData .u64 Lib.pow10Tab)])
    (h2 : l.filter (fun x => x.1 == "strconv.ErrSyntax") = [("strconv.ErrSyntax", .iface "*errors.errorString" (.ptr (.agg [.lit (.string y1)])))])
    (h3 : l.filter (fun x => x.1 == "strconv.ErrRange") = [("strconv.ErrRange", .iface "*errors.errorString" (.ptr (.agg [.lit (.string y2)])))]) :
    Calls Tryz.prog 4 #[.slice a0 len0 cap0] W fun e w' => e = .returned (.bool true) ∧ Below W.heap.size W w' :=
  hireTexts_walk a0 len0 cap0 z0 W hR (txtW_of y1 y2 hL hS h1 h2 h3)
end Go.Proofs.YtnpcbfllnkiopaaGreatDoor
