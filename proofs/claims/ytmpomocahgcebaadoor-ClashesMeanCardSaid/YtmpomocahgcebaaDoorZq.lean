/- Several texts as one: Gh Gk -/
import Derived.Test.YtmpomocahgcebaaDoorSu
import Derived.Test.YtmpomocahgcebaaDoorTy
import Derived.Test.YtmpomocahgcebaaDoorZp
import Derived.Test.YtmpomocahgcebaaDoorGr
import Derived.Test.YtmpomocahgcebaaDoorGb
import Derived.Test.YtmpomocahgcebaaDoorGt
import Derived.IntWalk
/- The generator RightHire. -/
namespace Go.Proofs.YtmpomocahgcebaaDoor
open Go.RowKit

set_option maxRecDepth 100000 in
set_option maxHeartbeats 4000000 in
theorem rightHire_any (key : ByteArray) (fr : Int) (w : World) (B sb m : Nat) (hS : Strm 25 w B sb m) (hm : m ≤ 10000000000) (hkey : key.size ≤ 100) (hkb : keyB key = true) (hf0 : 0 ≤ fr) (hf1 : fr ≤ 5000000) :
    Calls Tryd.prog 120 #[.pointer (some ⟨sb, 0, none⟩), .string key, .int .i64 fr] w (fun e w' => ∃ (k d : ByteArray) (f t : Int) (A : Option Addr) (n c : Nat) (l : List Lg), e = .returned (.agg #[.string k, .string d, .int .i64 f, .int .i64 t, .slice A n c]) ∧ SlT lgEnc 9 100 w' A n l ∧ HrOk k d l ∧ 1 ≤ n ∧ n ≤ 4 ∧ Strm 25 w' B sb (m + 1500) ∧ w.grownBy w' (some sb)) := by
  refine gw_enter ⟨112, w, (some sb), [100]⟩ Tryd.func120 rfl Tryd.ntmps120 rfl (memS (X := []) hS allF_nil allL_nil) ?_
  refine gw_seq ?_
  refine gw_region ?_
  refine wl_alloc zc95 rfl fun g1 => ?_
  refine wl_nil ?_
  refine nx_then ?_
  refine gw_seq ?_
  refine gw_seq ?_
  refine gw_region ?_
  refine wl_ov (ov_move rfl) rfl ?_
  refine wl_nil ?_
  refine nx_then ?_
  refine gw_block ?_
  refine gw_loop (γ := Nat) (fun (i : Nat) => i ≤ 6) (fun (i : Nat) => [(0, .pointer (some ⟨sb, 0, none⟩)), (1, .string key), (2, .int .i64 fr), (6, .pointer (some ⟨g1, 0, none⟩)), (19, .int .i64 ((i : Nat) : Int))]) (fun (i : Nat) => fun w => Strm 25 w B sb (m + 200 * i)) (fun (i : Nat) => [(g1, 95, [.string ⟨#[]⟩, .string ⟨#[]⟩, .int .i64 0, .int .i64 0, .slice none 0 0])]) (fun (i : Nat) => []) (fun (i : Nat) => []) (fun (i : Nat) => 6 - i) 0 (Nat.zero_le _) ⟨rfl, rfl, rfl, rfl, rfl, trivial⟩ (fun _ hm => (hm.more rfl (by first | omega | (dsimp only; omega))).pick [0] [] [] rfl rfl) ?_
  intro i hinv
  replace hinv : i ≤ 6 := hinv
  refine gw_seq ?_
  refine gw_region ?_
  refine wl_ov (ov_lss rfl rfl) rfl ?_
  refine wl_nil ?_
  refine nx_then ?_
  refine gw_seq ?_
  refine gw_cond rfl (fun hh => ?_) (fun hh => ?_)
  · have hi : ((i : Nat) : Int) < 6 := by simpa using hh
    clear hh
    refine gw_skip ?_
    refine nx_then ?_
    refine gw_seq ?_
    refine gw_block ?_
    refine gw_seq ?_
    refine gw_region ?_
    refine wl_ov (ov_move rfl) rfl ?_
    refine wl_ov (ov_move rfl) rfl ?_
    refine wl_ov (ov_move rfl) rfl ?_
    refine wl_buildSlice (e := 3) (cs := [.int .i64 60, .int .i64 100, .int .i64 1440, .int .i64 2000, .int .i64 3000]) rfl (by kernel_rfl) rfl fun g2 => ?_
    refine wl_got (γ := Int) (val := fun v => .int .i64 v) (φ := fun v => v ∈ ([60, 100, 1440, 2000, 3000] : List Int)) rfl cb23 rfl rfl rfl rfl (fun wx hm => (pick_any [60, 100, 1440, 2000, 3000] _ _ _ wx B sb _ hm.k (by omega) (by simp) (by simp) (hm.blkI 0 rfl) (hm.neRow 0 rfl rfl))) fun v3 hv3 => ?_
    have bv3 : 60 ≤ v3 ∧ v3 ≤ 3000 := mem_rng hv3 (by decide)
    have bv30 := bv3.1
    have bv31 := bv3.2
    clear bv3
    refine wl_ov (ov_add rfl rfl (by omega) (by omega)) rfl ?_
    refine wl_ov (ov_build (cs := [.int .i64 fr, .int .i64 (fr + v3)]) rfl (by kernel_rfl)) rfl ?_
    refine wl_alloc zc56 rfl fun g4 => ?_
    refine wl_stores (cs' := [.int .i64 fr, .int .i64 (fr + v3)]) 0 rz56 rfl rfl rfl rfl rfl rfl rfl rfl ?_
    refine wl_nil ?_
    refine nx_then ?_
    refine gw_cut (γ := ByteArray × ByteArray × Int × Int × Option Addr × Nat × Nat × List Lg × Int × Nat) (I := (fun (g : ByteArray × ByteArray × Int × Int × Option Addr × Nat × Nat × List Lg × Int × Nat) => HrOk g.1 g.2.1 g.2.2.2.2.2.2.2.1 ∧ g.2.2.2.2.2.1 ≤ 1 ∧ (g.2.2.2.2.2.2.2.2.1 = 0 → g.2.2.2.2.2.1 = 1))) (S' := (fun (g : ByteArray × ByteArray × Int × Int × Option Addr × Nat × Nat × List Lg × Int × Nat) => [(0, .pointer (some ⟨sb, 0, none⟩)), (1, .string key), (2, .int .i64 fr), (6, .pointer (some ⟨g1, 0, none⟩)), (8, .pointer (some ⟨g.2.2.2.2.2.2.2.2.2, 0, none⟩)), (9, .int .i64 g.2.2.2.2.2.2.2.2.1), (19, .int .i64 ((i : Nat) : Int))])) (K' := (fun (g : ByteArray × ByteArray × Int × Int × Option Addr × Nat × Nat × List Lg × Int × Nat) => fun w => Strm 25 w B sb (m + 200 * i + 1 + 1 + 1 + 10))) (L' := (fun (g : ByteArray × ByteArray × Int × Int × Option Addr × Nat × Nat × List Lg × Int × Nat) => [(g4, 56, [.int .i64 fr, .int .i64 (fr + v3)]), (g2, 3, [.int .i64 60, .int .i64 100, .int .i64 1440, .int .i64 2000, .int .i64 3000]), (g1, 95, [.string ⟨#[]⟩, .string ⟨#[]⟩, .int .i64 0, .int .i64 0, .slice none 0 0]), (g.2.2.2.2.2.2.2.2.2, 95, [.string g.1, .string g.2.1, .int .i64 g.2.2.1, .int .i64 g.2.2.2.1, .slice g.2.2.2.2.1 g.2.2.2.2.2.1 g.2.2.2.2.2.2.1])])) (O' := (fun (g : ByteArray × ByteArray × Int × Int × Option Addr × Nat × Nat × List Lg × Int × Nat) => [])) (X' := (fun (g : ByteArray × ByteArray × Int × Int × Option Addr × Nat × Nat × List Lg × Int × Nat) => [fun wy => SlT lgEnc 9 100 wy g.2.2.2.2.1 g.2.2.2.2.2.1 g.2.2.2.2.2.2.2.1])) ?_ ?_
    · refine gw_draw (fun wz => Blk wz g4 56 [.int .i64 fr, .int .i64 (fr + v3)] ∧ Blk wz g2 3 [.int .i64 60, .int .i64 100, .int .i64 1440, .int .i64 2000, .int .i64 3000] ∧ Blk wz g1 95 [.string ⟨#[]⟩, .string ⟨#[]⟩, .int .i64 0, .int .i64 0, .slice none 0 0] ∧ True) mixed ?_
      refine wa_take 0 rfl (by kernel_rfl) (by kernel_rfl) (by kernel_rfl) (listed' := #[true, false, false, false, false, false, false, false, false, false, false, false, false, false, false, false, false, false]) rfl (fun _ _ _ h => h) (fun _ hm => ⟨hm.blkI 0 rfl, hm.blkI 1 rfl, hm.blkI 2 rfl, trivial⟩) (ov_move rfl) rfl ?_
      refine wa_take 1 rfl (by kernel_rfl) (by kernel_rfl) (by kernel_rfl) (listed' := #[true, true, false, false, false, false, false, false, false, false, false, false, false, false, false, false, false, false]) rfl (fun _ _ _ h => h) (fun _ hm => ⟨hm.blkI 0 rfl, hm.blkI 1 rfl, hm.blkI 2 rfl, trivial⟩) (ov_move rfl) rfl ?_
      refine wa_take 4 rfl (by kernel_rfl) (by kernel_rfl) (by kernel_rfl) (listed' := #[true, true, false, false, true, false, false, false, false, false, false, false, false, false, false, false, false, false]) rfl (fun _ _ _ h => h) (fun _ hm => ⟨hm.blkI 0 rfl, hm.blkI 1 rfl, hm.blkI 2 rfl, trivial⟩) (ov_loads rz56 rfl (fun _ hm => hm.1) rfl rfl) rfl ?_
      refine wa_take 5 rfl (by kernel_rfl) (by kernel_rfl) (by kernel_rfl) (listed' := #[true, true, false, false, true, true, false, false, false, false, false, false, false, false, false, false, false, false]) rfl (fun _ _ _ h => h) (fun _ hm => ⟨hm.blkI 0 rfl, hm.blkI 1 rfl, hm.blkI 2 rfl, trivial⟩) (ov_move rfl) rfl ?_
      refine wa_take 8 rfl (by kernel_rfl) (by kernel_rfl) (by kernel_rfl) (listed' := #[true, true, false, false, true, true, false, false, true, false, false, false, false, false, false, false, false, false]) rfl (fun _ _ _ h => h) (fun _ hm => ⟨hm.blkI 0 rfl, hm.blkI 1 rfl, hm.blkI 2 rfl, trivial⟩) (ov_move rfl) rfl ?_
      refine wa_take 9 rfl (by kernel_rfl) (by kernel_rfl) (by kernel_rfl) (listed' := #[true, true, false, false, true, true, false, false, true, true, false, false, false, false, false, false, false, false]) rfl (fun _ _ _ h => h) (fun _ hm => ⟨hm.blkI 0 rfl, hm.blkI 1 rfl, hm.blkI 2 rfl, trivial⟩) (ov_move rfl) rfl ?_
      refine wa_all [2, 6, 15] (by kernel_rfl) rfl ⟨⟨_, rfl, ?_⟩, ⟨_, rfl, ?_⟩, ⟨_, rfl, ?_⟩, trivial⟩
      · refine wl_buildSlice (e := 9) (cs := [.string ⟨#[97, 110, 110]⟩, .string ⟨#[97, 110, 110]⟩, .string ⟨#[98, 111, 98]⟩, .string ⟨#[99, 105, 100]⟩]) rfl (by kernel_rfl) rfl fun g5 => ?_
        refine wl_nil ?_
        refine nx_wa0 (listed' := #[true, true, true, false, true, true, false, false, true, true, false, false, false, false, false, false, false, false]) rfl (fun _ hm => ⟨hm.blkI 1 rfl, hm.blkI 2 rfl, hm.blkI 3 rfl, trivial⟩) ?_
        refine wa_all [3, 6, 15] (by kernel_rfl) rfl ⟨⟨_, rfl, ?_⟩, ⟨_, rfl, ?_⟩, ⟨_, rfl, ?_⟩, trivial⟩
        · refine wl_got (γ := ByteArray) (val := fun v => .string v) (φ := fun v => v ∈ ([⟨#[97, 110, 110]⟩, ⟨#[97, 110, 110]⟩, ⟨#[98, 111, 98]⟩, ⟨#[99, 105, 100]⟩] : List ByteArray)) rfl cb66 rfl rfl rfl rfl (fun wx hm => (some_any [⟨#[97, 110, 110]⟩, ⟨#[97, 110, 110]⟩, ⟨#[98, 111, 98]⟩, ⟨#[99, 105, 100]⟩] _ _ _ wx B sb _ hm.k (by omega) (by simp) (by simp) (hm.blkI 0 rfl) (hm.neRow 0 rfl rfl))) fun s6 hs6 => ?_
          have zs6 : s6.size ≤ 100 := mem_sz hs6 (by decide)
          refine wl_nil ?_
          refine nx_wa0 (listed' := #[true, true, true, true, true, true, false, false, true, true, false, false, false, false, false, false, false, false]) rfl (fun _ hm => ⟨hm.blkI 1 rfl, hm.blkI 2 rfl, hm.blkI 3 rfl, trivial⟩) ?_
          refine wa_all [6, 15] (by kernel_rfl) rfl ⟨⟨_, rfl, ?_⟩, ⟨_, rfl, ?_⟩, trivial⟩
          · refine wl_buildSlice (e := 9) (cs := [.string ⟨#[118, 49]⟩, .string ⟨#[118, 49]⟩, .string ⟨#[118, 50]⟩, .string ⟨#[118, 51]⟩]) rfl (by kernel_rfl) rfl fun g7 => ?_
            refine wl_nil ?_
            refine nx_wa0 (listed' := #[true, true, true, true, true, true, true, false, true, true, false, false, false, false, false, false, false, false]) rfl (fun _ hm => ⟨hm.blkI 2 rfl, hm.blkI 3 rfl, hm.blkI 4 rfl, trivial⟩) ?_
            refine wa_all [7, 15] (by kernel_rfl) rfl ⟨⟨_, rfl, ?_⟩, ⟨_, rfl, ?_⟩, trivial⟩
            · refine wl_got (γ := ByteArray) (val := fun v => .string v) (φ := fun v => v ∈ ([⟨#[118, 49]⟩, ⟨#[118, 49]⟩, ⟨#[118, 50]⟩, ⟨#[118, 51]⟩] : List ByteArray)) rfl cb66 rfl rfl rfl rfl (fun wx hm => (some_any [⟨#[118, 49]⟩, ⟨#[118, 49]⟩, ⟨#[118, 50]⟩, ⟨#[118, 51]⟩] _ _ _ wx B sb _ hm.k (by omega) (by simp) (by simp) (hm.blkI 0 rfl) (hm.neRow 0 rfl rfl))) fun s8 hs8 => ?_
              have zs8 : s8.size ≤ 100 := mem_sz hs8 (by decide)
              refine wl_nil ?_
              refine nx_wa0 (listed' := #[true, true, true, true, true, true, true, true, true, true, false, false, false, false, false, false, false, false]) rfl (fun _ hm => ⟨hm.blkI 2 rfl, hm.blkI 3 rfl, hm.blkI 4 rfl, trivial⟩) ?_
              refine wa_all [10, 15] (by kernel_rfl) rfl ⟨⟨_, rfl, ?_⟩, ⟨_, rfl, ?_⟩, trivial⟩
              · refine wl_calls (γ := Int × ByteArray × Int × Int) (val := (fun (g : Int × ByteArray × Int × Int) => .agg #[.int .i64 g.1, .string g.2.1, .int .i64 g.2.2.1, .int .i64 g.2.2.2])) (φ := (fun (g : Int × ByteArray × Int × Int) => RdOk ⟨g.1, g.2.1, g.2.2.1, g.2.2.2⟩)) (Y := (fun (g : Int × ByteArray × Int × Int) => fun _ => True)) (m' := m + 200 * i + 1 + 1 + 1 + 10) rfl cb164 rfl rfl rfl rfl (fun wx hm => (greading_any fr wx B sb _ hm.k (by omega) (by omega) (by omega)).mono fun _ _ ⟨r, hok, he, hS, hg⟩ => ⟨(r.at_, r.st, r.meter, r.fuel), he, hok, hS, hg, trivial⟩) (fun _ => Lasts2.true_) ?_
                rintro ⟨ra, rs, rm, rf⟩ hr_ra
                dsimp only at hr_ra ⊢
                have hz_rs : rs.size ≤ 1000000 := hr_ra
                refine wl_nil ?_
                refine nx_wa0 (listed' := #[true, true, true, true, true, true, true, true, true, true, true, false, false, false, false, false, false, false]) rfl (fun _ hm => ⟨hm.blkI 2 rfl, hm.blkI 3 rfl, hm.blkI 4 rfl, trivial⟩) ?_
                refine wa_all [11, 15] (by kernel_rfl) rfl ⟨⟨_, rfl, ?_⟩, ⟨_, rfl, ?_⟩, trivial⟩
                · refine wl_callx (γ := ByteArray × ByteArray × Int × Int × Option Addr × Nat × Nat × List Lg) (val := (fun (g : ByteArray × ByteArray × Int × Int × Option Addr × Nat × Nat × List Lg) => .tuple #[.agg #[.string g.1, .string g.2.1, .int .i64 g.2.2.1, .int .i64 g.2.2.2.1, .slice g.2.2.2.2.1 g.2.2.2.2.2.1 g.2.2.2.2.2.2.1], .int .i64 (hireE ⟨key, s6, fr, fr + v3, [startLeg s8 ⟨ra, rs, rm, rf⟩]⟩)])) (φ := (fun (g : ByteArray × ByteArray × Int × Int × Option Addr × Nat × Nat × List Lg) => HrOk g.1 g.2.1 g.2.2.2.2.2.2.2 ∧ g.2.2.2.2.2.1 ≤ 1 ∧ (hireE ⟨key, s6, fr, fr + v3, [startLeg s8 ⟨ra, rs, rm, rf⟩]⟩ = 0 → g.2.2.2.2.2.1 = 1))) (Y := (fun (g : ByteArray × ByteArray × Int × Int × Option Addr × Nat × Nat × List Lg) => fun wy => SlT lgEnc 9 100 wy g.2.2.2.2.1 g.2.2.2.2.2.1 g.2.2.2.2.2.2.2)) rfl cb163 rfl rfl (fun wx hm => (startOf_lit key s6 fr (fr + v3) s8 ra rm rf rs wx (by omega) (by omega) (by omega) hz_rs).mono fun _ _ ⟨k, d, f, t, A, n, c, l, he, hsl, hok, hn, hn0, hg⟩ => ⟨(k, d, f, t, A, n, c, l), he, ⟨hok, hn, hn0⟩, hg, hsl⟩) (fun _ => SlT.lasts2 rfl) ?_
                  rintro ⟨k1, d1, f1, t1, A1, n1, c1, l1⟩ hb1
                  dsimp only at hb1 ⊢
                  refine wl_nil ?_
                  refine nx_wa0 (listed' := #[true, true, true, true, true, true, true, true, true, true, true, true, false, false, false, false, false, false]) rfl (fun _ hm => ⟨hm.blkI 2 rfl, hm.blkI 3 rfl, hm.blkI 4 rfl, trivial⟩) ?_
                  refine wa_take 12 rfl (by kernel_rfl) (by kernel_rfl) (by kernel_rfl) (listed' := #[true, true, true, true, true, true, true, true, true, true, true, true, true, false, false, false, false, false]) rfl (fun _ _ _ h => h) (fun _ hm => ⟨hm.blkI 2 rfl, hm.blkI 3 rfl, hm.blkI 4 rfl, trivial⟩) (ov_move rfl) rfl ?_
                  refine wa_take 13 rfl (by kernel_rfl) (by kernel_rfl) (by kernel_rfl) (listed' := #[true, true, true, true, true, true, true, true, true, true, true, true, true, true, false, false, false, false]) rfl (fun _ _ _ h => h) (fun _ hm => ⟨hm.blkI 2 rfl, hm.blkI 3 rfl, hm.blkI 4 rfl, trivial⟩) (ov_extract rfl rfl) rfl ?_
                  refine wa_take 14 rfl (by kernel_rfl) (by kernel_rfl) (by kernel_rfl) (listed' := #[true, true, true, true, true, true, true, true, true, true, true, true, true, true, true, false, false, false]) rfl (fun _ _ _ h => h) (fun _ hm => ⟨hm.blkI 2 rfl, hm.blkI 3 rfl, hm.blkI 4 rfl, trivial⟩) (ov_extract rfl rfl) rfl ?_
                  refine wa_all [15] (by kernel_rfl) rfl ⟨⟨_, rfl, ?_⟩, trivial⟩
                  refine wl_alloc zc95 rfl fun g10 => ?_
                  refine wl_nil ?_
                  refine nx_wa0 (listed' := #[true, true, true, true, true, true, true, true, true, true, true, true, true, true, true, true, false, false]) rfl (fun _ hm => ⟨hm.blkI 3 rfl, hm.blkI 4 rfl, hm.blkI 5 rfl, trivial⟩) ?_
                  refine wa_all [16] (by kernel_rfl) rfl ⟨⟨_, rfl, ?_⟩, trivial⟩
                  refine wl_stores (cs' := [.string k1, .string d1, .int .i64 f1, .int .i64 t1, .slice A1 n1 c1]) 0 rz95 rfl rfl rfl rfl rfl rfl rfl rfl ?_
                  refine wl_nil ?_
                  refine nx_wa0 (listed' := #[true, true, true, true, true, true, true, true, true, true, true, true, true, true, true, true, true, false]) rfl (fun _ hm => ⟨hm.blkI 3 rfl, hm.blkI 4 rfl, hm.blkI 5 rfl, trivial⟩) ?_
                  refine wa_take 17 rfl (by kernel_rfl) (by kernel_rfl) (by kernel_rfl) (listed' := #[true, true, true, true, true, true, true, true, true, true, true, true, true, true, true, true, true, true]) rfl (fun _ _ _ h => h) (fun _ hm => ⟨hm.blkI 3 rfl, hm.blkI 4 rfl, hm.blkI 5 rfl, trivial⟩) (ov_assign rfl) rfl ?_
                  refine wa_done (by kernel_rfl) ?_
                  exact nx_meet (k1, d1, f1, t1, A1, n1, c1, l1, hireE ⟨key, s6, fr, fr + v3, [startLeg s8 ⟨ra, rs, rm, rf⟩]⟩, g10) hb1 ⟨rfl, rfl, rfl, rfl, rfl, rfl, rfl, trivial⟩ (fun _ hm => hm.pick [3, 4, 5, 0] [] [0] rfl rfl)
                · refine wl_alloc zc95 rfl fun g11 => ?_
                  refine wl_nil ?_
                  refine nx_wa0 (listed' := #[true, true, true, true, true, true, true, true, true, true, true, false, false, false, false, true, false, false]) rfl (fun _ hm => ⟨hm.blkI 3 rfl, hm.blkI 4 rfl, hm.blkI 5 rfl, trivial⟩) ?_
                  refine wa_all [11] (by kernel_rfl) rfl ⟨⟨_, rfl, ?_⟩, trivial⟩
                  refine wl_callx (γ := ByteArray × ByteArray × Int × Int × Option Addr × Nat × Nat × List Lg) (val := (fun (g : ByteArray × ByteArray × Int × Int × Option Addr × Nat × Nat × List Lg) => .tuple #[.agg #[.string g.1, .string g.2.1, .int .i64 g.2.2.1, .int .i64 g.2.2.2.1, .slice g.2.2.2.2.1 g.2.2.2.2.2.1 g.2.2.2.2.2.2.1], .int .i64 (hireE ⟨key, s6, fr, fr + v3, [startLeg s8 ⟨ra, rs, rm, rf⟩]⟩)])) (φ := (fun (g : ByteArray × ByteArray × Int × Int × Option Addr × Nat × Nat × List Lg) => HrOk g.1 g.2.1 g.2.2.2.2.2.2.2 ∧ g.2.2.2.2.2.1 ≤ 1 ∧ (hireE ⟨key, s6, fr, fr + v3, [startLeg s8 ⟨ra, rs, rm, rf⟩]⟩ = 0 → g.2.2.2.2.2.1 = 1))) (Y := (fun (g : ByteArray × ByteArray × Int × Int × Option Addr × Nat × Nat × List Lg) => fun wy => SlT lgEnc 9 100 wy g.2.2.2.2.1 g.2.2.2.2.2.1 g.2.2.2.2.2.2.2)) rfl cb163 rfl rfl (fun wx hm => (startOf_lit key s6 fr (fr + v3) s8 ra rm rf rs wx (by omega) (by omega) (by omega) hz_rs).mono fun _ _ ⟨k, d, f, t, A, n, c, l, he, hsl, hok, hn, hn0, hg⟩ => ⟨(k, d, f, t, A, n, c, l), he, ⟨hok, hn, hn0⟩, hg, hsl⟩) (fun _ => SlT.lasts2 rfl) ?_
                  rintro ⟨k1, d1, f1, t1, A1, n1, c1, l1⟩ hb1
                  dsimp only at hb1 ⊢
                  refine wl_nil ?_
                  refine nx_wa0 (listed' := #[true, true, true, true, true, true, true, true, true, true, true, true, false, false, false, true, false, false]) rfl (fun _ hm => ⟨hm.blkI 3 rfl, hm.blkI 4 rfl, hm.blkI 5 rfl, trivial⟩) ?_
                  refine wa_take 12 rfl (by kernel_rfl) (by kernel_rfl) (by kernel_rfl) (listed' := #[true, true, true, true, true, true, true, true, true, true, true, true, true, false, false, true, false, false]) rfl (fun _ _ _ h => h) (fun _ hm => ⟨hm.blkI 3 rfl, hm.blkI 4 rfl, hm.blkI 5 rfl, trivial⟩) (ov_move rfl) rfl ?_
                  refine wa_take 13 rfl (by kernel_rfl) (by kernel_rfl) (by kernel_rfl) (listed' := #[true, true, true, true, true, true, true, true, true, true, true, true, true, true, false, true, false, false]) rfl (fun _ _ _ h => h) (fun _ hm => ⟨hm.blkI 3 rfl, hm.blkI 4 rfl, hm.blkI 5 rfl, trivial⟩) (ov_extract rfl rfl) rfl ?_
                  refine wa_take 14 rfl (by kernel_rfl) (by kernel_rfl) (by kernel_rfl) (listed' := #[true, true, true, true, true, true, true, true, true, true, true, true, true, true, true, true, false, false]) rfl (fun _ _ _ h => h) (fun _ hm => ⟨hm.blkI 3 rfl, hm.blkI 4 rfl, hm.blkI 5 rfl, trivial⟩) (ov_extract rfl rfl) rfl ?_
                  refine wa_all [16] (by kernel_rfl) rfl ⟨⟨_, rfl, ?_⟩, trivial⟩
                  refine wl_stores (cs' := [.string k1, .string d1, .int .i64 f1, .int .i64 t1, .slice A1 n1 c1]) 0 rz95 rfl rfl rfl rfl rfl rfl rfl rfl ?_
                  refine wl_nil ?_
                  refine nx_wa0 (listed' := #[true, true, true, true, true, true, true, true, true, true, true, true, true, true, true, true, true, false]) rfl (fun _ hm => ⟨hm.blkI 3 rfl, hm.blkI 4 rfl, hm.blkI 5 rfl, trivial⟩) ?_
                  refine wa_take 17 rfl (by kernel_rfl) (by kernel_rfl) (by kernel_rfl) (listed' := #[true, true, true, true, true, true, true, true, true, true, true, true, true, true, true, true, true, true]) rfl (fun _ _ _ h => h) (fun _ hm => ⟨hm.blkI 3 rfl, hm.blkI 4 rfl, hm.blkI 5 rfl, trivial⟩) (ov_assign rfl) rfl ?_
                  refine wa_done (by kernel_rfl) ?_
                  exact nx_meet (k1, d1, f1, t1, A1, n1, c1, l1, hireE ⟨key, s6, fr, fr + v3, [startLeg s8 ⟨ra, rs, rm, rf⟩]⟩, g11) hb1 ⟨rfl, rfl, rfl, rfl, rfl, rfl, rfl, trivial⟩ (fun _ hm => hm.pick [3, 4, 5, 0] [] [0] rfl rfl)
              · refine wl_alloc zc95 rfl fun g12 => ?_
                refine wl_nil ?_
                refine nx_wa0 (listed' := #[true, true, true, true, true, true, true, true, true, true, false, false, false, false, false, true, false, false]) rfl (fun _ hm => ⟨hm.blkI 3 rfl, hm.blkI 4 rfl, hm.blkI 5 rfl, trivial⟩) ?_
                refine wa_all [10] (by kernel_rfl) rfl ⟨⟨_, rfl, ?_⟩, trivial⟩
                refine wl_calls (γ := Int × ByteArray × Int × Int) (val := (fun (g : Int × ByteArray × Int × Int) => .agg #[.int .i64 g.1, .string g.2.1, .int .i64 g.2.2.1, .int .i64 g.2.2.2])) (φ := (fun (g : Int × ByteArray × Int × Int) => RdOk ⟨g.1, g.2.1, g.2.2.1, g.2.2.2⟩)) (Y := (fun (g : Int × ByteArray × Int × Int) => fun _ => True)) (m' := m + 200 * i + 1 + 1 + 1 + 10) rfl cb164 rfl rfl rfl rfl (fun wx hm => (greading_any fr wx B sb _ hm.k (by omega) (by omega) (by omega)).mono fun _ _ ⟨r, hok, he, hS, hg⟩ => ⟨(r.at_, r.st, r.meter, r.fuel), he, hok, hS, hg, trivial⟩) (fun _ => Lasts2.true_) ?_
                rintro ⟨ra, rs, rm, rf⟩ hr_ra
                dsimp only at hr_ra ⊢
                have hz_rs : rs.size ≤ 1000000 := hr_ra
                refine wl_nil ?_
                refine nx_wa0 (listed' := #[true, true, true, true, true, true, true, true, true, true, true, false, false, false, false, true, false, false]) rfl (fun _ hm => ⟨hm.blkI 3 rfl, hm.blkI 4 rfl, hm.blkI 5 rfl, trivial⟩) ?_
                refine wa_all [11] (by kernel_rfl) rfl ⟨⟨_, rfl, ?_⟩, trivial⟩
                refine wl_callx (γ := ByteArray × ByteArray × Int × Int × Option Addr × Nat × Nat × List Lg) (val := (fun (g : ByteArray × ByteArray × Int × Int × Option Addr × Nat × Nat × List Lg) => .tuple #[.agg #[.string g.1, .string g.2.1, .int .i64 g.2.2.1, .int .i64 g.2.2.2.1, .slice g.2.2.2.2.1 g.2.2.2.2.2.1 g.2.2.2.2.2.2.1], .int .i64 (hireE ⟨key, s6, fr, fr + v3, [startLeg s8 ⟨ra, rs, rm, rf⟩]⟩)])) (φ := (fun (g : ByteArray × ByteArray × Int × Int × Option Addr × Nat × Nat × List Lg) => HrOk g.1 g.2.1 g.2.2.2.2.2.2.2 ∧ g.2.2.2.2.2.1 ≤ 1 ∧ (hireE ⟨key, s6, fr, fr + v3, [startLeg s8 ⟨ra, rs, rm, rf⟩]⟩ = 0 → g.2.2.2.2.2.1 = 1))) (Y := (fun (g : ByteArray × ByteArray × Int × Int × Option Addr × Nat × Nat × List Lg) => fun wy => SlT lgEnc 9 100 wy g.2.2.2.2.1 g.2.2.2.2.2.1 g.2.2.2.2.2.2.2)) rfl cb163 rfl rfl (fun wx hm => (startOf_lit key s6 fr (fr + v3) s8 ra rm rf rs wx (by omega) (by omega) (by omega) hz_rs).mono fun _ _ ⟨k, d, f, t, A, n, c, l, he, hsl, hok, hn, hn0, hg⟩ => ⟨(k, d, f, t, A, n, c, l), he, ⟨hok, hn, hn0⟩, hg, hsl⟩) (fun _ => SlT.lasts2 rfl) ?_
                rintro ⟨k1, d1, f1, t1, A1, n1, c1, l1⟩ hb1
                dsimp only at hb1 ⊢
                refine wl_nil ?_
                refine nx_wa0 (listed' := #[true, true, true, true, true, true, true, true, true, true, true, true, false, false, false, true, false, false]) rfl (fun _ hm => ⟨hm.blkI 3 rfl, hm.blkI 4 rfl, hm.blkI 5 rfl, trivial⟩) ?_
                refine wa_take 12 rfl (by kernel_rfl) (by kernel_rfl) (by kernel_rfl) (listed' := #[true, true, true, true, true, true, true, true, true, true, true, true, true, false, false, true, false, false]) rfl (fun _ _ _ h => h) (fun _ hm => ⟨hm.blkI 3 rfl, hm.blkI 4 rfl, hm.blkI 5 rfl, trivial⟩) (ov_move rfl) rfl ?_
                refine wa_take 13 rfl (by kernel_rfl) (by kernel_rfl) (by kernel_rfl) (listed' := #[true, true, true, true, true, true, true, true, true, true, true, true, true, true, false, true, false, false]) rfl (fun _ _ _ h => h) (fun _ hm => ⟨hm.blkI 3 rfl, hm.blkI 4 rfl, hm.blkI 5 rfl, trivial⟩) (ov_extract rfl rfl) rfl ?_
                refine wa_take 14 rfl (by kernel_rfl) (by kernel_rfl) (by kernel_rfl) (listed' := #[true, true, true, true, true, true, true, true, true, true, true, true, true, true, true, true, false, false]) rfl (fun _ _ _ h => h) (fun _ hm => ⟨hm.blkI 3 rfl, hm.blkI 4 rfl, hm.blkI 5 rfl, trivial⟩) (ov_extract rfl rfl) rfl ?_
                refine wa_all [16] (by kernel_rfl) rfl ⟨⟨_, rfl, ?_⟩, trivial⟩
                refine wl_stores (cs' := [.string k1, .string d1, .int .i64 f1, .int .i64 t1, .slice A1 n1 c1]) 0 rz95 rfl rfl rfl rfl rfl rfl rfl rfl ?_
                refine wl_nil ?_
                refine nx_wa0 (listed' := #[true, true, true, true, true, true, true, true, true, true, true, true, true, true, true, true, true, false]) rfl (fun _ hm => ⟨hm.blkI 3 rfl, hm.blkI 4 rfl, hm.blkI 5 rfl, trivial⟩) ?_
                refine wa_take 17 rfl (by kernel_rfl) (by kernel_rfl) (by kernel_rfl) (listed' := #[true, true, true, true, true, true, true, true, true, true, true, true, true, true, true, true, true, true]) rfl (fun _ _ _ h => h) (fun _ hm => ⟨hm.blkI 3 rfl, hm.blkI 4 rfl, hm.blkI 5 rfl, trivial⟩) (ov_assign rfl) rfl ?_
                refine wa_done (by kernel_rfl) ?_
                exact nx_meet (k1, d1, f1, t1, A1, n1, c1, l1, hireE ⟨key, s6, fr, fr + v3, [startLeg s8 ⟨ra, rs, rm, rf⟩]⟩, g12) hb1 ⟨rfl, rfl, rfl, rfl, rfl, rfl, rfl, trivial⟩ (fun _ hm => hm.pick [3, 4, 5, 0] [] [0] rfl rfl)
            · refine wl_alloc zc95 rfl fun g14 => ?_
              refine wl_nil ?_
              refine nx_wa0 (listed' := #[true, true, true, true, true, true, true, false, true, true, false, false, false, false, false, true, false, false]) rfl (fun _ hm => ⟨hm.blkI 3 rfl, hm.blkI 4 rfl, hm.blkI 5 rfl, trivial⟩) ?_
              refine wa_all [7] (by kernel_rfl) rfl ⟨⟨_, rfl, ?_⟩, trivial⟩
              refine wl_got (γ := ByteArray) (val := fun v => .string v) (φ := fun v => v ∈ ([⟨#[118, 49]⟩, ⟨#[118, 49]⟩, ⟨#[118, 50]⟩, ⟨#[118, 51]⟩] : List ByteArray)) rfl cb66 rfl rfl rfl rfl (fun wx hm => (some_any [⟨#[118, 49]⟩, ⟨#[118, 49]⟩, ⟨#[118, 50]⟩, ⟨#[118, 51]⟩] _ _ _ wx B sb _ hm.k (by omega) (by simp) (by simp) (hm.blkI 1 rfl) (hm.neRow 1 rfl rfl))) fun s15 hs15 => ?_
              have zs15 : s15.size ≤ 100 := mem_sz hs15 (by decide)
              refine wl_nil ?_
              refine nx_wa0 (listed' := #[true, true, true, true, true, true, true, true, true, true, false, false, false, false, false, true, false, false]) rfl (fun _ hm => ⟨hm.blkI 3 rfl, hm.blkI 4 rfl, hm.blkI 5 rfl, trivial⟩) ?_
              refine wa_all [10] (by kernel_rfl) rfl ⟨⟨_, rfl, ?_⟩, trivial⟩
              refine wl_calls (γ := Int × ByteArray × Int × Int) (val := (fun (g : Int × ByteArray × Int × Int) => .agg #[.int .i64 g.1, .string g.2.1, .int .i64 g.2.2.1, .int .i64 g.2.2.2])) (φ := (fun (g : Int × ByteArray × Int × Int) => RdOk ⟨g.1, g.2.1, g.2.2.1, g.2.2.2⟩)) (Y := (fun (g : Int × ByteArray × Int × Int) => fun _ => True)) (m' := m + 200 * i + 1 + 1 + 1 + 10) rfl cb164 rfl rfl rfl rfl (fun wx hm => (greading_any fr wx B sb _ hm.k (by omega) (by omega) (by omega)).mono fun _ _ ⟨r, hok, he, hS, hg⟩ => ⟨(r.at_, r.st, r.meter, r.fuel), he, hok, hS, hg, trivial⟩) (fun _ => Lasts2.true_) ?_
              rintro ⟨ra, rs, rm, rf⟩ hr_ra
              dsimp only at hr_ra ⊢
              have hz_rs : rs.size ≤ 1000000 := hr_ra
              refine wl_nil ?_
              refine nx_wa0 (listed' := #[true, true, true, true, true, true, true, true, true, true, true, false, false, false, false, true, false, false]) rfl (fun _ hm => ⟨hm.blkI 3 rfl, hm.blkI 4 rfl, hm.blkI 5 rfl, trivial⟩) ?_
              refine wa_all [11] (by kernel_rfl) rfl ⟨⟨_, rfl, ?_⟩, trivial⟩
              refine wl_callx (γ := ByteArray × ByteArray × Int × Int × Option Addr × Nat × Nat × List Lg) (val := (fun (g : ByteArray × ByteArray × Int × Int × Option Addr × Nat × Nat × List Lg) => .tuple #[.agg #[.string g.1, .string g.2.1, .int .i64 g.2.2.1, .int .i64 g.2.2.2.1, .slice g.2.2.2.2.1 g.2.2.2.2.2.1 g.2.2.2.2.2.2.1], .int .i64 (hireE ⟨key, s6, fr, fr + v3, [startLeg s15 ⟨ra, rs, rm, rf⟩]⟩)])) (φ := (fun (g : ByteArray × ByteArray × Int × Int × Option Addr × Nat × Nat × List Lg) => HrOk g.1 g.2.1 g.2.2.2.2.2.2.2 ∧ g.2.2.2.2.2.1 ≤ 1 ∧ (hireE ⟨key, s6, fr, fr + v3, [startLeg s15 ⟨ra, rs, rm, rf⟩]⟩ = 0 → g.2.2.2.2.2.1 = 1))) (Y := (fun (g : ByteArray × ByteArray × Int × Int × Option Addr × Nat × Nat × List Lg) => fun wy => SlT lgEnc 9 100 wy g.2.2.2.2.1 g.2.2.2.2.2.1 g.2.2.2.2.2.2.2)) rfl cb163 rfl rfl (fun wx hm => (startOf_lit key s6 fr (fr + v3) s15 ra rm rf rs wx (by omega) (by omega) (by omega) hz_rs).mono fun _ _ ⟨k, d, f, t, A, n, c, l, he, hsl, hok, hn, hn0, hg⟩ => ⟨(k, d, f, t, A, n, c, l), he, ⟨hok, hn, hn0⟩, hg, hsl⟩) (fun _ => SlT.lasts2 rfl) ?_
              rintro ⟨k1, d1, f1, t1, A1, n1, c1, l1⟩ hb1
              dsimp only at hb1 ⊢
              refine wl_nil ?_
              refine nx_wa0 (listed' := #[true, true, true, true, true, true, true, true, true, true, true, true, false, false, false, true, false, false]) rfl (fun _ hm => ⟨hm.blkI 3 rfl, hm.blkI 4 rfl, hm.blkI 5 rfl, trivial⟩) ?_
              refine wa_take 12 rfl (by kernel_rfl) (by kernel_rfl) (by kernel_rfl) (listed' := #[true, true, true, true, true, true, true, true, true, true, true, true, true, false, false, true, false, false]) rfl (fun _ _ _ h => h) (fun _ hm => ⟨hm.blkI 3 rfl, hm.blkI 4 rfl, hm.blkI 5 rfl, trivial⟩) (ov_move rfl) rfl ?_
              refine wa_take 13 rfl (by kernel_rfl) (by kernel_rfl) (by kernel_rfl) (listed' := #[true, true, true, true, true, true, true, true, true, true, true, true, true, true, false, true, false, false]) rfl (fun _ _ _ h => h) (fun _ hm => ⟨hm.blkI 3 rfl, hm.blkI 4 rfl, hm.blkI 5 rfl, trivial⟩) (ov_extract rfl rfl) rfl ?_
              refine wa_take 14 rfl (by kernel_rfl) (by kernel_rfl) (by kernel_rfl) (listed' := #[true, true, true, true, true, true, true, true, true, true, true, true, true, true, true, true, false, false]) rfl (fun _ _ _ h => h) (fun _ hm => ⟨hm.blkI 3 rfl, hm.blkI 4 rfl, hm.blkI 5 rfl, trivial⟩) (ov_extract rfl rfl) rfl ?_
              refine wa_all [16] (by kernel_rfl) rfl ⟨⟨_, rfl, ?_⟩, trivial⟩
              refine wl_stores (cs' := [.string k1, .string d1, .int .i64 f1, .int .i64 t1, .slice A1 n1 c1]) 0 rz95 rfl rfl rfl rfl rfl rfl rfl rfl ?_
              refine wl_nil ?_
              refine nx_wa0 (listed' := #[true, true, true, true, true, true, true, true, true, true, true, true, true, true, true, true, true, false]) rfl (fun _ hm => ⟨hm.blkI 3 rfl, hm.blkI 4 rfl, hm.blkI 5 rfl, trivial⟩) ?_
              refine wa_take 17 rfl (by kernel_rfl) (by kernel_rfl) (by kernel_rfl) (listed' := #[true, true, true, true, true, true, true, true, true, true, true, true, true, true, true, true, true, true]) rfl (fun _ _ _ h => h) (fun _ hm => ⟨hm.blkI 3 rfl, hm.blkI 4 rfl, hm.blkI 5 rfl, trivial⟩) (ov_assign rfl) rfl ?_
              refine wa_done (by kernel_rfl) ?_
              exact nx_meet (k1, d1, f1, t1, A1, n1, c1, l1, hireE ⟨key, s6, fr, fr + v3, [startLeg s15 ⟨ra, rs, rm, rf⟩]⟩, g14) hb1 ⟨rfl, rfl, rfl, rfl, rfl, rfl, rfl, trivial⟩ (fun _ hm => hm.pick [3, 4, 5, 0] [] [0] rfl rfl)
          · refine wl_alloc zc95 rfl fun g17 => ?_
            refine wl_nil ?_
            refine nx_wa0 (listed' := #[true, true, true, true, true, true, false, false, true, true, false, false, false, false, false, true, false, false]) rfl (fun _ hm => ⟨hm.blkI 2 rfl, hm.blkI 3 rfl, hm.blkI 4 rfl, trivial⟩) ?_
            refine wa_all [6] (by kernel_rfl) rfl ⟨⟨_, rfl, ?_⟩, trivial⟩
            refine wl_buildSlice (e := 9) (cs := [.string ⟨#[118, 49]⟩, .string ⟨#[118, 49]⟩, .string ⟨#[118, 50]⟩, .string ⟨#[118, 51]⟩]) rfl (by kernel_rfl) rfl fun g18 => ?_
            refine wl_nil ?_
            refine nx_wa0 (listed' := #[true, true, true, true, true, true, true, false, true, true, false, false, false, false, false, true, false, false]) rfl (fun _ hm => ⟨hm.blkI 3 rfl, hm.blkI 4 rfl, hm.blkI 5 rfl, trivial⟩) ?_
            refine wa_all [7] (by kernel_rfl) rfl ⟨⟨_, rfl, ?_⟩, trivial⟩
            refine wl_got (γ := ByteArray) (val := fun v => .string v) (φ := fun v => v ∈ ([⟨#[118, 49]⟩, ⟨#[118, 49]⟩, ⟨#[118, 50]⟩, ⟨#[118, 51]⟩] : List ByteArray)) rfl cb66 rfl rfl rfl rfl (fun wx hm => (some_any [⟨#[118, 49]⟩, ⟨#[118, 49]⟩, ⟨#[118, 50]⟩, ⟨#[118, 51]⟩] _ _ _ wx B sb _ hm.k (by omega) (by simp) (by simp) (hm.blkI 0 rfl) (hm.neRow 0 rfl rfl))) fun s19 hs19 => ?_
            have zs19 : s19.size ≤ 100 := mem_sz hs19 (by decide)
            refine wl_nil ?_
            refine nx_wa0 (listed' := #[true, true, true, true, true, true, true, true, true, true, false, false, false, false, false, true, false, false]) rfl (fun _ hm => ⟨hm.blkI 3 rfl, hm.blkI 4 rfl, hm.blkI 5 rfl, trivial⟩) ?_
            refine wa_all [10] (by kernel_rfl) rfl ⟨⟨_, rfl, ?_⟩, trivial⟩
            refine wl_calls (γ := Int × ByteArray × Int × Int) (val := (fun (g : Int × ByteArray × Int × Int) => .agg #[.int .i64 g.1, .string g.2.1, .int .i64 g.2.2.1, .int .i64 g.2.2.2])) (φ := (fun (g : Int × ByteArray × Int × Int) => RdOk ⟨g.1, g.2.1, g.2.2.1, g.2.2.2⟩)) (Y := (fun (g : Int × ByteArray × Int × Int) => fun _ => True)) (m' := m + 200 * i + 1 + 1 + 1 + 10) rfl cb164 rfl rfl rfl rfl (fun wx hm => (greading_any fr wx B sb _ hm.k (by omega) (by omega) (by omega)).mono fun _ _ ⟨r, hok, he, hS, hg⟩ => ⟨(r.at_, r.st, r.meter, r.fuel), he, hok, hS, hg, trivial⟩) (fun _ => Lasts2.true_) ?_
            rintro ⟨ra, rs, rm, rf⟩ hr_ra
            dsimp only at hr_ra ⊢
            have hz_rs : rs.size ≤ 1000000 := hr_ra
            refine wl_nil ?_
            refine nx_wa0 (listed' := #[true, true, true, true, true, true, true, true, true, true, true, false, false, false, false, true, false, false]) rfl (fun _ hm => ⟨hm.blkI 3 rfl, hm.blkI 4 rfl, hm.blkI 5 rfl, trivial⟩) ?_
            refine wa_all [11] (by kernel_rfl) rfl ⟨⟨_, rfl, ?_⟩, trivial⟩
            refine wl_callx (γ := ByteArray × ByteArray × Int × Int × Option Addr × Nat × Nat × List Lg) (val := (fun (g : ByteArray × ByteArray × Int × Int × Option Addr × Nat × Nat × List Lg) => .tuple #[.agg #[.string g.1, .string g.2.1, .int .i64 g.2.2.1, .int .i64 g.2.2.2.1, .slice g.2.2.2.2.1 g.2.2.2.2.2.1 g.2.2.2.2.2.2.1], .int .i64 (hireE ⟨key, s6, fr, fr + v3, [startLeg s19 ⟨ra, rs, rm, rf⟩]⟩)])) (φ := (fun (g : ByteArray × ByteArray × Int × Int × Option Addr × Nat × Nat × List Lg) => HrOk g.1 g.2.1 g.2.2.2.2.2.2.2 ∧ g.2.2.2.2.2.1 ≤ 1 ∧ (hireE ⟨key, s6, fr, fr + v3, [startLeg s19 ⟨ra, rs, rm, rf⟩]⟩ = 0 → g.2.2.2.2.2.1 = 1))) (Y := (fun (g : ByteArray × ByteArray × Int × Int × Option Addr × Nat × Nat × List Lg) => fun wy => SlT lgEnc 9 100 wy g.2.2.2.2.1 g.2.2.2.2.2.1 g.2.2.2.2.2.2.2)) rfl cb163 rfl rfl (fun wx hm => (startOf_lit key s6 fr (fr + v3) s19 ra rm rf rs wx (by omega) (by omega) (by omega) hz_rs).mono fun _ _ ⟨k, d, f, t, A, n, c, l, he, hsl, hok, hn, hn0, hg⟩ => ⟨(k, d, f, t, A, n, c, l), he, ⟨hok, hn, hn0⟩, hg, hsl⟩) (fun _ => SlT.lasts2 rfl) ?_
            rintro ⟨k1, d1, f1, t1, A1, n1, c1, l1⟩ hb1
            dsimp only at hb1 ⊢
            refine wl_nil ?_
            refine nx_wa0 (listed' := #[true, true, true, true, true, true, true, true, true, true, true, true, false, false, false, true, false, false]) rfl (fun _ hm => ⟨hm.blkI 3 rfl, hm.blkI 4 rfl, hm.blkI 5 rfl, trivial⟩) ?_
            refine wa_take 12 rfl (by kernel_rfl) (by kernel_rfl) (by kernel_rfl) (listed' := #[true, true, true, true, true, true, true, true, true, true, true, true, true, false, false, true, false, false]) rfl (fun _ _ _ h => h) (fun _ hm => ⟨hm.blkI 3 rfl, hm.blkI 4 rfl, hm.blkI 5 rfl, trivial⟩) (ov_move rfl) rfl ?_
            refine wa_take 13 rfl (by kernel_rfl) (by kernel_rfl) (by kernel_rfl) (listed' := #[true, true, true, true, true, true, true, true, true, true, true, true, true, true, false, true, false, false]) rfl (fun _ _ _ h => h) (fun _ hm => ⟨hm.blkI 3 rfl, hm.blkI 4 rfl, hm.blkI 5 rfl, trivial⟩) (ov_extract rfl rfl) rfl ?_
            refine wa_take 14 rfl (by kernel_rfl) (by kernel_rfl) (by kernel_rfl) (listed' := #[true, true, true, true, true, true, true, true, true, true, true, true, true, true, true, true, false, false]) rfl (fun _ _ _ h => h) (fun _ hm => ⟨hm.blkI 3 rfl, hm.blkI 4 rfl, hm.blkI 5 rfl, trivial⟩) (ov_extract rfl rfl) rfl ?_
            refine wa_all [16] (by kernel_rfl) rfl ⟨⟨_, rfl, ?_⟩, trivial⟩
            refine wl_stores (cs' := [.string k1, .string d1, .int .i64 f1, .int .i64 t1, .slice A1 n1 c1]) 1 rz95 rfl rfl rfl rfl rfl rfl rfl rfl ?_
            refine wl_nil ?_
            refine nx_wa0 (listed' := #[true, true, true, true, true, true, true, true, true, true, true, true, true, true, true, true, true, false]) rfl (fun _ hm => ⟨hm.blkI 3 rfl, hm.blkI 4 rfl, hm.blkI 5 rfl, trivial⟩) ?_
            refine wa_take 17 rfl (by kernel_rfl) (by kernel_rfl) (by kernel_rfl) (listed' := #[true, true, true, true, true, true, true, true, true, true, true, true, true, true, true, true, true, true]) rfl (fun _ _ _ h => h) (fun _ hm => ⟨hm.blkI 3 rfl, hm.blkI 4 rfl, hm.blkI 5 rfl, trivial⟩) (ov_assign rfl) rfl ?_
            refine wa_done (by kernel_rfl) ?_
            exact nx_meet (k1, d1, f1, t1, A1, n1, c1, l1, hireE ⟨key, s6, fr, fr + v3, [startLeg s19 ⟨ra, rs, rm, rf⟩]⟩, g17) hb1 ⟨rfl, rfl, rfl, rfl, rfl, rfl, rfl, trivial⟩ (fun _ hm => hm.pick [3, 4, 5, 1] [] [0] rfl rfl)
        · refine wl_buildSlice (e := 9) (cs := [.string ⟨#[118, 49]⟩, .string ⟨#[118, 49]⟩, .string ⟨#[118, 50]⟩, .string ⟨#[118, 51]⟩]) rfl (by kernel_rfl) rfl fun g21 => ?_
          refine wl_nil ?_
          refine nx_wa0 (listed' := #[true, true, true, false, true, true, true, false, true, true, false, false, false, false, false, false, false, false]) rfl (fun _ hm => ⟨hm.blkI 2 rfl, hm.blkI 3 rfl, hm.blkI 4 rfl, trivial⟩) ?_
          refine wa_all [3, 15] (by kernel_rfl) rfl ⟨⟨_, rfl, ?_⟩, ⟨_, rfl, ?_⟩, trivial⟩
          · refine wl_got (γ := ByteArray) (val := fun v => .string v) (φ := fun v => v ∈ ([⟨#[97, 110, 110]⟩, ⟨#[97, 110, 110]⟩, ⟨#[98, 111, 98]⟩, ⟨#[99, 105, 100]⟩] : List ByteArray)) rfl cb66 rfl rfl rfl rfl (fun wx hm => (some_any [⟨#[97, 110, 110]⟩, ⟨#[97, 110, 110]⟩, ⟨#[98, 111, 98]⟩, ⟨#[99, 105, 100]⟩] _ _ _ wx B sb _ hm.k (by omega) (by simp) (by simp) (hm.blkI 1 rfl) (hm.neRow 1 rfl rfl))) fun s22 hs22 => ?_
            have zs22 : s22.size ≤ 100 := mem_sz hs22 (by decide)
            refine wl_nil ?_
            refine nx_wa0 (listed' := #[true, true, true, true, true, true, true, false, true, true, false, false, false, false, false, false, false, false]) rfl (fun _ hm => ⟨hm.blkI 2 rfl, hm.blkI 3 rfl, hm.blkI 4 rfl, trivial⟩) ?_
            refine wa_all [7, 15] (by kernel_rfl) rfl ⟨⟨_, rfl, ?_⟩, ⟨_, rfl, ?_⟩, trivial⟩
            · refine wl_got (γ := ByteArray) (val := fun v => .string v) (φ := fun v => v ∈ ([⟨#[118, 49]⟩, ⟨#[118, 49]⟩, ⟨#[118, 50]⟩, ⟨#[118, 51]⟩] : List ByteArray)) rfl cb66 rfl rfl rfl rfl (fun wx hm => (some_any [⟨#[118, 49]⟩, ⟨#[118, 49]⟩, ⟨#[118, 50]⟩, ⟨#[118, 51]⟩] _ _ _ wx B sb _ hm.k (by omega) (by simp) (by simp) (hm.blkI 0 rfl) (hm.neRow 0 rfl rfl))) fun s23 hs23 => ?_
              have zs23 : s23.size ≤ 100 := mem_sz hs23 (by decide)
              refine wl_nil ?_
              refine nx_wa0 (listed' := #[true, true, true, true, true, true, true, true, true, true, false, false, false, false, false, false, false, false]) rfl (fun _ hm => ⟨hm.blkI 2 rfl, hm.blkI 3 rfl, hm.blkI 4 rfl, trivial⟩) ?_
              refine wa_all [10, 15] (by kernel_rfl) rfl ⟨⟨_, rfl, ?_⟩, ⟨_, rfl, ?_⟩, trivial⟩
              · refine wl_calls (γ := Int × ByteArray × Int × Int) (val := (fun (g : Int × ByteArray × Int × Int) => .agg #[.int .i64 g.1, .string g.2.1, .int .i64 g.2.2.1, .int .i64 g.2.2.2])) (φ := (fun (g : Int × ByteArray × Int × Int) => RdOk ⟨g.1, g.2.1, g.2.2.1, g.2.2.2⟩)) (Y := (fun (g : Int × ByteArray × Int × Int) => fun _ => True)) (m' := m + 200 * i + 1 + 1 + 1 + 10) rfl cb164 rfl rfl rfl rfl (fun wx hm => (greading_any fr wx B sb _ hm.k (by omega) (by omega) (by omega)).mono fun _ _ ⟨r, hok, he, hS, hg⟩ => ⟨(r.at_, r.st, r.meter, r.fuel), he, hok, hS, hg, trivial⟩) (fun _ => Lasts2.true_) ?_
                rintro ⟨ra, rs, rm, rf⟩ hr_ra
                dsimp only at hr_ra ⊢
                have hz_rs : rs.size ≤ 1000000 := hr_ra
                refine wl_nil ?_
                refine nx_wa0 (listed' := #[true, true, true, true, true, true, true, true, true, true, true, false, false, false, false, false, false, false]) rfl (fun _ hm => ⟨hm.blkI 2 rfl, hm.blkI 3 rfl, hm.blkI 4 rfl, trivial⟩) ?_
                refine wa_all [11, 15] (by kernel_rfl) rfl ⟨⟨_, rfl, ?_⟩, ⟨_, rfl, ?_⟩, trivial⟩
                · refine wl_callx (γ := ByteArray × ByteArray × Int × Int × Option Addr × Nat × Nat × List Lg) (val := (fun (g : ByteArray × ByteArray × Int × Int × Option Addr × Nat × Nat × List Lg) => .tuple #[.agg #[.string g.1, .string g.2.1, .int .i64 g.2.2.1, .int .i64 g.2.2.2.1, .slice g.2.2.2.2.1 g.2.2.2.2.2.1 g.2.2.2.2.2.2.1], .int .i64 (hireE ⟨key, s22, fr, fr + v3, [startLeg s23 ⟨ra, rs, rm, rf⟩]⟩)])) (φ := (fun (g : ByteArray × ByteArray × Int × Int × Option Addr × Nat × Nat × List Lg) => HrOk g.1 g.2.1 g.2.2.2.2.2.2.2 ∧ g.2.2.2.2.2.1 ≤ 1 ∧ (hireE ⟨key, s22, fr, fr + v3, [startLeg s23 ⟨ra, rs, rm, rf⟩]⟩ = 0 → g.2.2.2.2.2.1 = 1))) (Y := (fun (g : ByteArray × ByteArray × Int × Int × Option Addr × Nat × Nat × List Lg) => fun wy => SlT lgEnc 9 100 wy g.2.2.2.2.1 g.2.2.2.2.2.1 g.2.2.2.2.2.2.2)) rfl cb163 rfl rfl (fun wx hm => (startOf_lit key s22 fr (fr + v3) s23 ra rm rf rs wx (by omega) (by omega) (by omega) hz_rs).mono fun _ _ ⟨k, d, f, t, A, n, c, l, he, hsl, hok, hn, hn0, hg⟩ => ⟨(k, d, f, t, A, n, c, l), he, ⟨hok, hn, hn0⟩, hg, hsl⟩) (fun _ => SlT.lasts2 rfl) ?_
                  rintro ⟨k1, d1, f1, t1, A1, n1, c1, l1⟩ hb1
                  dsimp only at hb1 ⊢
                  refine wl_nil ?_
                  refine nx_wa0 (listed' := #[true, true, true, true, true, true, true, true, true, true, true, true, false, false, false, false, false, false]) rfl (fun _ hm => ⟨hm.blkI 2 rfl, hm.blkI 3 rfl, hm.blkI 4 rfl, trivial⟩) ?_
                  refine wa_take 12 rfl (by kernel_rfl) (by kernel_rfl) (by kernel_rfl) (listed' := #[true, true, true, true, true, true, true, true, true, true, true, true, true, false, false, false, false, false]) rfl (fun _ _ _ h => h) (fun _ hm => ⟨hm.blkI 2 rfl, hm.blkI 3 rfl, hm.blkI 4 rfl, trivial⟩) (ov_move rfl) rfl ?_
                  refine wa_take 13 rfl (by kernel_rfl) (by kernel_rfl) (by kernel_rfl) (listed' := #[true, true, true, true, true, true, true, true, true, true, true, true, true, true, false, false, false, false]) rfl (fun _ _ _ h => h) (fun _ hm => ⟨hm.blkI 2 rfl, hm.blkI 3 rfl, hm.blkI 4 rfl, trivial⟩) (ov_extract rfl rfl) rfl ?_
                  refine wa_take 14 rfl (by kernel_rfl) (by kernel_rfl) (by kernel_rfl) (listed' := #[true, true, true, true, true, true, true, true, true, true, true, true, true, true, true, false, false, false]) rfl (fun _ _ _ h => h) (fun _ hm => ⟨hm.blkI 2 rfl, hm.blkI 3 rfl, hm.blkI 4 rfl, trivial⟩) (ov_extract rfl rfl) rfl ?_
                  refine wa_all [15] (by kernel_rfl) rfl ⟨⟨_, rfl, ?_⟩, trivial⟩
                  refine wl_alloc zc95 rfl fun g25 => ?_
                  refine wl_nil ?_
                  refine nx_wa0 (listed' := #[true, true, true, true, true, true, true, true, true, true, true, true, true, true, true, true, false, false]) rfl (fun _ hm => ⟨hm.blkI 3 rfl, hm.blkI 4 rfl, hm.blkI 5 rfl, trivial⟩) ?_
                  refine wa_all [16] (by kernel_rfl) rfl ⟨⟨_, rfl, ?_⟩, trivial⟩
                  refine wl_stores (cs' := [.string k1, .string d1, .int .i64 f1, .int .i64 t1, .slice A1 n1 c1]) 0 rz95 rfl rfl rfl rfl rfl rfl rfl rfl ?_
                  refine wl_nil ?_
                  refine nx_wa0 (listed' := #[true, true, true, true, true, true, true, true, true, true, true, true, true, true, true, true, true, false]) rfl (fun _ hm => ⟨hm.blkI 3 rfl, hm.blkI 4 rfl, hm.blkI 5 rfl, trivial⟩) ?_
                  refine wa_take 17 rfl (by kernel_rfl) (by kernel_rfl) (by kernel_rfl) (listed' := #[true, true, true, true, true, true, true, true, true, true, true, true, true, true, true, true, true, true]) rfl (fun _ _ _ h => h) (fun _ hm => ⟨hm.blkI 3 rfl, hm.blkI 4 rfl, hm.blkI 5 rfl, trivial⟩) (ov_assign rfl) rfl ?_
                  refine wa_done (by kernel_rfl) ?_
                  exact nx_meet (k1, d1, f1, t1, A1, n1, c1, l1, hireE ⟨key, s22, fr, fr + v3, [startLeg s23 ⟨ra, rs, rm, rf⟩]⟩, g25) hb1 ⟨rfl, rfl, rfl, rfl, rfl, rfl, rfl, trivial⟩ (fun _ hm => hm.pick [3, 4, 5, 0] [] [0] rfl rfl)
                · refine wl_alloc zc95 rfl fun g26 => ?_
                  refine wl_nil ?_
                  refine nx_wa0 (listed' := #[true, true, true, true, true, true, true, true, true, true, true, false, false, false, false, true, false, false]) rfl (fun _ hm => ⟨hm.blkI 3 rfl, hm.blkI 4 rfl, hm.blkI 5 rfl, trivial⟩) ?_
                  refine wa_all [11] (by kernel_rfl) rfl ⟨⟨_, rfl, ?_⟩, trivial⟩
                  refine wl_callx (γ := ByteArray × ByteArray × Int × Int × Option Addr × Nat × Nat × List Lg) (val := (fun (g : ByteArray × ByteArray × Int × Int × Option Addr × Nat × Nat × List Lg) => .tuple #[.agg #[.string g.1, .string g.2.1, .int .i64 g.2.2.1, .int .i64 g.2.2.2.1, .slice g.2.2.2.2.1 g.2.2.2.2.2.1 g.2.2.2.2.2.2.1], .int .i64 (hireE ⟨key, s22, fr, fr + v3, [startLeg s23 ⟨ra, rs, rm, rf⟩]⟩)])) (φ := (fun (g : ByteArray × ByteArray × Int × Int × Option Addr × Nat × Nat × List Lg) => HrOk g.1 g.2.1 g.2.2.2.2.2.2.2 ∧ g.2.2.2.2.2.1 ≤ 1 ∧ (hireE ⟨key, s22, fr, fr + v3, [startLeg s23 ⟨ra, rs, rm, rf⟩]⟩ = 0 → g.2.2.2.2.2.1 = 1))) (Y := (fun (g : ByteArray × ByteArray × Int × Int × Option Addr × Nat × Nat × List Lg) => fun wy => SlT lgEnc 9 100 wy g.2.2.2.2.1 g.2.2.2.2.2.1 g.2.2.2.2.2.2.2)) rfl cb163 rfl rfl (fun wx hm => (startOf_lit key s22 fr (fr + v3) s23 ra rm rf rs wx (by omega) (by omega) (by omega) hz_rs).mono fun _ _ ⟨k, d, f, t, A, n, c, l, he, hsl, hok, hn, hn0, hg⟩ => ⟨(k, d, f, t, A, n, c, l), he, ⟨hok, hn, hn0⟩, hg, hsl⟩) (fun _ => SlT.lasts2 rfl) ?_
                  rintro ⟨k1, d1, f1, t1, A1, n1, c1, l1⟩ hb1
                  dsimp only at hb1 ⊢
                  refine wl_nil ?_
                  refine nx_wa0 (listed' := #[true, true, true, true, true, true, true, true, true, true, true, true, false, false, false, true, false, false]) rfl (fun _ hm => ⟨hm.blkI 3 rfl, hm.blkI 4 rfl, hm.blkI 5 rfl, trivial⟩) ?_
                  refine wa_take 12 rfl (by kernel_rfl) (by kernel_rfl) (by kernel_rfl) (listed' := #[true, true, true, true, true, true, true, true, true, true, true, true, true, false, false, true, false, false]) rfl (fun _ _ _ h => h) (fun _ hm => ⟨hm.blkI 3 rfl, hm.blkI 4 rfl, hm.blkI 5 rfl, trivial⟩) (ov_move rfl) rfl ?_
                  refine wa_take 13 rfl (by kernel_rfl) (by kernel_rfl) (by kernel_rfl) (listed' := #[true, true, true, true, true, true, true, true, true, true, true, true, true, true, false, true, false, false]) rfl (fun _ _ _ h => h) (fun _ hm => ⟨hm.blkI 3 rfl, hm.blkI 4 rfl, hm.blkI 5 rfl, trivial⟩) (ov_extract rfl rfl) rfl ?_
                  refine wa_take 14 rfl (by kernel_rfl) (by kernel_rfl) (by kernel_rfl) (listed' := #[true, true, true, true, true, true, true, true, true, true, true, true, true, true, true, true, false, false]) rfl (fun _ _ _ h => h) (fun _ hm => ⟨hm.blkI 3 rfl, hm.blkI 4 rfl, hm.blkI 5 rfl, trivial⟩) (ov_extract rfl rfl) rfl ?_
                  refine wa_all [16] (by kernel_rfl) rfl ⟨⟨_, rfl, ?_⟩, trivial⟩
                  refine wl_stores (cs' := [.string k1, .string d1, .int .i64 f1, .int .i64 t1, .slice A1 n1 c1]) 0 rz95 rfl rfl rfl rfl rfl rfl rfl rfl ?_
                  refine wl_nil ?_
                  refine nx_wa0 (listed' := #[true, true, true, true, true, true, true, true, true, true, true, true, true, true, true, true, true, false]) rfl (fun _ hm => ⟨hm.blkI 3 rfl, hm.blkI 4 rfl, hm.blkI 5 rfl, trivial⟩) ?_
                  refine wa_take 17 rfl (by kernel_rfl) (by kernel_rfl) (by kernel_rfl) (listed' := #[true, true, true, true, true, true, true, true, true, true, true, true, true, true, true, true, true, true]) rfl (fun _ _ _ h => h) (fun _ hm => ⟨hm.blkI 3 rfl, hm.blkI 4 rfl, hm.blkI 5 rfl, trivial⟩) (ov_assign rfl) rfl ?_
                  refine wa_done (by kernel_rfl) ?_
                  exact nx_meet (k1, d1, f1, t1, A1, n1, c1, l1, hireE ⟨key, s22, fr, fr + v3, [startLeg s23 ⟨ra, rs, rm, rf⟩]⟩, g26) hb1 ⟨rfl, rfl, rfl, rfl, rfl, rfl, rfl, trivial⟩ (fun _ hm => hm.pick [3, 4, 5, 0] [] [0] rfl rfl)
              · refine wl_alloc zc95 rfl fun g27 => ?_
                refine wl_nil ?_
                refine nx_wa0 (listed' := #[true, true, true, true, true, true, true, true, true, true, false, false, false, false, false, true, false, false]) rfl (fun _ hm => ⟨hm.blkI 3 rfl, hm.blkI 4 rfl, hm.blkI 5 rfl, trivial⟩) ?_
                refine wa_all [10] (by kernel_rfl) rfl ⟨⟨_, rfl, ?_⟩, trivial⟩
                refine wl_calls (γ := Int × ByteArray × Int × Int) (val := (fun (g : Int × ByteArray × Int × Int) => .agg #[.int .i64 g.1, .string g.2.1, .int .i64 g.2.2.1, .int .i64 g.2.2.2])) (φ := (fun (g : Int × ByteArray × Int × Int) => RdOk ⟨g.1, g.2.1, g.2.2.1, g.2.2.2⟩)) (Y := (fun (g : Int × ByteArray × Int × Int) => fun _ => True)) (m' := m + 200 * i + 1 + 1 + 1 + 10) rfl cb164 rfl rfl rfl rfl (fun wx hm => (greading_any fr wx B sb _ hm.k (by omega) (by omega) (by omega)).mono fun _ _ ⟨r, hok, he, hS, hg⟩ => ⟨(r.at_, r.st, r.meter, r.fuel), he, hok, hS, hg, trivial⟩) (fun _ => Lasts2.true_) ?_
                rintro ⟨ra, rs, rm, rf⟩ hr_ra
                dsimp only at hr_ra ⊢
                have hz_rs : rs.size ≤ 1000000 := hr_ra
                refine wl_nil ?_
                refine nx_wa0 (listed' := #[true, true, true, true, true, true, true, true, true, true, true, false, false, false, false, true, false, false]) rfl (fun _ hm => ⟨hm.blkI 3 rfl, hm.blkI 4 rfl, hm.blkI 5 rfl, trivial⟩) ?_
                refine wa_all [11] (by kernel_rfl) rfl ⟨⟨_, rfl, ?_⟩, trivial⟩
                refine wl_callx (γ := ByteArray × ByteArray × Int × Int × Option Addr × Nat × Nat × List Lg) (val := (fun (g : ByteArray × ByteArray × Int × Int × Option Addr × Nat × Nat × List Lg) => .tuple #[.agg #[.string g.1, .string g.2.1, .int .i64 g.2.2.1, .int .i64 g.2.2.2.1, .slice g.2.2.2.2.1 g.2.2.2.2.2.1 g.2.2.2.2.2.2.1], .int .i64 (hireE ⟨key, s22, fr, fr + v3, [startLeg s23 ⟨ra, rs, rm, rf⟩]⟩)])) (φ := (fun (g : ByteArray × ByteArray × Int × Int × Option Addr × Nat × Nat × List Lg) => HrOk g.1 g.2.1 g.2.2.2.2.2.2.2 ∧ g.2.2.2.2.2.1 ≤ 1 ∧ (hireE ⟨key, s22, fr, fr + v3, [startLeg s23 ⟨ra, rs, rm, rf⟩]⟩ = 0 → g.2.2.2.2.2.1 = 1))) (Y := (fun (g : ByteArray × ByteArray × Int × Int × Option Addr × Nat × Nat × List Lg) => fun wy => SlT lgEnc 9 100 wy g.2.2.2.2.1 g.2.2.2.2.2.1 g.2.2.2.2.2.2.2)) rfl cb163 rfl rfl (fun wx hm => (startOf_lit key s22 fr (fr + v3) s23 ra rm rf rs wx (by omega) (by omega) (by omega) hz_rs).mono fun _ _ ⟨k, d, f, t, A, n, c, l, he, hsl, hok, hn, hn0, hg⟩ => ⟨(k, d, f, t, A, n, c, l), he, ⟨hok, hn, hn0⟩, hg, hsl⟩) (fun _ => SlT.lasts2 rfl) ?_
                rintro ⟨k1, d1, f1, t1, A1, n1, c1, l1⟩ hb1
                dsimp only at hb1 ⊢
                refine wl_nil ?_
                refine nx_wa0 (listed' := #[true, true, true, true, true, true, true, true, true, true, true, true, false, false, false, true, false, false]) rfl (fun _ hm => ⟨hm.blkI 3 rfl, hm.blkI 4 rfl, hm.blkI 5 rfl, trivial⟩) ?_
                refine wa_take 12 rfl (by kernel_rfl) (by kernel_rfl) (by kernel_rfl) (listed' := #[true, true, true, true, true, true, true, true, true, true, true, true, true, false, false, true, false, false]) rfl (fun _ _ _ h => h) (fun _ hm => ⟨hm.blkI 3 rfl, hm.blkI 4 rfl, hm.blkI 5 rfl, trivial⟩) (ov_move rfl) rfl ?_
                refine wa_take 13 rfl (by kernel_rfl) (by kernel_rfl) (by kernel_rfl) (listed' := #[true, true, true, true, true, true, true, true, true, true, true, true, true, true, false, true, false, false]) rfl (fun _ _ _ h => h) (fun _ hm => ⟨hm.blkI 3 rfl, hm.blkI 4 rfl, hm.blkI 5 rfl, trivial⟩) (ov_extract rfl rfl) rfl ?_
                refine wa_take 14 rfl (by kernel_rfl) (by kernel_rfl) (by kernel_rfl) (listed' := #[true, true, true, true, true, true, true, true, true, true, true, true, true, true, true, true, false, false]) rfl (fun _ _ _ h => h) (fun _ hm => ⟨hm.blkI 3 rfl, hm.blkI 4 rfl, hm.blkI 5 rfl, trivial⟩) (ov_extract rfl rfl) rfl ?_
                refine wa_all [16] (by kernel_rfl) rfl ⟨⟨_, rfl, ?_⟩, trivial⟩
                refine wl_stores (cs' := [.string k1, .string d1, .int .i64 f1, .int .i64 t1, .slice A1 n1 c1]) 0 rz95 rfl rfl rfl rfl rfl rfl rfl rfl ?_
                refine wl_nil ?_
                refine nx_wa0 (listed' := #[true, true, true, true, true, true, true, true, true, true, true, true, true, true, true, true, true, false]) rfl (fun _ hm => ⟨hm.blkI 3 rfl, hm.blkI 4 rfl, hm.blkI 5 rfl, trivial⟩) ?_
                refine wa_take 17 rfl (by kernel_rfl) (by kernel_rfl) (by kernel_rfl) (listed' := #[true, true, true, true, true, true, true, true, true, true, true, true, true, true, true, true, true, true]) rfl (fun _ _ _ h => h) (fun _ hm => ⟨hm.blkI 3 rfl, hm.blkI 4 rfl, hm.blkI 5 rfl, trivial⟩) (ov_assign rfl) rfl ?_
                refine wa_done (by kernel_rfl) ?_
                exact nx_meet (k1, d1, f1, t1, A1, n1, c1, l1, hireE ⟨key, s22, fr, fr + v3, [startLeg s23 ⟨ra, rs, rm, rf⟩]⟩, g27) hb1 ⟨rfl, rfl, rfl, rfl, rfl, rfl, rfl, trivial⟩ (fun _ hm => hm.pick [3, 4, 5, 0] [] [0] rfl rfl)
            · refine wl_alloc zc95 rfl fun g29 => ?_
              refine wl_nil ?_
              refine nx_wa0 (listed' := #[true, true, true, true, true, true, true, false, true, true, false, false, false, false, false, true, false, false]) rfl (fun _ hm => ⟨hm.blkI 3 rfl, hm.blkI 4 rfl, hm.blkI 5 rfl, trivial⟩) ?_
              refine wa_all [7] (by kernel_rfl) rfl ⟨⟨_, rfl, ?_⟩, trivial⟩
              refine wl_got (γ := ByteArray) (val := fun v => .string v) (φ := fun v => v ∈ ([⟨#[118, 49]⟩, ⟨#[118, 49]⟩, ⟨#[118, 50]⟩, ⟨#[118, 51]⟩] : List ByteArray)) rfl cb66 rfl rfl rfl rfl (fun wx hm => (some_any [⟨#[118, 49]⟩, ⟨#[118, 49]⟩, ⟨#[118, 50]⟩, ⟨#[118, 51]⟩] _ _ _ wx B sb _ hm.k (by omega) (by simp) (by simp) (hm.blkI 1 rfl) (hm.neRow 1 rfl rfl))) fun s30 hs30 => ?_
              have zs30 : s30.size ≤ 100 := mem_sz hs30 (by decide)
              refine wl_nil ?_
              refine nx_wa0 (listed' := #[true, true, true, true, true, true, true, true, true, true, false, false, false, false, false, true, false, false]) rfl (fun _ hm => ⟨hm.blkI 3 rfl, hm.blkI 4 rfl, hm.blkI 5 rfl, trivial⟩) ?_
              refine wa_all [10] (by kernel_rfl) rfl ⟨⟨_, rfl, ?_⟩, trivial⟩
              refine wl_calls (γ := Int × ByteArray × Int × Int) (val := (fun (g : Int × ByteArray × Int × Int) => .agg #[.int .i64 g.1, .string g.2.1, .int .i64 g.2.2.1, .int .i64 g.2.2.2])) (φ := (fun (g : Int × ByteArray × Int × Int) => RdOk ⟨g.1, g.2.1, g.2.2.1, g.2.2.2⟩)) (Y := (fun (g : Int × ByteArray × Int × Int) => fun _ => True)) (m' := m + 200 * i + 1 + 1 + 1 + 10) rfl cb164 rfl rfl rfl rfl (fun wx hm => (greading_any fr wx B sb _ hm.k (by omega) (by omega) (by omega)).mono fun _ _ ⟨r, hok, he, hS, hg⟩ => ⟨(r.at_, r.st, r.meter, r.fuel), he, hok, hS, hg, trivial⟩) (fun _ => Lasts2.true_) ?_
              rintro ⟨ra, rs, rm, rf⟩ hr_ra
              dsimp only at hr_ra ⊢
              have hz_rs : rs.size ≤ 1000000 := hr_ra
              refine wl_nil ?_
              refine nx_wa0 (listed' := #[true, true, true, true, true, true, true, true, true, true, true, false, false, false, false, true, false, false]) rfl (fun _ hm => ⟨hm.blkI 3 rfl, hm.blkI 4 rfl, hm.blkI 5 rfl, trivial⟩) ?_
              refine wa_all [11] (by kernel_rfl) rfl ⟨⟨_, rfl, ?_⟩, trivial⟩
              refine wl_callx (γ := ByteArray × ByteArray × Int × Int × Option Addr × Nat × Nat × List Lg) (val := (fun (g : ByteArray × ByteArray × Int × Int × Option Addr × Nat × Nat × List Lg) => .tuple #[.agg #[.string g.1, .string g.2.1, .int .i64 g.2.2.1, .int .i64 g.2.2.2.1, .slice g.2.2.2.2.1 g.2.2.2.2.2.1 g.2.2.2.2.2.2.1], .int .i64 (hireE ⟨key, s22, fr, fr + v3, [startLeg s30 ⟨ra, rs, rm, rf⟩]⟩)])) (φ := (fun (g : ByteArray × ByteArray × Int × Int × Option Addr × Nat × Nat × List Lg) => HrOk g.1 g.2.1 g.2.2.2.2.2.2.2 ∧ g.2.2.2.2.2.1 ≤ 1 ∧ (hireE ⟨key, s22, fr, fr + v3, [startLeg s30 ⟨ra, rs, rm, rf⟩]⟩ = 0 → g.2.2.2.2.2.1 = 1))) (Y := (fun (g : ByteArray × ByteArray × Int × Int × Option Addr × Nat × Nat × List Lg) => fun wy => SlT lgEnc 9 100 wy g.2.2.2.2.1 g.2.2.2.2.2.1 g.2.2.2.2.2.2.2)) rfl cb163 rfl rfl (fun wx hm => (startOf_lit key s22 fr (fr + v3) s30 ra rm rf rs wx (by omega) (by omega) (by omega) hz_rs).mono fun _ _ ⟨k, d, f, t, A, n, c, l, he, hsl, hok, hn, hn0, hg⟩ => ⟨(k, d, f, t, A, n, c, l), he, ⟨hok, hn, hn0⟩, hg, hsl⟩) (fun _ => SlT.lasts2 rfl) ?_
              rintro ⟨k1, d1, f1, t1, A1, n1, c1, l1⟩ hb1
              dsimp only at hb1 ⊢
              refine wl_nil ?_
              refine nx_wa0 (listed' := #[true, true, true, true, true, true, true, true, true, true, true, true, false, false, false, true, false, false]) rfl (fun _ hm => ⟨hm.blkI 3 rfl, hm.blkI 4 rfl, hm.blkI 5 rfl, trivial⟩) ?_
              refine wa_take 12 rfl (by kernel_rfl) (by kernel_rfl) (by kernel_rfl) (listed' := #[true, true, true, true, true, true, true, true, true, true, true, true, true, false, false, true, false, false]) rfl (fun _ _ _ h => h) (fun _ hm => ⟨hm.blkI 3 rfl, hm.blkI 4 rfl, hm.blkI 5 rfl, trivial⟩) (ov_move rfl) rfl ?_
              refine wa_take 13 rfl (by kernel_rfl) (by kernel_rfl) (by kernel_rfl) (listed' := #[true, true, true, true, true, true, true, true, true, true, true, true, true, true, false, true, false, false]) rfl (fun _ _ _ h => h) (fun _ hm => ⟨hm.blkI 3 rfl, hm.blkI 4 rfl, hm.blkI 5 rfl, trivial⟩) (ov_extract rfl rfl) rfl ?_
              refine wa_take 14 rfl (by kernel_rfl) (by kernel_rfl) (by kernel_rfl) (listed' := #[true, true, true, true, true, true, true, true, true, true, true, true, true, true, true, true, false, false]) rfl (fun _ _ _ h => h) (fun _ hm => ⟨hm.blkI 3 rfl, hm.blkI 4 rfl, hm.blkI 5 rfl, trivial⟩) (ov_extract rfl rfl) rfl ?_
              refine wa_all [16] (by kernel_rfl) rfl ⟨⟨_, rfl, ?_⟩, trivial⟩
              refine wl_stores (cs' := [.string k1, .string d1, .int .i64 f1, .int .i64 t1, .slice A1 n1 c1]) 0 rz95 rfl rfl rfl rfl rfl rfl rfl rfl ?_
              refine wl_nil ?_
              refine nx_wa0 (listed' := #[true, true, true, true, true, true, true, true, true, true, true, true, true, true, true, true, true, false]) rfl (fun _ hm => ⟨hm.blkI 3 rfl, hm.blkI 4 rfl, hm.blkI 5 rfl, trivial⟩) ?_
              refine wa_take 17 rfl (by kernel_rfl) (by kernel_rfl) (by kernel_rfl) (listed' := #[true, true, true, true, true, true, true, true, true, true, true, true, true, true, true, true, true, true]) rfl (fun _ _ _ h => h) (fun _ hm => ⟨hm.blkI 3 rfl, hm.blkI 4 rfl, hm.blkI 5 rfl, trivial⟩) (ov_assign rfl) rfl ?_
              refine wa_done (by kernel_rfl) ?_
              exact nx_meet (k1, d1, f1, t1, A1, n1, c1, l1, hireE ⟨key, s22, fr, fr + v3, [startLeg s30 ⟨ra, rs, rm, rf⟩]⟩, g29) hb1 ⟨rfl, rfl, rfl, rfl, rfl, rfl, rfl, trivial⟩ (fun _ hm => hm.pick [3, 4, 5, 0] [] [0] rfl rfl)
          · refine wl_alloc zc95 rfl fun g32 => ?_
            refine wl_nil ?_
            refine nx_wa0 (listed' := #[true, true, true, false, true, true, true, false, true, true, false, false, false, false, false, true, false, false]) rfl (fun _ hm => ⟨hm.blkI 3 rfl, hm.blkI 4 rfl, hm.blkI 5 rfl, trivial⟩) ?_
            refine wa_all [3] (by kernel_rfl) rfl ⟨⟨_, rfl, ?_⟩, trivial⟩
            refine wl_got (γ := ByteArray) (val := fun v => .string v) (φ := fun v => v ∈ ([⟨#[97, 110, 110]⟩, ⟨#[97, 110, 110]⟩, ⟨#[98, 111, 98]⟩, ⟨#[99, 105, 100]⟩] : List ByteArray)) rfl cb66 rfl rfl rfl rfl (fun wx hm => (some_any [⟨#[97, 110, 110]⟩, ⟨#[97, 110, 110]⟩, ⟨#[98, 111, 98]⟩, ⟨#[99, 105, 100]⟩] _ _ _ wx B sb _ hm.k (by omega) (by simp) (by simp) (hm.blkI 2 rfl) (hm.neRow 2 rfl rfl))) fun s33 hs33 => ?_
            have zs33 : s33.size ≤ 100 := mem_sz hs33 (by decide)
            refine wl_nil ?_
            refine nx_wa0 (listed' := #[true, true, true, true, true, true, true, false, true, true, false, false, false, false, false, true, false, false]) rfl (fun _ hm => ⟨hm.blkI 3 rfl, hm.blkI 4 rfl, hm.blkI 5 rfl, trivial⟩) ?_
            refine wa_all [7] (by kernel_rfl) rfl ⟨⟨_, rfl, ?_⟩, trivial⟩
            refine wl_got (γ := ByteArray) (val := fun v => .string v) (φ := fun v => v ∈ ([⟨#[118, 49]⟩, ⟨#[118, 49]⟩, ⟨#[118, 50]⟩, ⟨#[118, 51]⟩] : List ByteArray)) rfl cb66 rfl rfl rfl rfl (fun wx hm => (some_any [⟨#[118, 49]⟩, ⟨#[118, 49]⟩, ⟨#[118, 50]⟩, ⟨#[118, 51]⟩] _ _ _ wx B sb _ hm.k (by omega) (by simp) (by simp) (hm.blkI 1 rfl) (hm.neRow 1 rfl rfl))) fun s34 hs34 => ?_
            have zs34 : s34.size ≤ 100 := mem_sz hs34 (by decide)
            refine wl_nil ?_
            refine nx_wa0 (listed' := #[true, true, true, true, true, true, true, true, true, true, false, false, false, false, false, true, false, false]) rfl (fun _ hm => ⟨hm.blkI 3 rfl, hm.blkI 4 rfl, hm.blkI 5 rfl, trivial⟩) ?_
            refine wa_all [10] (by kernel_rfl) rfl ⟨⟨_, rfl, ?_⟩, trivial⟩
            refine wl_calls (γ := Int × ByteArray × Int × Int) (val := (fun (g : Int × ByteArray × Int × Int) => .agg #[.int .i64 g.1, .string g.2.1, .int .i64 g.2.2.1, .int .i64 g.2.2.2])) (φ := (fun (g : Int × ByteArray × Int × Int) => RdOk ⟨g.1, g.2.1, g.2.2.1, g.2.2.2⟩)) (Y := (fun (g : Int × ByteArray × Int × Int) => fun _ => True)) (m' := m + 200 * i + 1 + 1 + 1 + 10) rfl cb164 rfl rfl rfl rfl (fun wx hm => (greading_any fr wx B sb _ hm.k (by omega) (by omega) (by omega)).mono fun _ _ ⟨r, hok, he, hS, hg⟩ => ⟨(r.at_, r.st, r.meter, r.fuel), he, hok, hS, hg, trivial⟩) (fun _ => Lasts2.true_) ?_
            rintro ⟨ra, rs, rm, rf⟩ hr_ra
            dsimp only at hr_ra ⊢
            have hz_rs : rs.size ≤ 1000000 := hr_ra
            refine wl_nil ?_
            refine nx_wa0 (listed' := #[true, true, true, true, true, true, true, true, true, true, true, false, false, false, false, true, false, false]) rfl (fun _ hm => ⟨hm.blkI 3 rfl, hm.blkI 4 rfl, hm.blkI 5 rfl, trivial⟩) ?_
            refine wa_all [11] (by kernel_rfl) rfl ⟨⟨_, rfl, ?_⟩, trivial⟩
            refine wl_callx (γ := ByteArray × ByteArray × Int × Int × Option Addr × Nat × Nat × List Lg) (val := (fun (g : ByteArray × ByteArray × Int × Int × Option Addr × Nat × Nat × List Lg) => .tuple #[.agg #[.string g.1, .string g.2.1, .int .i64 g.2.2.1, .int .i64 g.2.2.2.1, .slice g.2.2.2.2.1 g.2.2.2.2.2.1 g.2.2.2.2.2.2.1], .int .i64 (hireE ⟨key, s33, fr, fr + v3, [startLeg s34 ⟨ra, rs, rm, rf⟩]⟩)])) (φ := (fun (g : ByteArray × ByteArray × Int × Int × Option Addr × Nat × Nat × List Lg) => HrOk g.1 g.2.1 g.2.2.2.2.2.2.2 ∧ g.2.2.2.2.2.1 ≤ 1 ∧ (hireE ⟨key, s33, fr, fr + v3, [startLeg s34 ⟨ra, rs, rm, rf⟩]⟩ = 0 → g.2.2.2.2.2.1 = 1))) (Y := (fun (g : ByteArray × ByteArray × Int × Int × Option Addr × Nat × Nat × List Lg) => fun wy => SlT lgEnc 9 100 wy g.2.2.2.2.1 g.2.2.2.2.2.1 g.2.2.2.2.2.2.2)) rfl cb163 rfl rfl (fun wx hm => (startOf_lit key s33 fr (fr + v3) s34 ra rm rf rs wx (by omega) (by omega) (by omega) hz_rs).mono fun _ _ ⟨k, d, f, t, A, n, c, l, he, hsl, hok, hn, hn0, hg⟩ => ⟨(k, d, f, t, A, n, c, l), he, ⟨hok, hn, hn0⟩, hg, hsl⟩) (fun _ => SlT.lasts2 rfl) ?_
            rintro ⟨k1, d1, f1, t1, A1, n1, c1, l1⟩ hb1
            dsimp only at hb1 ⊢
            refine wl_nil ?_
            refine nx_wa0 (listed' := #[true, true, true, true, true, true, true, true, true, true, true, true, false, false, false, true, false, false]) rfl (fun _ hm => ⟨hm.blkI 3 rfl, hm.blkI 4 rfl, hm.blkI 5 rfl, trivial⟩) ?_
            refine wa_take 12 rfl (by kernel_rfl) (by kernel_rfl) (by kernel_rfl) (listed' := #[true, true, true, true, true, true, true, true, true, true, true, true, true, false, false, true, false, false]) rfl (fun _ _ _ h => h) (fun _ hm => ⟨hm.blkI 3 rfl, hm.blkI 4 rfl, hm.blkI 5 rfl, trivial⟩) (ov_move rfl) rfl ?_
            refine wa_take 13 rfl (by kernel_rfl) (by kernel_rfl) (by kernel_rfl) (listed' := #[true, true, true, true, true, true, true, true, true, true, true, true, true, true, false, true, false, false]) rfl (fun _ _ _ h => h) (fun _ hm => ⟨hm.blkI 3 rfl, hm.blkI 4 rfl, hm.blkI 5 rfl, trivial⟩) (ov_extract rfl rfl) rfl ?_
            refine wa_take 14 rfl (by kernel_rfl) (by kernel_rfl) (by kernel_rfl) (listed' := #[true, true, true, true, true, true, true, true, true, true, true, true, true, true, true, true, false, false]) rfl (fun _ _ _ h => h) (fun _ hm => ⟨hm.blkI 3 rfl, hm.blkI 4 rfl, hm.blkI 5 rfl, trivial⟩) (ov_extract rfl rfl) rfl ?_
            refine wa_all [16] (by kernel_rfl) rfl ⟨⟨_, rfl, ?_⟩, trivial⟩
            refine wl_stores (cs' := [.string k1, .string d1, .int .i64 f1, .int .i64 t1, .slice A1 n1 c1]) 0 rz95 rfl rfl rfl rfl rfl rfl rfl rfl ?_
            refine wl_nil ?_
            refine nx_wa0 (listed' := #[true, true, true, true, true, true, true, true, true, true, true, true, true, true, true, true, true, false]) rfl (fun _ hm => ⟨hm.blkI 3 rfl, hm.blkI 4 rfl, hm.blkI 5 rfl, trivial⟩) ?_
            refine wa_take 17 rfl (by kernel_rfl) (by kernel_rfl) (by kernel_rfl) (listed' := #[true, true, true, true, true, true, true, true, true, true, true, true, true, true, true, true, true, true]) rfl (fun _ _ _ h => h) (fun _ hm => ⟨hm.blkI 3 rfl, hm.blkI 4 rfl, hm.blkI 5 rfl, trivial⟩) (ov_assign rfl) rfl ?_
            refine wa_done (by kernel_rfl) ?_
            exact nx_meet (k1, d1, f1, t1, A1, n1, c1, l1, hireE ⟨key, s33, fr, fr + v3, [startLeg s34 ⟨ra, rs, rm, rf⟩]⟩, g32) hb1 ⟨rfl, rfl, rfl, rfl, rfl, rfl, rfl, trivial⟩ (fun _ hm => hm.pick [3, 4, 5, 0] [] [0] rfl rfl)
        · refine wl_alloc zc95 rfl fun g36 => ?_
          refine wl_nil ?_
          refine nx_wa0 (listed' := #[true, true, true, false, true, true, false, false, true, true, false, false, false, false, false, true, false, false]) rfl (fun _ hm => ⟨hm.blkI 2 rfl, hm.blkI 3 rfl, hm.blkI 4 rfl, trivial⟩) ?_
          refine wa_all [3, 6] (by kernel_rfl) rfl ⟨⟨_, rfl, ?_⟩, ⟨_, rfl, ?_⟩, trivial⟩
          · refine wl_got (γ := ByteArray) (val := fun v => .string v) (φ := fun v => v ∈ ([⟨#[97, 110, 110]⟩, ⟨#[97, 110, 110]⟩, ⟨#[98, 111, 98]⟩, ⟨#[99, 105, 100]⟩] : List ByteArray)) rfl cb66 rfl rfl rfl rfl (fun wx hm => (some_any [⟨#[97, 110, 110]⟩, ⟨#[97, 110, 110]⟩, ⟨#[98, 111, 98]⟩, ⟨#[99, 105, 100]⟩] _ _ _ wx B sb _ hm.k (by omega) (by simp) (by simp) (hm.blkI 1 rfl) (hm.neRow 1 rfl rfl))) fun s37 hs37 => ?_
            have zs37 : s37.size ≤ 100 := mem_sz hs37 (by decide)
            refine wl_nil ?_
            refine nx_wa0 (listed' := #[true, true, true, true, true, true, false, false, true, true, false, false, false, false, false, true, false, false]) rfl (fun _ hm => ⟨hm.blkI 2 rfl, hm.blkI 3 rfl, hm.blkI 4 rfl, trivial⟩) ?_
            refine wa_all [6] (by kernel_rfl) rfl ⟨⟨_, rfl, ?_⟩, trivial⟩
            refine wl_buildSlice (e := 9) (cs := [.string ⟨#[118, 49]⟩, .string ⟨#[118, 49]⟩, .string ⟨#[118, 50]⟩, .string ⟨#[118, 51]⟩]) rfl (by kernel_rfl) rfl fun g38 => ?_
            refine wl_nil ?_
            refine nx_wa0 (listed' := #[true, true, true, true, true, true, true, false, true, true, false, false, false, false, false, true, false, false]) rfl (fun _ hm => ⟨hm.blkI 3 rfl, hm.blkI 4 rfl, hm.blkI 5 rfl, trivial⟩) ?_
            refine wa_all [7] (by kernel_rfl) rfl ⟨⟨_, rfl, ?_⟩, trivial⟩
            refine wl_got (γ := ByteArray) (val := fun v => .string v) (φ := fun v => v ∈ ([⟨#[118, 49]⟩, ⟨#[118, 49]⟩, ⟨#[118, 50]⟩, ⟨#[118, 51]⟩] : List ByteArray)) rfl cb66 rfl rfl rfl rfl (fun wx hm => (some_any [⟨#[118, 49]⟩, ⟨#[118, 49]⟩, ⟨#[118, 50]⟩, ⟨#[118, 51]⟩] _ _ _ wx B sb _ hm.k (by omega) (by simp) (by simp) (hm.blkI 0 rfl) (hm.neRow 0 rfl rfl))) fun s39 hs39 => ?_
            have zs39 : s39.size ≤ 100 := mem_sz hs39 (by decide)
            refine wl_nil ?_
            refine nx_wa0 (listed' := #[true, true, true, true, true, true, true, true, true, true, false, false, false, false, false, true, false, false]) rfl (fun _ hm => ⟨hm.blkI 3 rfl, hm.blkI 4 rfl, hm.blkI 5 rfl, trivial⟩) ?_
            refine wa_all [10] (by kernel_rfl) rfl ⟨⟨_, rfl, ?_⟩, trivial⟩
            refine wl_calls (γ := Int × ByteArray × Int × Int) (val := (fun (g : Int × ByteArray × Int × Int) => .agg #[.int .i64 g.1, .string g.2.1, .int .i64 g.2.2.1, .int .i64 g.2.2.2])) (φ := (fun (g : Int × ByteArray × Int × Int) => RdOk ⟨g.1, g.2.1, g.2.2.1, g.2.2.2⟩)) (Y := (fun (g : Int × ByteArray × Int × Int) => fun _ => True)) (m' := m + 200 * i + 1 + 1 + 1 + 10) rfl cb164 rfl rfl rfl rfl (fun wx hm => (greading_any fr wx B sb _ hm.k (by omega) (by omega) (by omega)).mono fun _ _ ⟨r, hok, he, hS, hg⟩ => ⟨(r.at_, r.st, r.meter, r.fuel), he, hok, hS, hg, trivial⟩) (fun _ => Lasts2.true_) ?_
            rintro ⟨ra, rs, rm, rf⟩ hr_ra
            dsimp only at hr_ra ⊢
            have hz_rs : rs.size ≤ 1000000 := hr_ra
            refine wl_nil ?_
            refine nx_wa0 (listed' := #[true, true, true, true, true, true, true, true, true, true, true, false, false, false, false, true, false, false]) rfl (fun _ hm => ⟨hm.blkI 3 rfl, hm.blkI 4 rfl, hm.blkI 5 rfl, trivial⟩) ?_
            refine wa_all [11] (by kernel_rfl) rfl ⟨⟨_, rfl, ?_⟩, trivial⟩
            refine wl_callx (γ := ByteArray × ByteArray × Int × Int × Option Addr × Nat × Nat × List Lg) (val := (fun (g : ByteArray × ByteArray × Int × Int × Option Addr × Nat × Nat × List Lg) => .tuple #[.agg #[.string g.1, .string g.2.1, .int .i64 g.2.2.1, .int .i64 g.2.2.2.1, .slice g.2.2.2.2.1 g.2.2.2.2.2.1 g.2.2.2.2.2.2.1], .int .i64 (hireE ⟨key, s37, fr, fr + v3, [startLeg s39 ⟨ra, rs, rm, rf⟩]⟩)])) (φ := (fun (g : ByteArray × ByteArray × Int × Int × Option Addr × Nat × Nat × List Lg) => HrOk g.1 g.2.1 g.2.2.2.2.2.2.2 ∧ g.2.2.2.2.2.1 ≤ 1 ∧ (hireE ⟨key, s37, fr, fr + v3, [startLeg s39 ⟨ra, rs, rm, rf⟩]⟩ = 0 → g.2.2.2.2.2.1 = 1))) (Y := (fun (g : ByteArray × ByteArray × Int × Int × Option Addr × Nat × Nat × List Lg) => fun wy => SlT lgEnc 9 100 wy g.2.2.2.2.1 g.2.2.2.2.2.1 g.2.2.2.2.2.2.2)) rfl cb163 rfl rfl (fun wx hm => (startOf_lit key s37 fr (fr + v3) s39 ra rm rf rs wx (by omega) (by omega) (by omega) hz_rs).mono fun _ _ ⟨k, d, f, t, A, n, c, l, he, hsl, hok, hn, hn0, hg⟩ => ⟨(k, d, f, t, A, n, c, l), he, ⟨hok, hn, hn0⟩, hg, hsl⟩) (fun _ => SlT.lasts2 rfl) ?_
            rintro ⟨k1, d1, f1, t1, A1, n1, c1, l1⟩ hb1
            dsimp only at hb1 ⊢
            refine wl_nil ?_
            refine nx_wa0 (listed' := #[true, true, true, true, true, true, true, true, true, true, true, true, false, false, false, true, false, false]) rfl (fun _ hm => ⟨hm.blkI 3 rfl, hm.blkI 4 rfl, hm.blkI 5 rfl, trivial⟩) ?_
            refine wa_take 12 rfl (by kernel_rfl) (by kernel_rfl) (by kernel_rfl) (listed' := #[true, true, true, true, true, true, true, true, true, true, true, true, true, false, false, true, false, false]) rfl (fun _ _ _ h => h) (fun _ hm => ⟨hm.blkI 3 rfl, hm.blkI 4 rfl, hm.blkI 5 rfl, trivial⟩) (ov_move rfl) rfl ?_
            refine wa_take 13 rfl (by kernel_rfl) (by kernel_rfl) (by kernel_rfl) (listed' := #[true, true, true, true, true, true, true, true, true, true, true, true, true, true, false, true, false, false]) rfl (fun _ _ _ h => h) (fun _ hm => ⟨hm.blkI 3 rfl, hm.blkI 4 rfl, hm.blkI 5 rfl, trivial⟩) (ov_extract rfl rfl) rfl ?_
            refine wa_take 14 rfl (by kernel_rfl) (by kernel_rfl) (by kernel_rfl) (listed' := #[true, true, true, true, true, true, true, true, true, true, true, true, true, true, true, true, false, false]) rfl (fun _ _ _ h => h) (fun _ hm => ⟨hm.blkI 3 rfl, hm.blkI 4 rfl, hm.blkI 5 rfl, trivial⟩) (ov_extract rfl rfl) rfl ?_
            refine wa_all [16] (by kernel_rfl) rfl ⟨⟨_, rfl, ?_⟩, trivial⟩
            refine wl_stores (cs' := [.string k1, .string d1, .int .i64 f1, .int .i64 t1, .slice A1 n1 c1]) 1 rz95 rfl rfl rfl rfl rfl rfl rfl rfl ?_
            refine wl_nil ?_
            refine nx_wa0 (listed' := #[true, true, true, true, true, true, true, true, true, true, true, true, true, true, true, true, true, false]) rfl (fun _ hm => ⟨hm.blkI 3 rfl, hm.blkI 4 rfl, hm.blkI 5 rfl, trivial⟩) ?_
            refine wa_take 17 rfl (by kernel_rfl) (by kernel_rfl) (by kernel_rfl) (listed' := #[true, true, true, true, true, true, true, true, true, true, true, true, true, true, true, true, true, true]) rfl (fun _ _ _ h => h) (fun _ hm => ⟨hm.blkI 3 rfl, hm.blkI 4 rfl, hm.blkI 5 rfl, trivial⟩) (ov_assign rfl) rfl ?_
            refine wa_done (by kernel_rfl) ?_
            exact nx_meet (k1, d1, f1, t1, A1, n1, c1, l1, hireE ⟨key, s37, fr, fr + v3, [startLeg s39 ⟨ra, rs, rm, rf⟩]⟩, g36) hb1 ⟨rfl, rfl, rfl, rfl, rfl, rfl, rfl, trivial⟩ (fun _ hm => hm.pick [3, 4, 5, 1] [] [0] rfl rfl)
          · refine wl_buildSlice (e := 9) (cs := [.string ⟨#[118, 49]⟩, .string ⟨#[118, 49]⟩, .string ⟨#[118, 50]⟩, .string ⟨#[118, 51]⟩]) rfl (by kernel_rfl) rfl fun g41 => ?_
            refine wl_nil ?_
            refine nx_wa0 (listed' := #[true, true, true, false, true, true, true, false, true, true, false, false, false, false, false, true, false, false]) rfl (fun _ hm => ⟨hm.blkI 3 rfl, hm.blkI 4 rfl, hm.blkI 5 rfl, trivial⟩) ?_
            refine wa_all [3] (by kernel_rfl) rfl ⟨⟨_, rfl, ?_⟩, trivial⟩
            refine wl_got (γ := ByteArray) (val := fun v => .string v) (φ := fun v => v ∈ ([⟨#[97, 110, 110]⟩, ⟨#[97, 110, 110]⟩, ⟨#[98, 111, 98]⟩, ⟨#[99, 105, 100]⟩] : List ByteArray)) rfl cb66 rfl rfl rfl rfl (fun wx hm => (some_any [⟨#[97, 110, 110]⟩, ⟨#[97, 110, 110]⟩, ⟨#[98, 111, 98]⟩, ⟨#[99, 105, 100]⟩] _ _ _ wx B sb _ hm.k (by omega) (by simp) (by simp) (hm.blkI 2 rfl) (hm.neRow 2 rfl rfl))) fun s42 hs42 => ?_
            have zs42 : s42.size ≤ 100 := mem_sz hs42 (by decide)
            refine wl_nil ?_
            refine nx_wa0 (listed' := #[true, true, true, true, true, true, true, false, true, true, false, false, false, false, false, true, false, false]) rfl (fun _ hm => ⟨hm.blkI 3 rfl, hm.blkI 4 rfl, hm.blkI 5 rfl, trivial⟩) ?_
            refine wa_all [7] (by kernel_rfl) rfl ⟨⟨_, rfl, ?_⟩, trivial⟩
            refine wl_got (γ := ByteArray) (val := fun v => .string v) (φ := fun v => v ∈ ([⟨#[118, 49]⟩, ⟨#[118, 49]⟩, ⟨#[118, 50]⟩, ⟨#[118, 51]⟩] : List ByteArray)) rfl cb66 rfl rfl rfl rfl (fun wx hm => (some_any [⟨#[118, 49]⟩, ⟨#[118, 49]⟩, ⟨#[118, 50]⟩, ⟨#[118, 51]⟩] _ _ _ wx B sb _ hm.k (by omega) (by simp) (by simp) (hm.blkI 0 rfl) (hm.neRow 0 rfl rfl))) fun s43 hs43 => ?_
            have zs43 : s43.size ≤ 100 := mem_sz hs43 (by decide)
            refine wl_nil ?_
            refine nx_wa0 (listed' := #[true, true, true, true, true, true, true, true, true, true, false, false, false, false, false, true, false, false]) rfl (fun _ hm => ⟨hm.blkI 3 rfl, hm.blkI 4 rfl, hm.blkI 5 rfl, trivial⟩) ?_
            refine wa_all [10] (by kernel_rfl) rfl ⟨⟨_, rfl, ?_⟩, trivial⟩
            refine wl_calls (γ := Int × ByteArray × Int × Int) (val := (fun (g : Int × ByteArray × Int × Int) => .agg #[.int .i64 g.1, .string g.2.1, .int .i64 g.2.2.1, .int .i64 g.2.2.2])) (φ := (fun (g : Int × ByteArray × Int × Int) => RdOk ⟨g.1, g.2.1, g.2.2.1, g.2.2.2⟩)) (Y := (fun (g : Int × ByteArray × Int × Int) => fun _ => True)) (m' := m + 200 * i + 1 + 1 + 1 + 10) rfl cb164 rfl rfl rfl rfl (fun wx hm => (greading_any fr wx B sb _ hm.k (by omega) (by omega) (by omega)).mono fun _ _ ⟨r, hok, he, hS, hg⟩ => ⟨(r.at_, r.st, r.meter, r.fuel), he, hok, hS, hg, trivial⟩) (fun _ => Lasts2.true_) ?_
            rintro ⟨ra, rs, rm, rf⟩ hr_ra
            dsimp only at hr_ra ⊢
            have hz_rs : rs.size ≤ 1000000 := hr_ra
            refine wl_nil ?_
            refine nx_wa0 (listed' := #[true, true, true, true, true, true, true, true, true, true, true, false, false, false, false, true, false, false]) rfl (fun _ hm => ⟨hm.blkI 3 rfl, hm.blkI 4 rfl, hm.blkI 5 rfl, trivial⟩) ?_
            refine wa_all [11] (by kernel_rfl) rfl ⟨⟨_, rfl, ?_⟩, trivial⟩
            refine wl_callx (γ := ByteArray × ByteArray × Int × Int × Option Addr × Nat × Nat × List Lg) (val := (fun (g : ByteArray × ByteArray × Int × Int × Option Addr × Nat × Nat × List Lg) => .tuple #[.agg #[.string g.1, .string g.2.1, .int .i64 g.2.2.1, .int .i64 g.2.2.2.1, .slice g.2.2.2.2.1 g.2.2.2.2.2.1 g.2.2.2.2.2.2.1], .int .i64 (hireE ⟨key, s42, fr, fr + v3, [startLeg s43 ⟨ra, rs, rm, rf⟩]⟩)])) (φ := (fun (g : ByteArray × ByteArray × Int × Int × Option Addr × Nat × Nat × List Lg) => HrOk g.1 g.2.1 g.2.2.2.2.2.2.2 ∧ g.2.2.2.2.2.1 ≤ 1 ∧ (hireE ⟨key, s42, fr, fr + v3, [startLeg s43 ⟨ra, rs, rm, rf⟩]⟩ = 0 → g.2.2.2.2.2.1 = 1))) (Y := (fun (g : ByteArray × ByteArray × Int × Int × Option Addr × Nat × Nat × List Lg) => fun wy => SlT lgEnc 9 100 wy g.2.2.2.2.1 g.2.2.2.2.2.1 g.2.2.2.2.2.2.2)) rfl cb163 rfl rfl (fun wx hm => (startOf_lit key s42 fr (fr + v3) s43 ra rm rf rs wx (by omega) (by omega) (by omega) hz_rs).mono fun _ _ ⟨k, d, f, t, A, n, c, l, he, hsl, hok, hn, hn0, hg⟩ => ⟨(k, d, f, t, A, n, c, l), he, ⟨hok, hn, hn0⟩, hg, hsl⟩) (fun _ => SlT.lasts2 rfl) ?_
            rintro ⟨k1, d1, f1, t1, A1, n1, c1, l1⟩ hb1
            dsimp only at hb1 ⊢
            refine wl_nil ?_
            refine nx_wa0 (listed' := #[true, true, true, true, true, true, true, true, true, true, true, true, false, false, false, true, false, false]) rfl (fun _ hm => ⟨hm.blkI 3 rfl, hm.blkI 4 rfl, hm.blkI 5 rfl, trivial⟩) ?_
            refine wa_take 12 rfl (by kernel_rfl) (by kernel_rfl) (by kernel_rfl) (listed' := #[true, true, true, true, true, true, true, true, true, true, true, true, true, false, false, true, false, false]) rfl (fun _ _ _ h => h) (fun _ hm => ⟨hm.blkI 3 rfl, hm.blkI 4 rfl, hm.blkI 5 rfl, trivial⟩) (ov_move rfl) rfl ?_
            refine wa_take 13 rfl (by kernel_rfl) (by kernel_rfl) (by kernel_rfl) (listed' := #[true, true, true, true, true, true, true, true, true, true, true, true, true, true, false, true, false, false]) rfl (fun _ _ _ h => h) (fun _ hm => ⟨hm.blkI 3 rfl, hm.blkI 4 rfl, hm.blkI 5 rfl, trivial⟩) (ov_extract rfl rfl) rfl ?_
            refine wa_take 14 rfl (by kernel_rfl) (by kernel_rfl) (by kernel_rfl) (listed' := #[true, true, true, true, true, true, true, true, true, true, true, true, true, true, true, true, false, false]) rfl (fun _ _ _ h => h) (fun _ hm => ⟨hm.blkI 3 rfl, hm.blkI 4 rfl, hm.blkI 5 rfl, trivial⟩) (ov_extract rfl rfl) rfl ?_
            refine wa_all [16] (by kernel_rfl) rfl ⟨⟨_, rfl, ?_⟩, trivial⟩
            refine wl_stores (cs' := [.string k1, .string d1, .int .i64 f1, .int .i64 t1, .slice A1 n1 c1]) 1 rz95 rfl rfl rfl rfl rfl rfl rfl rfl ?_
            refine wl_nil ?_
            refine nx_wa0 (listed' := #[true, true, true, true, true, true, true, true, true, true, true, true, true, true, true, true, true, false]) rfl (fun _ hm => ⟨hm.blkI 3 rfl, hm.blkI 4 rfl, hm.blkI 5 rfl, trivial⟩) ?_
            refine wa_take 17 rfl (by kernel_rfl) (by kernel_rfl) (by kernel_rfl) (listed' := #[true, true, true, true, true, true, true, true, true, true, true, true, true, true, true, true, true, true]) rfl (fun _ _ _ h => h) (fun _ hm => ⟨hm.blkI 3 rfl, hm.blkI 4 rfl, hm.blkI 5 rfl, trivial⟩) (ov_assign rfl) rfl ?_
            refine wa_done (by kernel_rfl) ?_
            exact nx_meet (k1, d1, f1, t1, A1, n1, c1, l1, hireE ⟨key, s42, fr, fr + v3, [startLeg s43 ⟨ra, rs, rm, rf⟩]⟩, g36) hb1 ⟨rfl, rfl, rfl, rfl, rfl, rfl, rfl, trivial⟩ (fun _ hm => hm.pick [3, 4, 5, 1] [] [0] rfl rfl)
      · refine wl_buildSlice (e := 9) (cs := [.string ⟨#[118, 49]⟩, .string ⟨#[118, 49]⟩, .string ⟨#[118, 50]⟩, .string ⟨#[118, 51]⟩]) rfl (by kernel_rfl) rfl fun g45 => ?_
        refine wl_nil ?_
        refine nx_wa0 (listed' := #[true, true, false, false, true, true, true, false, true, true, false, false, false, false, false, false, false, false]) rfl (fun _ hm => ⟨hm.blkI 1 rfl, hm.blkI 2 rfl, hm.blkI 3 rfl, trivial⟩) ?_
        refine wa_all [2, 15] (by kernel_rfl) rfl ⟨⟨_, rfl, ?_⟩, ⟨_, rfl, ?_⟩, trivial⟩
        · refine wl_buildSlice (e := 9) (cs := [.string ⟨#[97, 110, 110]⟩, .string ⟨#[97, 110, 110]⟩, .string ⟨#[98, 111, 98]⟩, .string ⟨#[99, 105, 100]⟩]) rfl (by kernel_rfl) rfl fun g46 => ?_
          refine wl_nil ?_
          refine nx_wa0 (listed' := #[true, true, true, false, true, true, true, false, true, true, false, false, false, false, false, false, false, false]) rfl (fun _ hm => ⟨hm.blkI 2 rfl, hm.blkI 3 rfl, hm.blkI 4 rfl, trivial⟩) ?_
          refine wa_all [3, 15] (by kernel_rfl) rfl ⟨⟨_, rfl, ?_⟩, ⟨_, rfl, ?_⟩, trivial⟩
          · refine wl_got (γ := ByteArray) (val := fun v => .string v) (φ := fun v => v ∈ ([⟨#[97, 110, 110]⟩, ⟨#[97, 110, 110]⟩, ⟨#[98, 111, 98]⟩, ⟨#[99, 105, 100]⟩] : List ByteArray)) rfl cb66 rfl rfl rfl rfl (fun wx hm => (some_any [⟨#[97, 110, 110]⟩, ⟨#[97, 110, 110]⟩, ⟨#[98, 111, 98]⟩, ⟨#[99, 105, 100]⟩] _ _ _ wx B sb _ hm.k (by omega) (by simp) (by simp) (hm.blkI 0 rfl) (hm.neRow 0 rfl rfl))) fun s47 hs47 => ?_
            have zs47 : s47.size ≤ 100 := mem_sz hs47 (by decide)
            refine wl_nil ?_
            refine nx_wa0 (listed' := #[true, true, true, true, true, true, true, false, true, true, false, false, false, false, false, false, false, false]) rfl (fun _ hm => ⟨hm.blkI 2 rfl, hm.blkI 3 rfl, hm.blkI 4 rfl, trivial⟩) ?_
            refine wa_all [7, 15] (by kernel_rfl) rfl ⟨⟨_, rfl, ?_⟩, ⟨_, rfl, ?_⟩, trivial⟩
            · refine wl_got (γ := ByteArray) (val := fun v => .string v) (φ := fun v => v ∈ ([⟨#[118, 49]⟩, ⟨#[118, 49]⟩, ⟨#[118, 50]⟩, ⟨#[118, 51]⟩] : List ByteArray)) rfl cb66 rfl rfl rfl rfl (fun wx hm => (some_any [⟨#[118, 49]⟩, ⟨#[118, 49]⟩, ⟨#[118, 50]⟩, ⟨#[118, 51]⟩] _ _ _ wx B sb _ hm.k (by omega) (by simp) (by simp) (hm.blkI 1 rfl) (hm.neRow 1 rfl rfl))) fun s48 hs48 => ?_
              have zs48 : s48.size ≤ 100 := mem_sz hs48 (by decide)
              refine wl_nil ?_
              refine nx_wa0 (listed' := #[true, true, true, true, true, true, true, true, true, true, false, false, false, false, false, false, false, false]) rfl (fun _ hm => ⟨hm.blkI 2 rfl, hm.blkI 3 rfl, hm.blkI 4 rfl, trivial⟩) ?_
              refine wa_all [10, 15] (by kernel_rfl) rfl ⟨⟨_, rfl, ?_⟩, ⟨_, rfl, ?_⟩, trivial⟩
              · refine wl_calls (γ := Int × ByteArray × Int × Int) (val := (fun (g : Int × ByteArray × Int × Int) => .agg #[.int .i64 g.1, .string g.2.1, .int .i64 g.2.2.1, .int .i64 g.2.2.2])) (φ := (fun (g : Int × ByteArray × Int × Int) => RdOk ⟨g.1, g.2.1, g.2.2.1, g.2.2.2⟩)) (Y := (fun (g : Int × ByteArray × Int × Int) => fun _ => True)) (m' := m + 200 * i + 1 + 1 + 1 + 10) rfl cb164 rfl rfl rfl rfl (fun wx hm => (greading_any fr wx B sb _ hm.k (by omega) (by omega) (by omega)).mono fun _ _ ⟨r, hok, he, hS, hg⟩ => ⟨(r.at_, r.st, r.meter, r.fuel), he, hok, hS, hg, trivial⟩) (fun _ => Lasts2.true_) ?_
                rintro ⟨ra, rs, rm, rf⟩ hr_ra
                dsimp only at hr_ra ⊢
                have hz_rs : rs.size ≤ 1000000 := hr_ra
                refine wl_nil ?_
                refine nx_wa0 (listed' := #[true, true, true, true, true, true, true, true, true, true, true, false, false, false, false, false, false, false]) rfl (fun _ hm => ⟨hm.blkI 2 rfl, hm.blkI 3 rfl, hm.blkI 4 rfl, trivial⟩) ?_
                refine wa_all [11, 15] (by kernel_rfl) rfl ⟨⟨_, rfl, ?_⟩, ⟨_, rfl, ?_⟩, trivial⟩
                · refine wl_callx (γ := ByteArray × ByteArray × Int × Int × Option Addr × Nat × Nat × List Lg) (val := (fun (g : ByteArray × ByteArray × Int × Int × Option Addr × Nat × Nat × List Lg) => .tuple #[.agg #[.string g.1, .string g.2.1, .int .i64 g.2.2.1, .int .i64 g.2.2.2.1, .slice g.2.2.2.2.1 g.2.2.2.2.2.1 g.2.2.2.2.2.2.1], .int .i64 (hireE ⟨key, s47, fr, fr + v3, [startLeg s48 ⟨ra, rs, rm, rf⟩]⟩)])) (φ := (fun (g : ByteArray × ByteArray × Int × Int × Option Addr × Nat × Nat × List Lg) => HrOk g.1 g.2.1 g.2.2.2.2.2.2.2 ∧ g.2.2.2.2.2.1 ≤ 1 ∧ (hireE ⟨key, s47, fr, fr + v3, [startLeg s48 ⟨ra, rs, rm, rf⟩]⟩ = 0 → g.2.2.2.2.2.1 = 1))) (Y := (fun (g : ByteArray × ByteArray × Int × Int × Option Addr × Nat × Nat × List Lg) => fun wy => SlT lgEnc 9 100 wy g.2.2.2.2.1 g.2.2.2.2.2.1 g.2.2.2.2.2.2.2)) rfl cb163 rfl rfl (fun wx hm => (startOf_lit key s47 fr (fr + v3) s48 ra rm rf rs wx (by omega) (by omega) (by omega) hz_rs).mono fun _ _ ⟨k, d, f, t, A, n, c, l, he, hsl, hok, hn, hn0, hg⟩ => ⟨(k, d, f, t, A, n, c, l), he, ⟨hok, hn, hn0⟩, hg, hsl⟩) (fun _ => SlT.lasts2 rfl) ?_
                  rintro ⟨k1, d1, f1, t1, A1, n1, c1, l1⟩ hb1
                  dsimp only at hb1 ⊢
                  refine wl_nil ?_
                  refine nx_wa0 (listed' := #[true, true, true, true, true, true, true, true, true, true, true, true, false, false, false, false, false, false]) rfl (fun _ hm => ⟨hm.blkI 2 rfl, hm.blkI 3 rfl, hm.blkI 4 rfl, trivial⟩) ?_
                  refine wa_take 12 rfl (by kernel_rfl) (by kernel_rfl) (by kernel_rfl) (listed' := #[true, true, true, true, true, true, true, true, true, true, true, true, true, false, false, false, false, false]) rfl (fun _ _ _ h => h) (fun _ hm => ⟨hm.blkI 2 rfl, hm.blkI 3 rfl, hm.blkI 4 rfl, trivial⟩) (ov_move rfl) rfl ?_
                  refine wa_take 13 rfl (by kernel_rfl) (by kernel_rfl) (by kernel_rfl) (listed' := #[true, true, true, true, true, true, true, true, true, true, true, true, true, true, false, false, false, false]) rfl (fun _ _ _ h => h) (fun _ hm => ⟨hm.blkI 2 rfl, hm.blkI 3 rfl, hm.blkI 4 rfl, trivial⟩) (ov_extract rfl rfl) rfl ?_
                  refine wa_take 14 rfl (by kernel_rfl) (by kernel_rfl) (by kernel_rfl) (listed' := #[true, true, true, true, true, true, true, true, true, true, true, true, true, true, true, false, false, false]) rfl (fun _ _ _ h => h) (fun _ hm => ⟨hm.blkI 2 rfl, hm.blkI 3 rfl, hm.blkI 4 rfl, trivial⟩) (ov_extract rfl rfl) rfl ?_
                  refine wa_all [15] (by kernel_rfl) rfl ⟨⟨_, rfl, ?_⟩, trivial⟩
                  refine wl_alloc zc95 rfl fun g50 => ?_
                  refine wl_nil ?_
                  refine nx_wa0 (listed' := #[true, true, true, true, true, true, true, true, true, true, true, true, true, true, true, true, false, false]) rfl (fun _ hm => ⟨hm.blkI 3 rfl, hm.blkI 4 rfl, hm.blkI 5 rfl, trivial⟩) ?_
                  refine wa_all [16] (by kernel_rfl) rfl ⟨⟨_, rfl, ?_⟩, trivial⟩
                  refine wl_stores (cs' := [.string k1, .string d1, .int .i64 f1, .int .i64 t1, .slice A1 n1 c1]) 0 rz95 rfl rfl rfl rfl rfl rfl rfl rfl ?_
                  refine wl_nil ?_
                  refine nx_wa0 (listed' := #[true, true, true, true, true, true, true, true, true, true, true, true, true, true, true, true, true, false]) rfl (fun _ hm => ⟨hm.blkI 3 rfl, hm.blkI 4 rfl, hm.blkI 5 rfl, trivial⟩) ?_
                  refine wa_take 17 rfl (by kernel_rfl) (by kernel_rfl) (by kernel_rfl) (listed' := #[true, true, true, true, true, true, true, true, true, true, true, true, true, true, true, true, true, true]) rfl (fun _ _ _ h => h) (fun _ hm => ⟨hm.blkI 3 rfl, hm.blkI 4 rfl, hm.blkI 5 rfl, trivial⟩) (ov_assign rfl) rfl ?_
                  refine wa_done (by kernel_rfl) ?_
                  exact nx_meet (k1, d1, f1, t1, A1, n1, c1, l1, hireE ⟨key, s47, fr, fr + v3, [startLeg s48 ⟨ra, rs, rm, rf⟩]⟩, g50) hb1 ⟨rfl, rfl, rfl, rfl, rfl, rfl, rfl, trivial⟩ (fun _ hm => hm.pick [3, 4, 5, 0] [] [0] rfl rfl)
                · refine wl_alloc zc95 rfl fun g51 => ?_
                  refine wl_nil ?_
                  refine nx_wa0 (listed' := #[true, true, true, true, true, true, true, true, true, true, true, false, false, false, false, true, false, false]) rfl (fun _ hm => ⟨hm.blkI 3 rfl, hm.blkI 4 rfl, hm.blkI 5 rfl, trivial⟩) ?_
                  refine wa_all [11] (by kernel_rfl) rfl ⟨⟨_, rfl, ?_⟩, trivial⟩
                  refine wl_callx (γ := ByteArray × ByteArray × Int × Int × Option Addr × Nat × Nat × List Lg) (val := (fun (g : ByteArray × ByteArray × Int × Int × Option Addr × Nat × Nat × List Lg) => .tuple #[.agg #[.string g.1, .string g.2.1, .int .i64 g.2.2.1, .int .i64 g.2.2.2.1, .slice g.2.2.2.2.1 g.2.2.2.2.2.1 g.2.2.2.2.2.2.1], .int .i64 (hireE ⟨key, s47, fr, fr + v3, [startLeg s48 ⟨ra, rs, rm, rf⟩]⟩)])) (φ := (fun (g : ByteArray × ByteArray × Int × Int × Option Addr × Nat × Nat × List Lg) => HrOk g.1 g.2.1 g.2.2.2.2.2.2.2 ∧ g.2.2.2.2.2.1 ≤ 1 ∧ (hireE ⟨key, s47, fr, fr + v3, [startLeg s48 ⟨ra, rs, rm, rf⟩]⟩ = 0 → g.2.2.2.2.2.1 = 1))) (Y := (fun (g : ByteArray × ByteArray × Int × Int × Option Addr × Nat × Nat × List Lg) => fun wy => SlT lgEnc 9 100 wy g.2.2.2.2.1 g.2.2.2.2.2.1 g.2.2.2.2.2.2.2)) rfl cb163 rfl rfl (fun wx hm => (startOf_lit key s47 fr (fr + v3) s48 ra rm rf rs wx (by omega) (by omega) (by omega) hz_rs).mono fun _ _ ⟨k, d, f, t, A, n, c, l, he, hsl, hok, hn, hn0, hg⟩ => ⟨(k, d, f, t, A, n, c, l), he, ⟨hok, hn, hn0⟩, hg, hsl⟩) (fun _ => SlT.lasts2 rfl) ?_
                  rintro ⟨k1, d1, f1, t1, A1, n1, c1, l1⟩ hb1
                  dsimp only at hb1 ⊢
                  refine wl_nil ?_
                  refine nx_wa0 (listed' := #[true, true, true, true, true, true, true, true, true, true, true, true, false, false, false, true, false, false]) rfl (fun _ hm => ⟨hm.blkI 3 rfl, hm.blkI 4 rfl, hm.blkI 5 rfl, trivial⟩) ?_
                  refine wa_take 12 rfl (by kernel_rfl) (by kernel_rfl) (by kernel_rfl) (listed' := #[true, true, true, true, true, true, true, true, true, true, true, true, true, false, false, true, false, false]) rfl (fun _ _ _ h => h) (fun _ hm => ⟨hm.blkI 3 rfl, hm.blkI 4 rfl, hm.blkI 5 rfl, trivial⟩) (ov_move rfl) rfl ?_
                  refine wa_take 13 rfl (by kernel_rfl) (by kernel_rfl) (by kernel_rfl) (listed' := #[true, true, true, true, true, true, true, true, true, true, true, true, true, true, false, true, false, false]) rfl (fun _ _ _ h => h) (fun _ hm => ⟨hm.blkI 3 rfl, hm.blkI 4 rfl, hm.blkI 5 rfl, trivial⟩) (ov_extract rfl rfl) rfl ?_
                  refine wa_take 14 rfl (by kernel_rfl) (by kernel_rfl) (by kernel_rfl) (listed' := #[true, true, true, true, true, true, true, true, true, true, true, true, true, true, true, true, false, false]) rfl (fun _ _ _ h => h) (fun _ hm => ⟨hm.blkI 3 rfl, hm.blkI 4 rfl, hm.blkI 5 rfl, trivial⟩) (ov_extract rfl rfl) rfl ?_
                  refine wa_all [16] (by kernel_rfl) rfl ⟨⟨_, rfl, ?_⟩, trivial⟩
                  refine wl_stores (cs' := [.string k1, .string d1, .int .i64 f1, .int .i64 t1, .slice A1 n1 c1]) 0 rz95 rfl rfl rfl rfl rfl rfl rfl rfl ?_
                  refine wl_nil ?_
                  refine nx_wa0 (listed' := #[true, true, true, true, true, true, true, true, true, true, true, true, true, true, true, true, true, false]) rfl (fun _ hm => ⟨hm.blkI 3 rfl, hm.blkI 4 rfl, hm.blkI 5 rfl, trivial⟩) ?_
                  refine wa_take 17 rfl (by kernel_rfl) (by kernel_rfl) (by kernel_rfl) (listed' := #[true, true, true, true, true, true, true, true, true, true, true, true, true, true, true, true, true, true]) rfl (fun _ _ _ h => h) (fun _ hm => ⟨hm.blkI 3 rfl, hm.blkI 4 rfl, hm.blkI 5 rfl, trivial⟩) (ov_assign rfl) rfl ?_
                  refine wa_done (by kernel_rfl) ?_
                  exact nx_meet (k1, d1, f1, t1, A1, n1, c1, l1, hireE ⟨key, s47, fr, fr + v3, [startLeg s48 ⟨ra, rs, rm, rf⟩]⟩, g51) hb1 ⟨rfl, rfl, rfl, rfl, rfl, rfl, rfl, trivial⟩ (fun _ hm => hm.pick [3, 4, 5, 0] [] [0] rfl rfl)
              · refine wl_alloc zc95 rfl fun g52 => ?_
                refine wl_nil ?_
                refine nx_wa0 (listed' := #[true, true, true, true, true, true, true, true, true, true, false, false, false, false, false, true, false, false]) rfl (fun _ hm => ⟨hm.blkI 3 rfl, hm.blkI 4 rfl, hm.blkI 5 rfl, trivial⟩) ?_
                refine wa_all [10] (by kernel_rfl) rfl ⟨⟨_, rfl, ?_⟩, trivial⟩
                refine wl_calls (γ := Int × ByteArray × Int × Int) (val := (fun (g : Int × ByteArray × Int × Int) => .agg #[.int .i64 g.1, .string g.2.1, .int .i64 g.2.2.1, .int .i64 g.2.2.2])) (φ := (fun (g : Int × ByteArray × Int × Int) => RdOk ⟨g.1, g.2.1, g.2.2.1, g.2.2.2⟩)) (Y := (fun (g : Int × ByteArray × Int × Int) => fun _ => True)) (m' := m + 200 * i + 1 + 1 + 1 + 10) rfl cb164 rfl rfl rfl rfl (fun wx hm => (greading_any fr wx B sb _ hm.k (by omega) (by omega) (by omega)).mono fun _ _ ⟨r, hok, he, hS, hg⟩ => ⟨(r.at_, r.st, r.meter, r.fuel), he, hok, hS, hg, trivial⟩) (fun _ => Lasts2.true_) ?_
                rintro ⟨ra, rs, rm, rf⟩ hr_ra
                dsimp only at hr_ra ⊢
                have hz_rs : rs.size ≤ 1000000 := hr_ra
                refine wl_nil ?_
                refine nx_wa0 (listed' := #[true, true, true, true, true, true, true, true, true, true, true, false, false, false, false, true, false, false]) rfl (fun _ hm => ⟨hm.blkI 3 rfl, hm.blkI 4 rfl, hm.blkI 5 rfl, trivial⟩) ?_
                refine wa_all [11] (by kernel_rfl) rfl ⟨⟨_, rfl, ?_⟩, trivial⟩
                refine wl_callx (γ := ByteArray × ByteArray × Int × Int × Option Addr × Nat × Nat × List Lg) (val := (fun (g : ByteArray × ByteArray × Int × Int × Option Addr × Nat × Nat × List Lg) => .tuple #[.agg #[.string g.1, .string g.2.1, .int .i64 g.2.2.1, .int .i64 g.2.2.2.1, .slice g.2.2.2.2.1 g.2.2.2.2.2.1 g.2.2.2.2.2.2.1], .int .i64 (hireE ⟨key, s47, fr, fr + v3, [startLeg s48 ⟨ra, rs, rm, rf⟩]⟩)])) (φ := (fun (g : ByteArray × ByteArray × Int × Int × Option Addr × Nat × Nat × List Lg) => HrOk g.1 g.2.1 g.2.2.2.2.2.2.2 ∧ g.2.2.2.2.2.1 ≤ 1 ∧ (hireE ⟨key, s47, fr, fr + v3, [startLeg s48 ⟨ra, rs, rm, rf⟩]⟩ = 0 → g.2.2.2.2.2.1 = 1))) (Y := (fun (g : ByteArray × ByteArray × Int × Int × Option Addr × Nat × Nat × List Lg) => fun wy => SlT lgEnc 9 100 wy g.2.2.2.2.1 g.2.2.2.2.2.1 g.2.2.2.2.2.2.2)) rfl cb163 rfl rfl (fun wx hm => (startOf_lit key s47 fr (fr + v3) s48 ra rm rf rs wx (by omega) (by omega) (by omega) hz_rs).mono fun _ _ ⟨k, d, f, t, A, n, c, l, he, hsl, hok, hn, hn0, hg⟩ => ⟨(k, d, f, t, A, n, c, l), he, ⟨hok, hn, hn0⟩, hg, hsl⟩) (fun _ => SlT.lasts2 rfl) ?_
                rintro ⟨k1, d1, f1, t1, A1, n1, c1, l1⟩ hb1
                dsimp only at hb1 ⊢
                refine wl_nil ?_
                refine nx_wa0 (listed' := #[true, true, true, true, true, true, true, true, true, true, true, true, false, false, false, true, false, false]) rfl (fun _ hm => ⟨hm.blkI 3 rfl, hm.blkI 4 rfl, hm.blkI 5 rfl, trivial⟩) ?_
                refine wa_take 12 rfl (by kernel_rfl) (by kernel_rfl) (by kernel_rfl) (listed' := #[true, true, true, true, true, true, true, true, true, true, true, true, true, false, false, true, false, false]) rfl (fun _ _ _ h => h) (fun _ hm => ⟨hm.blkI 3 rfl, hm.blkI 4 rfl, hm.blkI 5 rfl, trivial⟩) (ov_move rfl) rfl ?_
                refine wa_take 13 rfl (by kernel_rfl) (by kernel_rfl) (by kernel_rfl) (listed' := #[true, true, true, true, true, true, true, true, true, true, true, true, true, true, false, true, false, false]) rfl (fun _ _ _ h => h) (fun _ hm => ⟨hm.blkI 3 rfl, hm.blkI 4 rfl, hm.blkI 5 rfl, trivial⟩) (ov_extract rfl rfl) rfl ?_
                refine wa_take 14 rfl (by kernel_rfl) (by kernel_rfl) (by kernel_rfl) (listed' := #[true, true, true, true, true, true, true, true, true, true, true, true, true, true, true, true, false, false]) rfl (fun _ _ _ h => h) (fun _ hm => ⟨hm.blkI 3 rfl, hm.blkI 4 rfl, hm.blkI 5 rfl, trivial⟩) (ov_extract rfl rfl) rfl ?_
                refine wa_all [16] (by kernel_rfl) rfl ⟨⟨_, rfl, ?_⟩, trivial⟩
                refine wl_stores (cs' := [.string k1, .string d1, .int .i64 f1, .int .i64 t1, .slice A1 n1 c1]) 0 rz95 rfl rfl rfl rfl rfl rfl rfl rfl ?_
                refine wl_nil ?_
                refine nx_wa0 (listed' := #[true, true, true, true, true, true, true, true, true, true, true, true, true, true, true, true, true, false]) rfl (fun _ hm => ⟨hm.blkI 3 rfl, hm.blkI 4 rfl, hm.blkI 5 rfl, trivial⟩) ?_
                refine wa_take 17 rfl (by kernel_rfl) (by kernel_rfl) (by kernel_rfl) (listed' := #[true, true, true, true, true, true, true, true, true, true, true, true, true, true, true, true, true, true]) rfl (fun _ _ _ h => h) (fun _ hm => ⟨hm.blkI 3 rfl, hm.blkI 4 rfl, hm.blkI 5 rfl, trivial⟩) (ov_assign rfl) rfl ?_
                refine wa_done (by kernel_rfl) ?_
                exact nx_meet (k1, d1, f1, t1, A1, n1, c1, l1, hireE ⟨key, s47, fr, fr + v3, [startLeg s48 ⟨ra, rs, rm, rf⟩]⟩, g52) hb1 ⟨rfl, rfl, rfl, rfl, rfl, rfl, rfl, trivial⟩ (fun _ hm => hm.pick [3, 4, 5, 0] [] [0] rfl rfl)
            · refine wl_alloc zc95 rfl fun g54 => ?_
              refine wl_nil ?_
              refine nx_wa0 (listed' := #[true, true, true, true, true, true, true, false, true, true, false, false, false, false, false, true, false, false]) rfl (fun _ hm => ⟨hm.blkI 3 rfl, hm.blkI 4 rfl, hm.blkI 5 rfl, trivial⟩) ?_
              refine wa_all [7] (by kernel_rfl) rfl ⟨⟨_, rfl, ?_⟩, trivial⟩
              refine wl_got (γ := ByteArray) (val := fun v => .string v) (φ := fun v => v ∈ ([⟨#[118, 49]⟩, ⟨#[118, 49]⟩, ⟨#[118, 50]⟩, ⟨#[118, 51]⟩] : List ByteArray)) rfl cb66 rfl rfl rfl rfl (fun wx hm => (some_any [⟨#[118, 49]⟩, ⟨#[118, 49]⟩, ⟨#[118, 50]⟩, ⟨#[118, 51]⟩] _ _ _ wx B sb _ hm.k (by omega) (by simp) (by simp) (hm.blkI 2 rfl) (hm.neRow 2 rfl rfl))) fun s55 hs55 => ?_
              have zs55 : s55.size ≤ 100 := mem_sz hs55 (by decide)
              refine wl_nil ?_
              refine nx_wa0 (listed' := #[true, true, true, true, true, true, true, true, true, true, false, false, false, false, false, true, false, false]) rfl (fun _ hm => ⟨hm.blkI 3 rfl, hm.blkI 4 rfl, hm.blkI 5 rfl, trivial⟩) ?_
              refine wa_all [10] (by kernel_rfl) rfl ⟨⟨_, rfl, ?_⟩, trivial⟩
              refine wl_calls (γ := Int × ByteArray × Int × Int) (val := (fun (g : Int × ByteArray × Int × Int) => .agg #[.int .i64 g.1, .string g.2.1, .int .i64 g.2.2.1, .int .i64 g.2.2.2])) (φ := (fun (g : Int × ByteArray × Int × Int) => RdOk ⟨g.1, g.2.1, g.2.2.1, g.2.2.2⟩)) (Y := (fun (g : Int × ByteArray × Int × Int) => fun _ => True)) (m' := m + 200 * i + 1 + 1 + 1 + 10) rfl cb164 rfl rfl rfl rfl (fun wx hm => (greading_any fr wx B sb _ hm.k (by omega) (by omega) (by omega)).mono fun _ _ ⟨r, hok, he, hS, hg⟩ => ⟨(r.at_, r.st, r.meter, r.fuel), he, hok, hS, hg, trivial⟩) (fun _ => Lasts2.true_) ?_
              rintro ⟨ra, rs, rm, rf⟩ hr_ra
              dsimp only at hr_ra ⊢
              have hz_rs : rs.size ≤ 1000000 := hr_ra
              refine wl_nil ?_
              refine nx_wa0 (listed' := #[true, true, true, true, true, true, true, true, true, true, true, false, false, false, false, true, false, false]) rfl (fun _ hm => ⟨hm.blkI 3 rfl, hm.blkI 4 rfl, hm.blkI 5 rfl, trivial⟩) ?_
              refine wa_all [11] (by kernel_rfl) rfl ⟨⟨_, rfl, ?_⟩, trivial⟩
              refine wl_callx (γ := ByteArray × ByteArray × Int × Int × Option Addr × Nat × Nat × List Lg) (val := (fun (g : ByteArray × ByteArray × Int × Int × Option Addr × Nat × Nat × List Lg) => .tuple #[.agg #[.string g.1, .string g.2.1, .int .i64 g.2.2.1, .int .i64 g.2.2.2.1, .slice g.2.2.2.2.1 g.2.2.2.2.2.1 g.2.2.2.2.2.2.1], .int .i64 (hireE ⟨key, s47, fr, fr + v3, [startLeg s55 ⟨ra, rs, rm, rf⟩]⟩)])) (φ := (fun (g : ByteArray × ByteArray × Int × Int × Option Addr × Nat × Nat × List Lg) => HrOk g.1 g.2.1 g.2.2.2.2.2.2.2 ∧ g.2.2.2.2.2.1 ≤ 1 ∧ (hireE ⟨key, s47, fr, fr + v3, [startLeg s55 ⟨ra, rs, rm, rf⟩]⟩ = 0 → g.2.2.2.2.2.1 = 1))) (Y := (fun (g : ByteArray × ByteArray × Int × Int × Option Addr × Nat × Nat × List Lg) => fun wy => SlT lgEnc 9 100 wy g.2.2.2.2.1 g.2.2.2.2.2.1 g.2.2.2.2.2.2.2)) rfl cb163 rfl rfl (fun wx hm => (startOf_lit key s47 fr (fr + v3) s55 ra rm rf rs wx (by omega) (by omega) (by omega) hz_rs).mono fun _ _ ⟨k, d, f, t, A, n, c, l, he, hsl, hok, hn, hn0, hg⟩ => ⟨(k, d, f, t, A, n, c, l), he, ⟨hok, hn, hn0⟩, hg, hsl⟩) (fun _ => SlT.lasts2 rfl) ?_
              rintro ⟨k1, d1, f1, t1, A1, n1, c1, l1⟩ hb1
              dsimp only at hb1 ⊢
              refine wl_nil ?_
              refine nx_wa0 (listed' := #[true, true, true, true, true, true, true, true, true, true, true, true, false, false, false, true, false, false]) rfl (fun _ hm => ⟨hm.blkI 3 rfl, hm.blkI 4 rfl, hm.blkI 5 rfl, trivial⟩) ?_
              refine wa_take 12 rfl (by kernel_rfl) (by kernel_rfl) (by kernel_rfl) (listed' := #[true, true, true, true, true, true, true, true, true, true, true, true, true, false, false, true, false, false]) rfl (fun _ _ _ h => h) (fun _ hm => ⟨hm.blkI 3 rfl, hm.blkI 4 rfl, hm.blkI 5 rfl, trivial⟩) (ov_move rfl) rfl ?_
              refine wa_take 13 rfl (by kernel_rfl) (by kernel_rfl) (by kernel_rfl) (listed' := #[true, true, true, true, true, true, true, true, true, true, true, true, true, true, false, true, false, false]) rfl (fun _ _ _ h => h) (fun _ hm => ⟨hm.blkI 3 rfl, hm.blkI 4 rfl, hm.blkI 5 rfl, trivial⟩) (ov_extract rfl rfl) rfl ?_
              refine wa_take 14 rfl (by kernel_rfl) (by kernel_rfl) (by kernel_rfl) (listed' := #[true, true, true, true, true, true, true, true, true, true, true, true, true, true, true, true, false, false]) rfl (fun _ _ _ h => h) (fun _ hm => ⟨hm.blkI 3 rfl, hm.blkI 4 rfl, hm.blkI 5 rfl, trivial⟩) (ov_extract rfl rfl) rfl ?_
              refine wa_all [16] (by kernel_rfl) rfl ⟨⟨_, rfl, ?_⟩, trivial⟩
              refine wl_stores (cs' := [.string k1, .string d1, .int .i64 f1, .int .i64 t1, .slice A1 n1 c1]) 0 rz95 rfl rfl rfl rfl rfl rfl rfl rfl ?_
              refine wl_nil ?_
              refine nx_wa0 (listed' := #[true, true, true, true, true, true, true, true, true, true, true, true, true, true, true, true, true, false]) rfl (fun _ hm => ⟨hm.blkI 3 rfl, hm.blkI 4 rfl, hm.blkI 5 rfl, trivial⟩) ?_
              refine wa_take 17 rfl (by kernel_rfl) (by kernel_rfl) (by kernel_rfl) (listed' := #[true, true, true, true, true, true, true, true, true, true, true, true, true, true, true, true, true, true]) rfl (fun _ _ _ h => h) (fun _ hm => ⟨hm.blkI 3 rfl, hm.blkI 4 rfl, hm.blkI 5 rfl, trivial⟩) (ov_assign rfl) rfl ?_
              refine wa_done (by kernel_rfl) ?_
              exact nx_meet (k1, d1, f1, t1, A1, n1, c1, l1, hireE ⟨key, s47, fr, fr + v3, [startLeg s55 ⟨ra, rs, rm, rf⟩]⟩, g54) hb1 ⟨rfl, rfl, rfl, rfl, rfl, rfl, rfl, trivial⟩ (fun _ hm => hm.pick [3, 4, 5, 0] [] [0] rfl rfl)
          · refine wl_alloc zc95 rfl fun g57 => ?_
            refine wl_nil ?_
            refine nx_wa0 (listed' := #[true, true, true, false, true, true, true, false, true, true, false, false, false, false, false, true, false, false]) rfl (fun _ hm => ⟨hm.blkI 3 rfl, hm.blkI 4 rfl, hm.blkI 5 rfl, trivial⟩) ?_
            refine wa_all [3] (by kernel_rfl) rfl ⟨⟨_, rfl, ?_⟩, trivial⟩
            refine wl_got (γ := ByteArray) (val := fun v => .string v) (φ := fun v => v ∈ ([⟨#[97, 110, 110]⟩, ⟨#[97, 110, 110]⟩, ⟨#[98, 111, 98]⟩, ⟨#[99, 105, 100]⟩] : List ByteArray)) rfl cb66 rfl rfl rfl rfl (fun wx hm => (some_any [⟨#[97, 110, 110]⟩, ⟨#[97, 110, 110]⟩, ⟨#[98, 111, 98]⟩, ⟨#[99, 105, 100]⟩] _ _ _ wx B sb _ hm.k (by omega) (by simp) (by simp) (hm.blkI 1 rfl) (hm.neRow 1 rfl rfl))) fun s58 hs58 => ?_
            have zs58 : s58.size ≤ 100 := mem_sz hs58 (by decide)
            refine wl_nil ?_
            refine nx_wa0 (listed' := #[true, true, true, true, true, true, true, false, true, true, false, false, false, false, false, true, false, false]) rfl (fun _ hm => ⟨hm.blkI 3 rfl, hm.blkI 4 rfl, hm.blkI 5 rfl, trivial⟩) ?_
            refine wa_all [7] (by kernel_rfl) rfl ⟨⟨_, rfl, ?_⟩, trivial⟩
            refine wl_got (γ := ByteArray) (val := fun v => .string v) (φ := fun v => v ∈ ([⟨#[118, 49]⟩, ⟨#[118, 49]⟩, ⟨#[118, 50]⟩, ⟨#[118, 51]⟩] : List ByteArray)) rfl cb66 rfl rfl rfl rfl (fun wx hm => (some_any [⟨#[118, 49]⟩, ⟨#[118, 49]⟩, ⟨#[118, 50]⟩, ⟨#[118, 51]⟩] _ _ _ wx B sb _ hm.k (by omega) (by simp) (by simp) (hm.blkI 2 rfl) (hm.neRow 2 rfl rfl))) fun s59 hs59 => ?_
            have zs59 : s59.size ≤ 100 := mem_sz hs59 (by decide)
            refine wl_nil ?_
            refine nx_wa0 (listed' := #[true, true, true, true, true, true, true, true, true, true, false, false, false, false, false, true, false, false]) rfl (fun _ hm => ⟨hm.blkI 3 rfl, hm.blkI 4 rfl, hm.blkI 5 rfl, trivial⟩) ?_
            refine wa_all [10] (by kernel_rfl) rfl ⟨⟨_, rfl, ?_⟩, trivial⟩
            refine wl_calls (γ := Int × ByteArray × Int × Int) (val := (fun (g : Int × ByteArray × Int × Int) => .agg #[.int .i64 g.1, .string g.2.1, .int .i64 g.2.2.1, .int .i64 g.2.2.2])) (φ := (fun (g : Int × ByteArray × Int × Int) => RdOk ⟨g.1, g.2.1, g.2.2.1, g.2.2.2⟩)) (Y := (fun (g : Int × ByteArray × Int × Int) => fun _ => True)) (m' := m + 200 * i + 1 + 1 + 1 + 10) rfl cb164 rfl rfl rfl rfl (fun wx hm => (greading_any fr wx B sb _ hm.k (by omega) (by omega) (by omega)).mono fun _ _ ⟨r, hok, he, hS, hg⟩ => ⟨(r.at_, r.st, r.meter, r.fuel), he, hok, hS, hg, trivial⟩) (fun _ => Lasts2.true_) ?_
            rintro ⟨ra, rs, rm, rf⟩ hr_ra
            dsimp only at hr_ra ⊢
            have hz_rs : rs.size ≤ 1000000 := hr_ra
            refine wl_nil ?_
            refine nx_wa0 (listed' := #[true, true, true, true, true, true, true, true, true, true, true, false, false, false, false, true, false, false]) rfl (fun _ hm => ⟨hm.blkI 3 rfl, hm.blkI 4 rfl, hm.blkI 5 rfl, trivial⟩) ?_
            refine wa_all [11] (by kernel_rfl) rfl ⟨⟨_, rfl, ?_⟩, trivial⟩
            refine wl_callx (γ := ByteArray × ByteArray × Int × Int × Option Addr × Nat × Nat × List Lg) (val := (fun (g : ByteArray × ByteArray × Int × Int × Option Addr × Nat × Nat × List Lg) => .tuple #[.agg #[.string g.1, .string g.2.1, .int .i64 g.2.2.1, .int .i64 g.2.2.2.1, .slice g.2.2.2.2.1 g.2.2.2.2.2.1 g.2.2.2.2.2.2.1], .int .i64 (hireE ⟨key, s58, fr, fr + v3, [startLeg s59 ⟨ra, rs, rm, rf⟩]⟩)])) (φ := (fun (g : ByteArray × ByteArray × Int × Int × Option Addr × Nat × Nat × List Lg) => HrOk g.1 g.2.1 g.2.2.2.2.2.2.2 ∧ g.2.2.2.2.2.1 ≤ 1 ∧ (hireE ⟨key, s58, fr, fr + v3, [startLeg s59 ⟨ra, rs, rm, rf⟩]⟩ = 0 → g.2.2.2.2.2.1 = 1))) (Y := (fun (g : ByteArray × ByteArray × Int × Int × Option Addr × Nat × Nat × List Lg) => fun wy => SlT lgEnc 9 100 wy g.2.2.2.2.1 g.2.2.2.2.2.1 g.2.2.2.2.2.2.2)) rfl cb163 rfl rfl (fun wx hm => (startOf_lit key s58 fr (fr + v3) s59 ra rm rf rs wx (by omega) (by omega) (by omega) hz_rs).mono fun _ _ ⟨k, d, f, t, A, n, c, l, he, hsl, hok, hn, hn0, hg⟩ => ⟨(k, d, f, t, A, n, c, l), he, ⟨hok, hn, hn0⟩, hg, hsl⟩) (fun _ => SlT.lasts2 rfl) ?_
            rintro ⟨k1, d1, f1, t1, A1, n1, c1, l1⟩ hb1
            dsimp only at hb1 ⊢
            refine wl_nil ?_
            refine nx_wa0 (listed' := #[true, true, true, true, true, true, true, true, true, true, true, true, false, false, false, true, false, false]) rfl (fun _ hm => ⟨hm.blkI 3 rfl, hm.blkI 4 rfl, hm.blkI 5 rfl, trivial⟩) ?_
            refine wa_take 12 rfl (by kernel_rfl) (by kernel_rfl) (by kernel_rfl) (listed' := #[true, true, true, true, true, true, true, true, true, true, true, true, true, false, false, true, false, false]) rfl (fun _ _ _ h => h) (fun _ hm => ⟨hm.blkI 3 rfl, hm.blkI 4 rfl, hm.blkI 5 rfl, trivial⟩) (ov_move rfl) rfl ?_
            refine wa_take 13 rfl (by kernel_rfl) (by kernel_rfl) (by kernel_rfl) (listed' := #[true, true, true, true, true, true, true, true, true, true, true, true, true, true, false, true, false, false]) rfl (fun _ _ _ h => h) (fun _ hm => ⟨hm.blkI 3 rfl, hm.blkI 4 rfl, hm.blkI 5 rfl, trivial⟩) (ov_extract rfl rfl) rfl ?_
            refine wa_take 14 rfl (by kernel_rfl) (by kernel_rfl) (by kernel_rfl) (listed' := #[true, true, true, true, true, true, true, true, true, true, true, true, true, true, true, true, false, false]) rfl (fun _ _ _ h => h) (fun _ hm => ⟨hm.blkI 3 rfl, hm.blkI 4 rfl, hm.blkI 5 rfl, trivial⟩) (ov_extract rfl rfl) rfl ?_
            refine wa_all [16] (by kernel_rfl) rfl ⟨⟨_, rfl, ?_⟩, trivial⟩
            refine wl_stores (cs' := [.string k1, .string d1, .int .i64 f1, .int .i64 t1, .slice A1 n1 c1]) 0 rz95 rfl rfl rfl rfl rfl rfl rfl rfl ?_
            refine wl_nil ?_
            refine nx_wa0 (listed' := #[true, true, true, true, true, true, true, true, true, true, true, true, true, true, true, true, true, false]) rfl (fun _ hm => ⟨hm.blkI 3 rfl, hm.blkI 4 rfl, hm.blkI 5 rfl, trivial⟩) ?_
            refine wa_take 17 rfl (by kernel_rfl) (by kernel_rfl) (by kernel_rfl) (listed' := #[true, true, true, true, true, true, true, true, true, true, true, true, true, true, true, true, true, true]) rfl (fun _ _ _ h => h) (fun _ hm => ⟨hm.blkI 3 rfl, hm.blkI 4 rfl, hm.blkI 5 rfl, trivial⟩) (ov_assign rfl) rfl ?_
            refine wa_done (by kernel_rfl) ?_
            exact nx_meet (k1, d1, f1, t1, A1, n1, c1, l1, hireE ⟨key, s58, fr, fr + v3, [startLeg s59 ⟨ra, rs, rm, rf⟩]⟩, g57) hb1 ⟨rfl, rfl, rfl, rfl, rfl, rfl, rfl, trivial⟩ (fun _ hm => hm.pick [3, 4, 5, 0] [] [0] rfl rfl)
        · refine wl_alloc zc95 rfl fun g61 => ?_
          refine wl_nil ?_
          refine nx_wa0 (listed' := #[true, true, false, false, true, true, true, false, true, true, false, false, false, false, false, true, false, false]) rfl (fun _ hm => ⟨hm.blkI 2 rfl, hm.blkI 3 rfl, hm.blkI 4 rfl, trivial⟩) ?_
          refine wa_all [2] (by kernel_rfl) rfl ⟨⟨_, rfl, ?_⟩, trivial⟩
          refine wl_buildSlice (e := 9) (cs := [.string ⟨#[97, 110, 110]⟩, .string ⟨#[97, 110, 110]⟩, .string ⟨#[98, 111, 98]⟩, .string ⟨#[99, 105, 100]⟩]) rfl (by kernel_rfl) rfl fun g62 => ?_
          refine wl_nil ?_
          refine nx_wa0 (listed' := #[true, true, true, false, true, true, true, false, true, true, false, false, false, false, false, true, false, false]) rfl (fun _ hm => ⟨hm.blkI 3 rfl, hm.blkI 4 rfl, hm.blkI 5 rfl, trivial⟩) ?_
          refine wa_all [3] (by kernel_rfl) rfl ⟨⟨_, rfl, ?_⟩, trivial⟩
          refine wl_got (γ := ByteArray) (val := fun v => .string v) (φ := fun v => v ∈ ([⟨#[97, 110, 110]⟩, ⟨#[97, 110, 110]⟩, ⟨#[98, 111, 98]⟩, ⟨#[99, 105, 100]⟩] : List ByteArray)) rfl cb66 rfl rfl rfl rfl (fun wx hm => (some_any [⟨#[97, 110, 110]⟩, ⟨#[97, 110, 110]⟩, ⟨#[98, 111, 98]⟩, ⟨#[99, 105, 100]⟩] _ _ _ wx B sb _ hm.k (by omega) (by simp) (by simp) (hm.blkI 0 rfl) (hm.neRow 0 rfl rfl))) fun s63 hs63 => ?_
          have zs63 : s63.size ≤ 100 := mem_sz hs63 (by decide)
          refine wl_nil ?_
          refine nx_wa0 (listed' := #[true, true, true, true, true, true, true, false, true, true, false, false, false, false, false, true, false, false]) rfl (fun _ hm => ⟨hm.blkI 3 rfl, hm.blkI 4 rfl, hm.blkI 5 rfl, trivial⟩) ?_
          refine wa_all [7] (by kernel_rfl) rfl ⟨⟨_, rfl, ?_⟩, trivial⟩
          refine wl_got (γ := ByteArray) (val := fun v => .string v) (φ := fun v => v ∈ ([⟨#[118, 49]⟩, ⟨#[118, 49]⟩, ⟨#[118, 50]⟩, ⟨#[118, 51]⟩] : List ByteArray)) rfl cb66 rfl rfl rfl rfl (fun wx hm => (some_any [⟨#[118, 49]⟩, ⟨#[118, 49]⟩, ⟨#[118, 50]⟩, ⟨#[118, 51]⟩] _ _ _ wx B sb _ hm.k (by omega) (by simp) (by simp) (hm.blkI 2 rfl) (hm.neRow 2 rfl rfl))) fun s64 hs64 => ?_
          have zs64 : s64.size ≤ 100 := mem_sz hs64 (by decide)
          refine wl_nil ?_
          refine nx_wa0 (listed' := #[true, true, true, true, true, true, true, true, true, true, false, false, false, false, false, true, false, false]) rfl (fun _ hm => ⟨hm.blkI 3 rfl, hm.blkI 4 rfl, hm.blkI 5 rfl, trivial⟩) ?_
          refine wa_all [10] (by kernel_rfl) rfl ⟨⟨_, rfl, ?_⟩, trivial⟩
          refine wl_calls (γ := Int × ByteArray × Int × Int) (val := (fun (g : Int × ByteArray × Int × Int) => .agg #[.int .i64 g.1, .string g.2.1, .int .i64 g.2.2.1, .int .i64 g.2.2.2])) (φ := (fun (g : Int × ByteArray × Int × Int) => RdOk ⟨g.1, g.2.1, g.2.2.1, g.2.2.2⟩)) (Y := (fun (g : Int × ByteArray × Int × Int) => fun _ => True)) (m' := m + 200 * i + 1 + 1 + 1 + 10) rfl cb164 rfl rfl rfl rfl (fun wx hm => (greading_any fr wx B sb _ hm.k (by omega) (by omega) (by omega)).mono fun _ _ ⟨r, hok, he, hS, hg⟩ => ⟨(r.at_, r.st, r.meter, r.fuel), he, hok, hS, hg, trivial⟩) (fun _ => Lasts2.true_) ?_
          rintro ⟨ra, rs, rm, rf⟩ hr_ra
          dsimp only at hr_ra ⊢
          have hz_rs : rs.size ≤ 1000000 := hr_ra
          refine wl_nil ?_
          refine nx_wa0 (listed' := #[true, true, true, true, true, true, true, true, true, true, true, false, false, false, false, true, false, false]) rfl (fun _ hm => ⟨hm.blkI 3 rfl, hm.blkI 4 rfl, hm.blkI 5 rfl, trivial⟩) ?_
          refine wa_all [11] (by kernel_rfl) rfl ⟨⟨_, rfl, ?_⟩, trivial⟩
          refine wl_callx (γ := ByteArray × ByteArray × Int × Int × Option Addr × Nat × Nat × List Lg) (val := (fun (g : ByteArray × ByteArray × Int × Int × Option Addr × Nat × Nat × List Lg) => .tuple #[.agg #[.string g.1, .string g.2.1, .int .i64 g.2.2.1, .int .i64 g.2.2.2.1, .slice g.2.2.2.2.1 g.2.2.2.2.2.1 g.2.2.2.2.2.2.1], .int .i64 (hireE ⟨key, s63, fr, fr + v3, [startLeg s64 ⟨ra, rs, rm, rf⟩]⟩)])) (φ := (fun (g : ByteArray × ByteArray × Int × Int × Option Addr × Nat × Nat × List Lg) => HrOk g.1 g.2.1 g.2.2.2.2.2.2.2 ∧ g.2.2.2.2.2.1 ≤ 1 ∧ (hireE ⟨key, s63, fr, fr + v3, [startLeg s64 ⟨ra, rs, rm, rf⟩]⟩ = 0 → g.2.2.2.2.2.1 = 1))) (Y := (fun (g : ByteArray × ByteArray × Int × Int × Option Addr × Nat × Nat × List Lg) => fun wy => SlT lgEnc 9 100 wy g.2.2.2.2.1 g.2.2.2.2.2.1 g.2.2.2.2.2.2.2)) rfl cb163 rfl rfl (fun wx hm => (startOf_lit key s63 fr (fr + v3) s64 ra rm rf rs wx (by omega) (by omega) (by omega) hz_rs).mono fun _ _ ⟨k, d, f, t, A, n, c, l, he, hsl, hok, hn, hn0, hg⟩ => ⟨(k, d, f, t, A, n, c, l), he, ⟨hok, hn, hn0⟩, hg, hsl⟩) (fun _ => SlT.lasts2 rfl) ?_
          rintro ⟨k1, d1, f1, t1, A1, n1, c1, l1⟩ hb1
          dsimp only at hb1 ⊢
          refine wl_nil ?_
          refine nx_wa0 (listed' := #[true, true, true, true, true, true, true, true, true, true, true, true, false, false, false, true, false, false]) rfl (fun _ hm => ⟨hm.blkI 3 rfl, hm.blkI 4 rfl, hm.blkI 5 rfl, trivial⟩) ?_
          refine wa_take 12 rfl (by kernel_rfl) (by kernel_rfl) (by kernel_rfl) (listed' := #[true, true, true, true, true, true, true, true, true, true, true, true, true, false, false, true, false, false]) rfl (fun _ _ _ h => h) (fun _ hm => ⟨hm.blkI 3 rfl, hm.blkI 4 rfl, hm.blkI 5 rfl, trivial⟩) (ov_move rfl) rfl ?_
          refine wa_take 13 rfl (by kernel_rfl) (by kernel_rfl) (by kernel_rfl) (listed' := #[true, true, true, true, true, true, true, true, true, true, true, true, true, true, false, true, false, false]) rfl (fun _ _ _ h => h) (fun _ hm => ⟨hm.blkI 3 rfl, hm.blkI 4 rfl, hm.blkI 5 rfl, trivial⟩) (ov_extract rfl rfl) rfl ?_
          refine wa_take 14 rfl (by kernel_rfl) (by kernel_rfl) (by kernel_rfl) (listed' := #[true, true, true, true, true, true, true, true, true, true, true, true, true, true, true, true, false, false]) rfl (fun _ _ _ h => h) (fun _ hm => ⟨hm.blkI 3 rfl, hm.blkI 4 rfl, hm.blkI 5 rfl, trivial⟩) (ov_extract rfl rfl) rfl ?_
          refine wa_all [16] (by kernel_rfl) rfl ⟨⟨_, rfl, ?_⟩, trivial⟩
          refine wl_stores (cs' := [.string k1, .string d1, .int .i64 f1, .int .i64 t1, .slice A1 n1 c1]) 1 rz95 rfl rfl rfl rfl rfl rfl rfl rfl ?_
          refine wl_nil ?_
          refine nx_wa0 (listed' := #[true, true, true, true, true, true, true, true, true, true, true, true, true, true, true, true, true, false]) rfl (fun _ hm => ⟨hm.blkI 3 rfl, hm.blkI 4 rfl, hm.blkI 5 rfl, trivial⟩) ?_
          refine wa_take 17 rfl (by kernel_rfl) (by kernel_rfl) (by kernel_rfl) (listed' := #[true, true, true, true, true, true, true, true, true, true, true, true, true, true, true, true, true, true]) rfl (fun _ _ _ h => h) (fun _ hm => ⟨hm.blkI 3 rfl, hm.blkI 4 rfl, hm.blkI 5 rfl, trivial⟩) (ov_assign rfl) rfl ?_
          refine wa_done (by kernel_rfl) ?_
          exact nx_meet (k1, d1, f1, t1, A1, n1, c1, l1, hireE ⟨key, s63, fr, fr + v3, [startLeg s64 ⟨ra, rs, rm, rf⟩]⟩, g61) hb1 ⟨rfl, rfl, rfl, rfl, rfl, rfl, rfl, trivial⟩ (fun _ hm => hm.pick [3, 4, 5, 1] [] [0] rfl rfl)
      · refine wl_alloc zc95 rfl fun g66 => ?_
        refine wl_nil ?_
        refine nx_wa0 (listed' := #[true, true, false, false, true, true, false, false, true, true, false, false, false, false, false, true, false, false]) rfl (fun _ hm => ⟨hm.blkI 1 rfl, hm.blkI 2 rfl, hm.blkI 3 rfl, trivial⟩) ?_
        refine wa_all [2, 6] (by kernel_rfl) rfl ⟨⟨_, rfl, ?_⟩, ⟨_, rfl, ?_⟩, trivial⟩
        · refine wl_buildSlice (e := 9) (cs := [.string ⟨#[97, 110, 110]⟩, .string ⟨#[97, 110, 110]⟩, .string ⟨#[98, 111, 98]⟩, .string ⟨#[99, 105, 100]⟩]) rfl (by kernel_rfl) rfl fun g67 => ?_
          refine wl_nil ?_
          refine nx_wa0 (listed' := #[true, true, true, false, true, true, false, false, true, true, false, false, false, false, false, true, false, false]) rfl (fun _ hm => ⟨hm.blkI 2 rfl, hm.blkI 3 rfl, hm.blkI 4 rfl, trivial⟩) ?_
          refine wa_all [3, 6] (by kernel_rfl) rfl ⟨⟨_, rfl, ?_⟩, ⟨_, rfl, ?_⟩, trivial⟩
          · refine wl_got (γ := ByteArray) (val := fun v => .string v) (φ := fun v => v ∈ ([⟨#[97, 110, 110]⟩, ⟨#[97, 110, 110]⟩, ⟨#[98, 111, 98]⟩, ⟨#[99, 105, 100]⟩] : List ByteArray)) rfl cb66 rfl rfl rfl rfl (fun wx hm => (some_any [⟨#[97, 110, 110]⟩, ⟨#[97, 110, 110]⟩, ⟨#[98, 111, 98]⟩, ⟨#[99, 105, 100]⟩] _ _ _ wx B sb _ hm.k (by omega) (by simp) (by simp) (hm.blkI 0 rfl) (hm.neRow 0 rfl rfl))) fun s68 hs68 => ?_
            have zs68 : s68.size ≤ 100 := mem_sz hs68 (by decide)
            refine wl_nil ?_
            refine nx_wa0 (listed' := #[true, true, true, true, true, true, false, false, true, true, false, false, false, false, false, true, false, false]) rfl (fun _ hm => ⟨hm.blkI 2 rfl, hm.blkI 3 rfl, hm.blkI 4 rfl, trivial⟩) ?_
            refine wa_all [6] (by kernel_rfl) rfl ⟨⟨_, rfl, ?_⟩, trivial⟩
            refine wl_buildSlice (e := 9) (cs := [.string ⟨#[118, 49]⟩, .string ⟨#[118, 49]⟩, .string ⟨#[118, 50]⟩, .string ⟨#[118, 51]⟩]) rfl (by kernel_rfl) rfl fun g69 => ?_
            refine wl_nil ?_
            refine nx_wa0 (listed' := #[true, true, true, true, true, true, true, false, true, true, false, false, false, false, false, true, false, false]) rfl (fun _ hm => ⟨hm.blkI 3 rfl, hm.blkI 4 rfl, hm.blkI 5 rfl, trivial⟩) ?_
            refine wa_all [7] (by kernel_rfl) rfl ⟨⟨_, rfl, ?_⟩, trivial⟩
            refine wl_got (γ := ByteArray) (val := fun v => .string v) (φ := fun v => v ∈ ([⟨#[118, 49]⟩, ⟨#[118, 49]⟩, ⟨#[118, 50]⟩, ⟨#[118, 51]⟩] : List ByteArray)) rfl cb66 rfl rfl rfl rfl (fun wx hm => (some_any [⟨#[118, 49]⟩, ⟨#[118, 49]⟩, ⟨#[118, 50]⟩, ⟨#[118, 51]⟩] _ _ _ wx B sb _ hm.k (by omega) (by simp) (by simp) (hm.blkI 0 rfl) (hm.neRow 0 rfl rfl))) fun s70 hs70 => ?_
            have zs70 : s70.size ≤ 100 := mem_sz hs70 (by decide)
            refine wl_nil ?_
            refine nx_wa0 (listed' := #[true, true, true, true, true, true, true, true, true, true, false, false, false, false, false, true, false, false]) rfl (fun _ hm => ⟨hm.blkI 3 rfl, hm.blkI 4 rfl, hm.blkI 5 rfl, trivial⟩) ?_
            refine wa_all [10] (by kernel_rfl) rfl ⟨⟨_, rfl, ?_⟩, trivial⟩
            refine wl_calls (γ := Int × ByteArray × Int × Int) (val := (fun (g : Int × ByteArray × Int × Int) => .agg #[.int .i64 g.1, .string g.2.1, .int .i64 g.2.2.1, .int .i64 g.2.2.2])) (φ := (fun (g : Int × ByteArray × Int × Int) => RdOk ⟨g.1, g.2.1, g.2.2.1, g.2.2.2⟩)) (Y := (fun (g : Int × ByteArray × Int × Int) => fun _ => True)) (m' := m + 200 * i + 1 + 1 + 1 + 10) rfl cb164 rfl rfl rfl rfl (fun wx hm => (greading_any fr wx B sb _ hm.k (by omega) (by omega) (by omega)).mono fun _ _ ⟨r, hok, he, hS, hg⟩ => ⟨(r.at_, r.st, r.meter, r.fuel), he, hok, hS, hg, trivial⟩) (fun _ => Lasts2.true_) ?_
            rintro ⟨ra, rs, rm, rf⟩ hr_ra
            dsimp only at hr_ra ⊢
            have hz_rs : rs.size ≤ 1000000 := hr_ra
            refine wl_nil ?_
            refine nx_wa0 (listed' := #[true, true, true, true, true, true, true, true, true, true, true, false, false, false, false, true, false, false]) rfl (fun _ hm => ⟨hm.blkI 3 rfl, hm.blkI 4 rfl, hm.blkI 5 rfl, trivial⟩) ?_
            refine wa_all [11] (by kernel_rfl) rfl ⟨⟨_, rfl, ?_⟩, trivial⟩
            refine wl_callx (γ := ByteArray × ByteArray × Int × Int × Option Addr × Nat × Nat × List Lg) (val := (fun (g : ByteArray × ByteArray × Int × Int × Option Addr × Nat × Nat × List Lg) => .tuple #[.agg #[.string g.1, .string g.2.1, .int .i64 g.2.2.1, .int .i64 g.2.2.2.1, .slice g.2.2.2.2.1 g.2.2.2.2.2.1 g.2.2.2.2.2.2.1], .int .i64 (hireE ⟨key, s68, fr, fr + v3, [startLeg s70 ⟨ra, rs, rm, rf⟩]⟩)])) (φ := (fun (g : ByteArray × ByteArray × Int × Int × Option Addr × Nat × Nat × List Lg) => HrOk g.1 g.2.1 g.2.2.2.2.2.2.2 ∧ g.2.2.2.2.2.1 ≤ 1 ∧ (hireE ⟨key, s68, fr, fr + v3, [startLeg s70 ⟨ra, rs, rm, rf⟩]⟩ = 0 → g.2.2.2.2.2.1 = 1))) (Y := (fun (g : ByteArray × ByteArray × Int × Int × Option Addr × Nat × Nat × List Lg) => fun wy => SlT lgEnc 9 100 wy g.2.2.2.2.1 g.2.2.2.2.2.1 g.2.2.2.2.2.2.2)) rfl cb163 rfl rfl (fun wx hm => (startOf_lit key s68 fr (fr + v3) s70 ra rm rf rs wx (by omega) (by omega) (by omega) hz_rs).mono fun _ _ ⟨k, d, f, t, A, n, c, l, he, hsl, hok, hn, hn0, hg⟩ => ⟨(k, d, f, t, A, n, c, l), he, ⟨hok, hn, hn0⟩, hg, hsl⟩) (fun _ => SlT.lasts2 rfl) ?_
            rintro ⟨k1, d1, f1, t1, A1, n1, c1, l1⟩ hb1
            dsimp only at hb1 ⊢
            refine wl_nil ?_
            refine nx_wa0 (listed' := #[true, true, true, true, true, true, true, true, true, true, true, true, false, false, false, true, false, false]) rfl (fun _ hm => ⟨hm.blkI 3 rfl, hm.blkI 4 rfl, hm.blkI 5 rfl, trivial⟩) ?_
            refine wa_take 12 rfl (by kernel_rfl) (by kernel_rfl) (by kernel_rfl) (listed' := #[true, true, true, true, true, true, true, true, true, true, true, true, true, false, false, true, false, false]) rfl (fun _ _ _ h => h) (fun _ hm => ⟨hm.blkI 3 rfl, hm.blkI 4 rfl, hm.blkI 5 rfl, trivial⟩) (ov_move rfl) rfl ?_
            refine wa_take 13 rfl (by kernel_rfl) (by kernel_rfl) (by kernel_rfl) (listed' := #[true, true, true, true, true, true, true, true, true, true, true, true, true, true, false, true, false, false]) rfl (fun _ _ _ h => h) (fun _ hm => ⟨hm.blkI 3 rfl, hm.blkI 4 rfl, hm.blkI 5 rfl, trivial⟩) (ov_extract rfl rfl) rfl ?_
            refine wa_take 14 rfl (by kernel_rfl) (by kernel_rfl) (by kernel_rfl) (listed' := #[true, true, true, true, true, true, true, true, true, true, true, true, true, true, true, true, false, false]) rfl (fun _ _ _ h => h) (fun _ hm => ⟨hm.blkI 3 rfl, hm.blkI 4 rfl, hm.blkI 5 rfl, trivial⟩) (ov_extract rfl rfl) rfl ?_
            refine wa_all [16] (by kernel_rfl) rfl ⟨⟨_, rfl, ?_⟩, trivial⟩
            refine wl_stores (cs' := [.string k1, .string d1, .int .i64 f1, .int .i64 t1, .slice A1 n1 c1]) 2 rz95 rfl rfl rfl rfl rfl rfl rfl rfl ?_
            refine wl_nil ?_
            refine nx_wa0 (listed' := #[true, true, true, true, true, true, true, true, true, true, true, true, true, true, true, true, true, false]) rfl (fun _ hm => ⟨hm.blkI 3 rfl, hm.blkI 4 rfl, hm.blkI 5 rfl, trivial⟩) ?_
            refine wa_take 17 rfl (by kernel_rfl) (by kernel_rfl) (by kernel_rfl) (listed' := #[true, true, true, true, true, true, true, true, true, true, true, true, true, true, true, true, true, true]) rfl (fun _ _ _ h => h) (fun _ hm => ⟨hm.blkI 3 rfl, hm.blkI 4 rfl, hm.blkI 5 rfl, trivial⟩) (ov_assign rfl) rfl ?_
            refine wa_done (by kernel_rfl) ?_
            exact nx_meet (k1, d1, f1, t1, A1, n1, c1, l1, hireE ⟨key, s68, fr, fr + v3, [startLeg s70 ⟨ra, rs, rm, rf⟩]⟩, g66) hb1 ⟨rfl, rfl, rfl, rfl, rfl, rfl, rfl, trivial⟩ (fun _ hm => hm.pick [3, 4, 5, 2] [] [0] rfl rfl)
          · refine wl_buildSlice (e := 9) (cs := [.string ⟨#[118, 49]⟩, .string ⟨#[118, 49]⟩, .string ⟨#[118, 50]⟩, .string ⟨#[118, 51]⟩]) rfl (by kernel_rfl) rfl fun g72 => ?_
            refine wl_nil ?_
            refine nx_wa0 (listed' := #[true, true, true, false, true, true, true, false, true, true, false, false, false, false, false, true, false, false]) rfl (fun _ hm => ⟨hm.blkI 3 rfl, hm.blkI 4 rfl, hm.blkI 5 rfl, trivial⟩) ?_
            refine wa_all [3] (by kernel_rfl) rfl ⟨⟨_, rfl, ?_⟩, trivial⟩
            refine wl_got (γ := ByteArray) (val := fun v => .string v) (φ := fun v => v ∈ ([⟨#[97, 110, 110]⟩, ⟨#[97, 110, 110]⟩, ⟨#[98, 111, 98]⟩, ⟨#[99, 105, 100]⟩] : List ByteArray)) rfl cb66 rfl rfl rfl rfl (fun wx hm => (some_any [⟨#[97, 110, 110]⟩, ⟨#[97, 110, 110]⟩, ⟨#[98, 111, 98]⟩, ⟨#[99, 105, 100]⟩] _ _ _ wx B sb _ hm.k (by omega) (by simp) (by simp) (hm.blkI 1 rfl) (hm.neRow 1 rfl rfl))) fun s73 hs73 => ?_
            have zs73 : s73.size ≤ 100 := mem_sz hs73 (by decide)
            refine wl_nil ?_
            refine nx_wa0 (listed' := #[true, true, true, true, true, true, true, false, true, true, false, false, false, false, false, true, false, false]) rfl (fun _ hm => ⟨hm.blkI 3 rfl, hm.blkI 4 rfl, hm.blkI 5 rfl, trivial⟩) ?_
            refine wa_all [7] (by kernel_rfl) rfl ⟨⟨_, rfl, ?_⟩, trivial⟩
            refine wl_got (γ := ByteArray) (val := fun v => .string v) (φ := fun v => v ∈ ([⟨#[118, 49]⟩, ⟨#[118, 49]⟩, ⟨#[118, 50]⟩, ⟨#[118, 51]⟩] : List ByteArray)) rfl cb66 rfl rfl rfl rfl (fun wx hm => (some_any [⟨#[118, 49]⟩, ⟨#[118, 49]⟩, ⟨#[118, 50]⟩, ⟨#[118, 51]⟩] _ _ _ wx B sb _ hm.k (by omega) (by simp) (by simp) (hm.blkI 0 rfl) (hm.neRow 0 rfl rfl))) fun s74 hs74 => ?_
            have zs74 : s74.size ≤ 100 := mem_sz hs74 (by decide)
            refine wl_nil ?_
            refine nx_wa0 (listed' := #[true, true, true, true, true, true, true, true, true, true, false, false, false, false, false, true, false, false]) rfl (fun _ hm => ⟨hm.blkI 3 rfl, hm.blkI 4 rfl, hm.blkI 5 rfl, trivial⟩) ?_
            refine wa_all [10] (by kernel_rfl) rfl ⟨⟨_, rfl, ?_⟩, trivial⟩
            refine wl_calls (γ := Int × ByteArray × Int × Int) (val := (fun (g : Int × ByteArray × Int × Int) => .agg #[.int .i64 g.1, .string g.2.1, .int .i64 g.2.2.1, .int .i64 g.2.2.2])) (φ := (fun (g : Int × ByteArray × Int × Int) => RdOk ⟨g.1, g.2.1, g.2.2.1, g.2.2.2⟩)) (Y := (fun (g : Int × ByteArray × Int × Int) => fun _ => True)) (m' := m + 200 * i + 1 + 1 + 1 + 10) rfl cb164 rfl rfl rfl rfl (fun wx hm => (greading_any fr wx B sb _ hm.k (by omega) (by omega) (by omega)).mono fun _ _ ⟨r, hok, he, hS, hg⟩ => ⟨(r.at_, r.st, r.meter, r.fuel), he, hok, hS, hg, trivial⟩) (fun _ => Lasts2.true_) ?_
            rintro ⟨ra, rs, rm, rf⟩ hr_ra
            dsimp only at hr_ra ⊢
            have hz_rs : rs.size ≤ 1000000 := hr_ra
            refine wl_nil ?_
            refine nx_wa0 (listed' := #[true, true, true, true, true, true, true, true, true, true, true, false, false, false, false, true, false, false]) rfl (fun _ hm => ⟨hm.blkI 3 rfl, hm.blkI 4 rfl, hm.blkI 5 rfl, trivial⟩) ?_
            refine wa_all [11] (by kernel_rfl) rfl ⟨⟨_, rfl, ?_⟩, trivial⟩
            refine wl_callx (γ := ByteArray × ByteArray × Int × Int × Option Addr × Nat × Nat × List Lg) (val := (fun (g : ByteArray × ByteArray × Int × Int × Option Addr × Nat × Nat × List Lg) => .tuple #[.agg #[.string g.1, .string g.2.1, .int .i64 g.2.2.1, .int .i64 g.2.2.2.1, .slice g.2.2.2.2.1 g.2.2.2.2.2.1 g.2.2.2.2.2.2.1], .int .i64 (hireE ⟨key, s73, fr, fr + v3, [startLeg s74 ⟨ra, rs, rm, rf⟩]⟩)])) (φ := (fun (g : ByteArray × ByteArray × Int × Int × Option Addr × Nat × Nat × List Lg) => HrOk g.1 g.2.1 g.2.2.2.2.2.2.2 ∧ g.2.2.2.2.2.1 ≤ 1 ∧ (hireE ⟨key, s73, fr, fr + v3, [startLeg s74 ⟨ra, rs, rm, rf⟩]⟩ = 0 → g.2.2.2.2.2.1 = 1))) (Y := (fun (g : ByteArray × ByteArray × Int × Int × Option Addr × Nat × Nat × List Lg) => fun wy => SlT lgEnc 9 100 wy g.2.2.2.2.1 g.2.2.2.2.2.1 g.2.2.2.2.2.2.2)) rfl cb163 rfl rfl (fun wx hm => (startOf_lit key s73 fr (fr + v3) s74 ra rm rf rs wx (by omega) (by omega) (by omega) hz_rs).mono fun _ _ ⟨k, d, f, t, A, n, c, l, he, hsl, hok, hn, hn0, hg⟩ => ⟨(k, d, f, t, A, n, c, l), he, ⟨hok, hn, hn0⟩, hg, hsl⟩) (fun _ => SlT.lasts2 rfl) ?_
            rintro ⟨k1, d1, f1, t1, A1, n1, c1, l1⟩ hb1
            dsimp only at hb1 ⊢
            refine wl_nil ?_
            refine nx_wa0 (listed' := #[true, true, true, true, true, true, true, true, true, true, true, true, false, false, false, true, false, false]) rfl (fun _ hm => ⟨hm.blkI 3 rfl, hm.blkI 4 rfl, hm.blkI 5 rfl, trivial⟩) ?_
            refine wa_take 12 rfl (by kernel_rfl) (by kernel_rfl) (by kernel_rfl) (listed' := #[true, true, true, true, true, true, true, true, true, true, true, true, true, false, false, true, false, false]) rfl (fun _ _ _ h => h) (fun _ hm => ⟨hm.blkI 3 rfl, hm.blkI 4 rfl, hm.blkI 5 rfl, trivial⟩) (ov_move rfl) rfl ?_
            refine wa_take 13 rfl (by kernel_rfl) (by kernel_rfl) (by kernel_rfl) (listed' := #[true, true, true, true, true, true, true, true, true, true, true, true, true, true, false, true, false, false]) rfl (fun _ _ _ h => h) (fun _ hm => ⟨hm.blkI 3 rfl, hm.blkI 4 rfl, hm.blkI 5 rfl, trivial⟩) (ov_extract rfl rfl) rfl ?_
            refine wa_take 14 rfl (by kernel_rfl) (by kernel_rfl) (by kernel_rfl) (listed' := #[true, true, true, true, true, true, true, true, true, true, true, true, true, true, true, true, false, false]) rfl (fun _ _ _ h => h) (fun _ hm => ⟨hm.blkI 3 rfl, hm.blkI 4 rfl, hm.blkI 5 rfl, trivial⟩) (ov_extract rfl rfl) rfl ?_
            refine wa_all [16] (by kernel_rfl) rfl ⟨⟨_, rfl, ?_⟩, trivial⟩
            refine wl_stores (cs' := [.string k1, .string d1, .int .i64 f1, .int .i64 t1, .slice A1 n1 c1]) 2 rz95 rfl rfl rfl rfl rfl rfl rfl rfl ?_
            refine wl_nil ?_
            refine nx_wa0 (listed' := #[true, true, true, true, true, true, true, true, true, true, true, true, true, true, true, true, true, false]) rfl (fun _ hm => ⟨hm.blkI 3 rfl, hm.blkI 4 rfl, hm.blkI 5 rfl, trivial⟩) ?_
            refine wa_take 17 rfl (by kernel_rfl) (by kernel_rfl) (by kernel_rfl) (listed' := #[true, true, true, true, true, true, true, true, true, true, true, true, true, true, true, true, true, true]) rfl (fun _ _ _ h => h) (fun _ hm => ⟨hm.blkI 3 rfl, hm.blkI 4 rfl, hm.blkI 5 rfl, trivial⟩) (ov_assign rfl) rfl ?_
            refine wa_done (by kernel_rfl) ?_
            exact nx_meet (k1, d1, f1, t1, A1, n1, c1, l1, hireE ⟨key, s73, fr, fr + v3, [startLeg s74 ⟨ra, rs, rm, rf⟩]⟩, g66) hb1 ⟨rfl, rfl, rfl, rfl, rfl, rfl, rfl, trivial⟩ (fun _ hm => hm.pick [3, 4, 5, 2] [] [0] rfl rfl)
        · refine wl_buildSlice (e := 9) (cs := [.string ⟨#[118, 49]⟩, .string ⟨#[118, 49]⟩, .string ⟨#[118, 50]⟩, .string ⟨#[118, 51]⟩]) rfl (by kernel_rfl) rfl fun g76 => ?_
          refine wl_nil ?_
          refine nx_wa0 (listed' := #[true, true, false, false, true, true, true, false, true, true, false, false, false, false, false, true, false, false]) rfl (fun _ hm => ⟨hm.blkI 2 rfl, hm.blkI 3 rfl, hm.blkI 4 rfl, trivial⟩) ?_
          refine wa_all [2] (by kernel_rfl) rfl ⟨⟨_, rfl, ?_⟩, trivial⟩
          refine wl_buildSlice (e := 9) (cs := [.string ⟨#[97, 110, 110]⟩, .string ⟨#[97, 110, 110]⟩, .string ⟨#[98, 111, 98]⟩, .string ⟨#[99, 105, 100]⟩]) rfl (by kernel_rfl) rfl fun g77 => ?_
          refine wl_nil ?_
          refine nx_wa0 (listed' := #[true, true, true, false, true, true, true, false, true, true, false, false, false, false, false, true, false, false]) rfl (fun _ hm => ⟨hm.blkI 3 rfl, hm.blkI 4 rfl, hm.blkI 5 rfl, trivial⟩) ?_
          refine wa_all [3] (by kernel_rfl) rfl ⟨⟨_, rfl, ?_⟩, trivial⟩
          refine wl_got (γ := ByteArray) (val := fun v => .string v) (φ := fun v => v ∈ ([⟨#[97, 110, 110]⟩, ⟨#[97, 110, 110]⟩, ⟨#[98, 111, 98]⟩, ⟨#[99, 105, 100]⟩] : List ByteArray)) rfl cb66 rfl rfl rfl rfl (fun wx hm => (some_any [⟨#[97, 110, 110]⟩, ⟨#[97, 110, 110]⟩, ⟨#[98, 111, 98]⟩, ⟨#[99, 105, 100]⟩] _ _ _ wx B sb _ hm.k (by omega) (by simp) (by simp) (hm.blkI 0 rfl) (hm.neRow 0 rfl rfl))) fun s78 hs78 => ?_
          have zs78 : s78.size ≤ 100 := mem_sz hs78 (by decide)
          refine wl_nil ?_
          refine nx_wa0 (listed' := #[true, true, true, true, true, true, true, false, true, true, false, false, false, false, false, true, false, false]) rfl (fun _ hm => ⟨hm.blkI 3 rfl, hm.blkI 4 rfl, hm.blkI 5 rfl, trivial⟩) ?_
          refine wa_all [7] (by kernel_rfl) rfl ⟨⟨_, rfl, ?_⟩, trivial⟩
          refine wl_got (γ := ByteArray) (val := fun v => .string v) (φ := fun v => v ∈ ([⟨#[118, 49]⟩, ⟨#[118, 49]⟩, ⟨#[118, 50]⟩, ⟨#[118, 51]⟩] : List ByteArray)) rfl cb66 rfl rfl rfl rfl (fun wx hm => (some_any [⟨#[118, 49]⟩, ⟨#[118, 49]⟩, ⟨#[118, 50]⟩, ⟨#[118, 51]⟩] _ _ _ wx B sb _ hm.k (by omega) (by simp) (by simp) (hm.blkI 1 rfl) (hm.neRow 1 rfl rfl))) fun s79 hs79 => ?_
          have zs79 : s79.size ≤ 100 := mem_sz hs79 (by decide)
          refine wl_nil ?_
          refine nx_wa0 (listed' := #[true, true, true, true, true, true, true, true, true, true, false, false, false, false, false, true, false, false]) rfl (fun _ hm => ⟨hm.blkI 3 rfl, hm.blkI 4 rfl, hm.blkI 5 rfl, trivial⟩) ?_
          refine wa_all [10] (by kernel_rfl) rfl ⟨⟨_, rfl, ?_⟩, trivial⟩
          refine wl_calls (γ := Int × ByteArray × Int × Int) (val := (fun (g : Int × ByteArray × Int × Int) => .agg #[.int .i64 g.1, .string g.2.1, .int .i64 g.2.2.1, .int .i64 g.2.2.2])) (φ := (fun (g : Int × ByteArray × Int × Int) => RdOk ⟨g.1, g.2.1, g.2.2.1, g.2.2.2⟩)) (Y := (fun (g : Int × ByteArray × Int × Int) => fun _ => True)) (m' := m + 200 * i + 1 + 1 + 1 + 10) rfl cb164 rfl rfl rfl rfl (fun wx hm => (greading_any fr wx B sb _ hm.k (by omega) (by omega) (by omega)).mono fun _ _ ⟨r, hok, he, hS, hg⟩ => ⟨(r.at_, r.st, r.meter, r.fuel), he, hok, hS, hg, trivial⟩) (fun _ => Lasts2.true_) ?_
          rintro ⟨ra, rs, rm, rf⟩ hr_ra
          dsimp only at hr_ra ⊢
          have hz_rs : rs.size ≤ 1000000 := hr_ra
          refine wl_nil ?_
          refine nx_wa0 (listed' := #[true, true, true, true, true, true, true, true, true, true, true, false, false, false, false, true, false, false]) rfl (fun _ hm => ⟨hm.blkI 3 rfl, hm.blkI 4 rfl, hm.blkI 5 rfl, trivial⟩) ?_
          refine wa_all [11] (by kernel_rfl) rfl ⟨⟨_, rfl, ?_⟩, trivial⟩
          refine wl_callx (γ := ByteArray × ByteArray × Int × Int × Option Addr × Nat × Nat × List Lg) (val := (fun (g : ByteArray × ByteArray × Int × Int × Option Addr × Nat × Nat × List Lg) => .tuple #[.agg #[.string g.1, .string g.2.1, .int .i64 g.2.2.1, .int .i64 g.2.2.2.1, .slice g.2.2.2.2.1 g.2.2.2.2.2.1 g.2.2.2.2.2.2.1], .int .i64 (hireE ⟨key, s78, fr, fr + v3, [startLeg s79 ⟨ra, rs, rm, rf⟩]⟩)])) (φ := (fun (g : ByteArray × ByteArray × Int × Int × Option Addr × Nat × Nat × List Lg) => HrOk g.1 g.2.1 g.2.2.2.2.2.2.2 ∧ g.2.2.2.2.2.1 ≤ 1 ∧ (hireE ⟨key, s78, fr, fr + v3, [startLeg s79 ⟨ra, rs, rm, rf⟩]⟩ = 0 → g.2.2.2.2.2.1 = 1))) (Y := (fun (g : ByteArray × ByteArray × Int × Int × Option Addr × Nat × Nat × List Lg) => fun wy => SlT lgEnc 9 100 wy g.2.2.2.2.1 g.2.2.2.2.2.1 g.2.2.2.2.2.2.2)) rfl cb163 rfl rfl (fun wx hm => (startOf_lit key s78 fr (fr + v3) s79 ra rm rf rs wx (by omega) (by omega) (by omega) hz_rs).mono fun _ _ ⟨k, d, f, t, A, n, c, l, he, hsl, hok, hn, hn0, hg⟩ => ⟨(k, d, f, t, A, n, c, l), he, ⟨hok, hn, hn0⟩, hg, hsl⟩) (fun _ => SlT.lasts2 rfl) ?_
          rintro ⟨k1, d1, f1, t1, A1, n1, c1, l1⟩ hb1
          dsimp only at hb1 ⊢
          refine wl_nil ?_
          refine nx_wa0 (listed' := #[true, true, true, true, true, true, true, true, true, true, true, true, false, false, false, true, false, false]) rfl (fun _ hm => ⟨hm.blkI 3 rfl, hm.blkI 4 rfl, hm.blkI 5 rfl, trivial⟩) ?_
          refine wa_take 12 rfl (by kernel_rfl) (by kernel_rfl) (by kernel_rfl) (listed' := #[true, true, true, true, true, true, true, true, true, true, true, true, true, false, false, true, false, false]) rfl (fun _ _ _ h => h) (fun _ hm => ⟨hm.blkI 3 rfl, hm.blkI 4 rfl, hm.blkI 5 rfl, trivial⟩) (ov_move rfl) rfl ?_
          refine wa_take 13 rfl (by kernel_rfl) (by kernel_rfl) (by kernel_rfl) (listed' := #[true, true, true, true, true, true, true, true, true, true, true, true, true, true, false, true, false, false]) rfl (fun _ _ _ h => h) (fun _ hm => ⟨hm.blkI 3 rfl, hm.blkI 4 rfl, hm.blkI 5 rfl, trivial⟩) (ov_extract rfl rfl) rfl ?_
          refine wa_take 14 rfl (by kernel_rfl) (by kernel_rfl) (by kernel_rfl) (listed' := #[true, true, true, true, true, true, true, true, true, true, true, true, true, true, true, true, false, false]) rfl (fun _ _ _ h => h) (fun _ hm => ⟨hm.blkI 3 rfl, hm.blkI 4 rfl, hm.blkI 5 rfl, trivial⟩) (ov_extract rfl rfl) rfl ?_
          refine wa_all [16] (by kernel_rfl) rfl ⟨⟨_, rfl, ?_⟩, trivial⟩
          refine wl_stores (cs' := [.string k1, .string d1, .int .i64 f1, .int .i64 t1, .slice A1 n1 c1]) 2 rz95 rfl rfl rfl rfl rfl rfl rfl rfl ?_
          refine wl_nil ?_
          refine nx_wa0 (listed' := #[true, true, true, true, true, true, true, true, true, true, true, true, true, true, true, true, true, false]) rfl (fun _ hm => ⟨hm.blkI 3 rfl, hm.blkI 4 rfl, hm.blkI 5 rfl, trivial⟩) ?_
          refine wa_take 17 rfl (by kernel_rfl) (by kernel_rfl) (by kernel_rfl) (listed' := #[true, true, true, true, true, true, true, true, true, true, true, true, true, true, true, true, true, true]) rfl (fun _ _ _ h => h) (fun _ hm => ⟨hm.blkI 3 rfl, hm.blkI 4 rfl, hm.blkI 5 rfl, trivial⟩) (ov_assign rfl) rfl ?_
          refine wa_done (by kernel_rfl) ?_
          exact nx_meet (k1, d1, f1, t1, A1, n1, c1, l1, hireE ⟨key, s78, fr, fr + v3, [startLeg s79 ⟨ra, rs, rm, rf⟩]⟩, g66) hb1 ⟨rfl, rfl, rfl, rfl, rfl, rfl, rfl, trivial⟩ (fun _ hm => hm.pick [3, 4, 5, 2] [] [0] rfl rfl)
    · rintro ⟨k, d, f, t, A, n, c, l, E, gh⟩ hinv
      replace hinv : HrOk k d l ∧ n ≤ 1 ∧ (E = 0 → n = 1) := hinv
      dsimp only
      refine gw_seq ?_
      refine gw_seq ?_
      refine gw_region ?_
      obtain ⟨hok, hn1, hne⟩ := hinv
      refine wl_ov (ov_move rfl) rfl ?_
      refine wl_ov (ov_neq rfl rfl) rfl ?_
      refine wl_nil ?_
      refine nx_then ?_
      refine gw_cond rfl (fun hh => ?_) (fun hh => ?_)
      · have hE : ¬ (E = 0) := by simpa using hh
        clear hh
        refine gw_exit ?_
        refine nx_then_exit ?_
        refine nx_blk_here ?_
        refine nx_then ?_
        refine gw_region ?_
        refine wl_ov (ov_add rfl rfl (by omega) (by omega)) rfl ?_
        refine wl_ov (ov_move rfl) rfl ?_
        refine wl_nil ?_
        exact nx_round (i + 1) (by omega) (by omega) ⟨rfl, rfl, rfl, rfl, (some_int (by omega)), trivial⟩ (fun _ hm => (hm.more rfl (by first | omega | (dsimp only; omega))).pick [2] [] [] rfl rfl)
      · have hE : E = 0 := by simpa using hh
        clear hh
        refine gw_skip ?_
        refine nx_then ?_
        refine gw_seq ?_
        refine gw_region ?_
        have hn := hne hE
        refine wl_ov (ov_move rfl) rfl ?_
        refine wl_ov (ov_assign rfl) rfl ?_
        refine wl_nil ?_
        refine nx_then ?_
        refine gw_seq ?_
        refine gw_seq ?_
        refine gw_region ?_
        refine wl_ov (ov_move rfl) rfl ?_
        refine wl_buildSlice (e := 3) (cs := [.int .i64 0, .int .i64 0, .int .i64 1, .int .i64 2]) rfl (by kernel_rfl) rfl fun g81 => ?_
        refine wl_got (γ := Int) (val := fun v => .int .i64 v) (φ := fun v => v ∈ ([0, 0, 1, 2] : List Int)) rfl cb23 rfl rfl rfl rfl (fun wx hm => (pick_any [0, 0, 1, 2] _ _ _ wx B sb _ hm.k (by omega) (by simp) (by simp) (hm.blkI 0 rfl) (hm.neRow 0 rfl rfl))) fun v82 hv82 => ?_
        have bv82 : 0 ≤ v82 ∧ v82 ≤ 2 := mem_rng hv82 (by decide)
        have bv820 := bv82.1
        have bv821 := bv82.2
        clear bv82
        refine wl_ov (ov_move rfl) rfl ?_
        refine wl_nil ?_
        refine nx_then ?_
        refine gw_block ?_
        have hq0 : 0 ≤ v82 ∧ v82 ≤ 2 := ⟨bv820, bv821⟩
        refine gw_loop (γ := Nat × Int × ByteArray × ByteArray × Int × Int × Option Addr × Nat × Nat × List Lg) (fun (g : Nat × Int × ByteArray × ByteArray × Int × Int × Option Addr × Nat × Nat × List Lg) => (g.1 : Int) ≤ v82 ∧ (0 ≤ g.2.1 ∧ g.2.1 ≤ 5000000 + 500 * (g.1 : Int)) ∧ HrOk g.2.2.1 g.2.2.2.1 g.2.2.2.2.2.2.2.2.2 ∧ 1 ≤ g.2.2.2.2.2.2.2.1 ∧ g.2.2.2.2.2.2.2.1 ≤ 1 + g.1) (fun (g : Nat × Int × ByteArray × ByteArray × Int × Int × Option Addr × Nat × Nat × List Lg) => [(0, .pointer (some ⟨sb, 0, none⟩)), (1, .string key), (2, .int .i64 fr), (6, .pointer (some ⟨g1, 0, none⟩)), (8, .pointer (some ⟨gh, 0, none⟩)), (10, .int .i64 g.2.1), (19, .int .i64 ((i : Nat) : Int)), (48, .int .i64 v82), (49, .int .i64 ((g.1 : Nat) : Int))]) (fun (g : Nat × Int × ByteArray × ByteArray × Int × Int × Option Addr × Nat × Nat × List Lg) => fun w => Strm 25 w B sb (m + 200 * i + 1 + 1 + 1 + 10 + 1 + 40 * g.1)) (fun (g : Nat × Int × ByteArray × ByteArray × Int × Int × Option Addr × Nat × Nat × List Lg) => [(g81, 3, [.int .i64 0, .int .i64 0, .int .i64 1, .int .i64 2]), (g4, 56, [.int .i64 fr, .int .i64 (fr + v3)]), (g2, 3, [.int .i64 60, .int .i64 100, .int .i64 1440, .int .i64 2000, .int .i64 3000]), (g1, 95, [.string ⟨#[]⟩, .string ⟨#[]⟩, .int .i64 0, .int .i64 0, .slice none 0 0]), (gh, 95, [.string g.2.2.1, .string g.2.2.2.1, .int .i64 g.2.2.2.2.1, .int .i64 g.2.2.2.2.2.1, .slice g.2.2.2.2.2.2.1 g.2.2.2.2.2.2.2.1 g.2.2.2.2.2.2.2.2.1])]) (fun (g : Nat × Int × ByteArray × ByteArray × Int × Int × Option Addr × Nat × Nat × List Lg) => []) (fun (g : Nat × Int × ByteArray × ByteArray × Int × Int × Option Addr × Nat × Nat × List Lg) => [fun wy => SlT lgEnc 9 100 wy g.2.2.2.2.2.2.1 g.2.2.2.2.2.2.2.1 g.2.2.2.2.2.2.2.2.2]) (fun (g : Nat × Int × ByteArray × ByteArray × Int × Int × Option Addr × Nat × Nat × List Lg) => (v82 - (g.1 : Int)).toNat) (0, fr, k, d, f, t, A, n, c, l) ⟨by dsimp only; omega, by dsimp only; omega, hok, by dsimp only; omega, by dsimp only; omega⟩ ⟨rfl, rfl, rfl, rfl, rfl, rfl, rfl, rfl, rfl, trivial⟩ (fun _ hm => (hm.more rfl (by first | omega | (dsimp only; omega))).pick [0, 1, 2, 3, 4] [] [0] rfl rfl) ?_
        rintro ⟨j, mo, kx, dx, fx, tx, Ax, nx, cx, lx⟩ hinv
        replace hinv : (j : Int) ≤ v82 ∧ (0 ≤ mo ∧ mo ≤ 5000000 + 500 * (j : Int)) ∧ HrOk kx dx lx ∧ 1 ≤ nx ∧ nx ≤ 1 + j := hinv
        dsimp only
        refine gw_seq ?_
        refine gw_region ?_
        obtain ⟨hj0, hj1, hj2, hj3, hj4⟩ := hinv
        refine wl_ov (ov_lss rfl rfl) rfl ?_
        refine wl_nil ?_
        refine nx_then ?_
        refine gw_seq ?_
        refine gw_cond rfl (fun hh => ?_) (fun hh => ?_)
        · have hj : ((j : Nat) : Int) < v82 := by simpa using hh
          clear hh
          refine gw_skip ?_
          refine nx_then ?_
          refine gw_seq ?_
          refine gw_block ?_
          refine gw_seq ?_
          refine gw_region ?_
          refine wl_ov (ov_move rfl) rfl ?_
          refine wl_ov (ov_move rfl) rfl ?_
          refine wl_buildSlice (e := 3) (cs := [.int .i64 1, .int .i64 30, .int .i64 100, .int .i64 500]) rfl (by kernel_rfl) rfl fun g83 => ?_
          refine wl_got (γ := Int) (val := fun v => .int .i64 v) (φ := fun v => v ∈ ([1, 30, 100, 500] : List Int)) rfl cb23 rfl rfl rfl rfl (fun wx hm => (pick_any [1, 30, 100, 500] _ _ _ wx B sb _ hm.k (by omega) (by simp) (by simp) (hm.blkI 0 rfl) (hm.neRow 0 rfl rfl))) fun v84 hv84 => ?_
          have bv84 : 1 ≤ v84 ∧ v84 ≤ 500 := mem_rng hv84 (by decide)
          have bv840 := bv84.1
          have bv841 := bv84.2
          clear bv84
          refine wl_ov (ov_add rfl rfl (by omega) (by omega)) rfl ?_
          refine wl_ov (ov_assign rfl) rfl ?_
          refine wl_nil ?_
          refine nx_then ?_
          refine gw_seq ?_
          refine gw_region ?_
          refine wl_ov (ov_move rfl) rfl ?_
          refine wl_ov (ov_move rfl) rfl ?_
          obtain ⟨at1, hat1⟩ : ∃ z : Int, z = mo + v84 := ⟨_, rfl⟩
          have hat1b : 0 ≤ at1 ∧ at1 ≤ 5000000 + 500 * ((j : Int) + 1) := by omega
          refine wl_set 10 (v' := .int .i64 at1) rfl (congrArg (Value.int .i64) hat1.symm) ?_
          refine wl_set 55 (v' := .int .i64 at1) rfl (congrArg (Value.int .i64) hat1.symm) ?_
          refine wl_set 57 (v' := .int .i64 at1) rfl (congrArg (Value.int .i64) hat1.symm) ?_
          refine wl_calls (γ := Int × ByteArray × Int × Int) (val := (fun (g : Int × ByteArray × Int × Int) => .agg #[.int .i64 g.1, .string g.2.1, .int .i64 g.2.2.1, .int .i64 g.2.2.2])) (φ := (fun (g : Int × ByteArray × Int × Int) => RdOk ⟨g.1, g.2.1, g.2.2.1, g.2.2.2⟩)) (Y := (fun (g : Int × ByteArray × Int × Int) => fun _ => True)) (m' := m + 200 * i + 1 + 1 + 1 + 10 + 1 + 40 * j + 1 + 10) rfl cb164 rfl rfl rfl rfl (fun wx hm => (greading_any at1 wx B sb _ hm.k (by omega) (by omega) (by omega)).mono fun _ _ ⟨r, hok, he, hS, hg⟩ => ⟨(r.at_, r.st, r.meter, r.fuel), he, hok, hS, hg, trivial⟩) (fun _ => Lasts2.true_) ?_
          rintro ⟨ra, rs, rm, rf⟩ hr_ra
          dsimp only at hr_ra ⊢
          have hz_rs : rs.size ≤ 1000000 := hr_ra
          refine wl_alloc zc98 rfl fun g86 => ?_
          refine wl_stores (cs' := [.int .i64 ra, .string rs, .int .i64 rm, .int .i64 rf]) 0 rz98 rfl rfl rfl rfl rfl rfl rfl rfl ?_
          refine wl_nil ?_
          refine nx_then ?_
          refine gw_seq ?_
          refine gw_region ?_
          refine wl_ov (ov_move rfl) rfl ?_
          refine wl_ov (ov_move rfl) rfl ?_
          refine wl_calls (γ := Int × ByteArray × Int × Int) (val := (fun (g : Int × ByteArray × Int × Int) => .agg #[.int .i64 g.1, .string g.2.1, .int .i64 g.2.2.1, .int .i64 g.2.2.2])) (φ := (fun (g : Int × ByteArray × Int × Int) => RdOk ⟨g.1, g.2.1, g.2.2.1, g.2.2.2⟩)) (Y := (fun (g : Int × ByteArray × Int × Int) => fun _ => True)) (m' := m + 200 * i + 1 + 1 + 1 + 10 + 1 + 40 * j + 1 + 10 + 10) rfl cb164 rfl rfl rfl rfl (fun wx hm => (greading_any at1 wx B sb _ hm.k (by omega) (by omega) (by omega)).mono fun _ _ ⟨r, hok, he, hS, hg⟩ => ⟨(r.at_, r.st, r.meter, r.fuel), he, hok, hS, hg, trivial⟩) (fun _ => Lasts2.true_) ?_
          rintro ⟨qa, qs, qm, qf⟩ hr_qa
          dsimp only at hr_qa ⊢
          have hz_qs : qs.size ≤ 1000000 := hr_qa
          refine wl_alloc zc98 rfl fun g88 => ?_
          refine wl_stores (cs' := [.int .i64 qa, .string qs, .int .i64 qm, .int .i64 qf]) 0 rz98 rfl rfl rfl rfl rfl rfl rfl rfl ?_
          refine wl_nil ?_
          refine nx_then ?_
          refine gw_seq ?_
          refine gw_region ?_
          refine wl_ov (ov_field fo98_1 rfl rfl) rfl ?_
          refine wl_ov (ov_load sc9 rfl (fun _ hm => hm.blkI 1 rfl) rfl) rfl ?_
          refine wl_ov (ov_field fo98_1 rfl rfl) rfl ?_
          refine wl_store 0 sc9 rfl rfl rfl rfl rfl rfl ?_
          refine wl_nil ?_
          refine nx_then ?_
          refine gw_cut (γ := ByteArray × ByteArray × Int × Int × Option Addr × Nat × Nat × List Lg × Int × Nat) (I := (fun (g : ByteArray × ByteArray × Int × Int × Option Addr × Nat × Nat × List Lg × Int × Nat) => HrOk g.1 g.2.1 g.2.2.2.2.2.2.2.1 ∧ g.2.2.2.2.2.1 ≤ nx + 1 ∧ (g.2.2.2.2.2.2.2.2.1 = 0 → g.2.2.2.2.2.1 = nx + 1))) (S' := (fun (g : ByteArray × ByteArray × Int × Int × Option Addr × Nat × Nat × List Lg × Int × Nat) => [(0, .pointer (some ⟨sb, 0, none⟩)), (1, .string key), (2, .int .i64 fr), (6, .pointer (some ⟨g1, 0, none⟩)), (8, .pointer (some ⟨gh, 0, none⟩)), (10, .int .i64 at1), (13, .pointer (some ⟨g.2.2.2.2.2.2.2.2.2, 0, none⟩)), (14, .int .i64 g.2.2.2.2.2.2.2.2.1), (19, .int .i64 ((i : Nat) : Int)), (48, .int .i64 v82), (49, .int .i64 ((j : Nat) : Int))])) (K' := (fun (g : ByteArray × ByteArray × Int × Int × Option Addr × Nat × Nat × List Lg × Int × Nat) => fun w => Strm 25 w B sb (m + 200 * i + 1 + 1 + 1 + 10 + 1 + 40 * j + 1 + 10 + 10 + 1))) (L' := (fun (g : ByteArray × ByteArray × Int × Int × Option Addr × Nat × Nat × List Lg × Int × Nat) => [(g88, 98, [.int .i64 qa, .string rs, .int .i64 qm, .int .i64 qf]), (g86, 98, [.int .i64 ra, .string rs, .int .i64 rm, .int .i64 rf]), (g83, 3, [.int .i64 1, .int .i64 30, .int .i64 100, .int .i64 500]), (g81, 3, [.int .i64 0, .int .i64 0, .int .i64 1, .int .i64 2]), (g4, 56, [.int .i64 fr, .int .i64 (fr + v3)]), (g2, 3, [.int .i64 60, .int .i64 100, .int .i64 1440, .int .i64 2000, .int .i64 3000]), (g1, 95, [.string ⟨#[]⟩, .string ⟨#[]⟩, .int .i64 0, .int .i64 0, .slice none 0 0]), (gh, 95, [.string kx, .string dx, .int .i64 fx, .int .i64 tx, .slice Ax nx cx]), (g.2.2.2.2.2.2.2.2.2, 95, [.string g.1, .string g.2.1, .int .i64 g.2.2.1, .int .i64 g.2.2.2.1, .slice g.2.2.2.2.1 g.2.2.2.2.2.1 g.2.2.2.2.2.2.1])])) (O' := (fun (g : ByteArray × ByteArray × Int × Int × Option Addr × Nat × Nat × List Lg × Int × Nat) => [])) (X' := (fun (g : ByteArray × ByteArray × Int × Int × Option Addr × Nat × Nat × List Lg × Int × Nat) => [fun _ => True, fun _ => True, fun wy => SlT lgEnc 9 100 wy Ax nx lx, fun wy => SlT lgEnc 9 100 wy g.2.2.2.2.1 g.2.2.2.2.2.1 g.2.2.2.2.2.2.2.1])) ?_ ?_
          · refine gw_draw (fun wz => Blk wz g88 98 [.int .i64 qa, .string rs, .int .i64 qm, .int .i64 qf] ∧ Blk wz g86 98 [.int .i64 ra, .string rs, .int .i64 rm, .int .i64 rf] ∧ Blk wz g83 3 [.int .i64 1, .int .i64 30, .int .i64 100, .int .i64 500] ∧ Blk wz g81 3 [.int .i64 0, .int .i64 0, .int .i64 1, .int .i64 2] ∧ Blk wz g4 56 [.int .i64 fr, .int .i64 (fr + v3)] ∧ Blk wz g2 3 [.int .i64 60, .int .i64 100, .int .i64 1440, .int .i64 2000, .int .i64 3000] ∧ Blk wz g1 95 [.string ⟨#[]⟩, .string ⟨#[]⟩, .int .i64 0, .int .i64 0, .slice none 0 0] ∧ Blk wz gh 95 [.string kx, .string dx, .int .i64 fx, .int .i64 tx, .slice Ax nx cx] ∧ (fun _ => True) wz ∧ (fun _ => True) wz ∧ (fun wy => SlT lgEnc 9 100 wy Ax nx lx) wz ∧ True) mixed ?_
            refine wa_take 0 rfl (by kernel_rfl) (by kernel_rfl) (by kernel_rfl) (listed' := #[true, false, false, false, false, false, false, false, false, false, false, false, false]) rfl (fun _ _ _ h => h) (fun _ hm => ⟨hm.blkI 0 rfl, hm.blkI 1 rfl, hm.blkI 2 rfl, hm.blkI 3 rfl, hm.blkI 4 rfl, hm.blkI 5 rfl, hm.blkI 6 rfl, hm.blkI 7 rfl, hm.fact 0 rfl, hm.fact 1 rfl, hm.fact 2 rfl, trivial⟩) (ov_loads rz95 rfl (fun _ hm => hm.2.2.2.2.2.2.2.1) rfl rfl) rfl ?_
            refine wa_take 1 rfl (by kernel_rfl) (by kernel_rfl) (by kernel_rfl) (listed' := #[true, true, false, false, false, false, false, false, false, false, false, false, false]) rfl (fun _ _ _ h => h) (fun _ hm => ⟨hm.blkI 0 rfl, hm.blkI 1 rfl, hm.blkI 2 rfl, hm.blkI 3 rfl, hm.blkI 4 rfl, hm.blkI 5 rfl, hm.blkI 6 rfl, hm.blkI 7 rfl, hm.fact 0 rfl, hm.fact 1 rfl, hm.fact 2 rfl, trivial⟩) (ov_loads rz98 rfl (fun _ hm => hm.2.1) rfl rfl) rfl ?_
            refine wa_take 2 rfl (by kernel_rfl) (by kernel_rfl) (by kernel_rfl) (listed' := #[true, true, true, false, false, false, false, false, false, false, false, false, false]) rfl (fun _ _ _ h => h) (fun _ hm => ⟨hm.blkI 0 rfl, hm.blkI 1 rfl, hm.blkI 2 rfl, hm.blkI 3 rfl, hm.blkI 4 rfl, hm.blkI 5 rfl, hm.blkI 6 rfl, hm.blkI 7 rfl, hm.fact 0 rfl, hm.fact 1 rfl, hm.fact 2 rfl, trivial⟩) (ov_move rfl) rfl ?_
            refine wa_take 5 rfl (by kernel_rfl) (by kernel_rfl) (by kernel_rfl) (listed' := #[true, true, true, false, false, true, false, false, false, false, false, false, false]) rfl (fun _ _ _ h => h) (fun _ hm => ⟨hm.blkI 0 rfl, hm.blkI 1 rfl, hm.blkI 2 rfl, hm.blkI 3 rfl, hm.blkI 4 rfl, hm.blkI 5 rfl, hm.blkI 6 rfl, hm.blkI 7 rfl, hm.fact 0 rfl, hm.fact 1 rfl, hm.fact 2 rfl, trivial⟩) (ov_loads rz98 rfl (fun _ hm => hm.1) rfl rfl) rfl ?_
            refine wa_all [3, 10] (by kernel_rfl) rfl ⟨⟨_, rfl, ?_⟩, ⟨_, rfl, ?_⟩, trivial⟩
            · refine wl_buildSlice (e := 9) (cs := [.string ⟨#[118, 49]⟩, .string ⟨#[118, 50]⟩, .string ⟨#[118, 51]⟩, .string ⟨#[118, 52]⟩]) rfl (by kernel_rfl) rfl fun g89 => ?_
              refine wl_nil ?_
              refine nx_wa0 (listed' := #[true, true, true, true, false, true, false, false, false, false, false, false, false]) rfl (fun _ hm => ⟨hm.blkI 1 rfl, hm.blkI 2 rfl, hm.blkI 3 rfl, hm.blkI 4 rfl, hm.blkI 5 rfl, hm.blkI 6 rfl, hm.blkI 7 rfl, hm.blkI 8 rfl, hm.fact 0 rfl, hm.fact 1 rfl, hm.fact 2 rfl, trivial⟩) ?_
              refine wa_all [4, 10] (by kernel_rfl) rfl ⟨⟨_, rfl, ?_⟩, ⟨_, rfl, ?_⟩, trivial⟩
              · refine wl_got (γ := ByteArray) (val := fun v => .string v) (φ := fun v => v ∈ ([⟨#[118, 49]⟩, ⟨#[118, 50]⟩, ⟨#[118, 51]⟩, ⟨#[118, 52]⟩] : List ByteArray)) rfl cb66 rfl rfl rfl rfl (fun wx hm => (some_any [⟨#[118, 49]⟩, ⟨#[118, 50]⟩, ⟨#[118, 51]⟩, ⟨#[118, 52]⟩] _ _ _ wx B sb _ hm.k (by omega) (by simp) (by simp) (hm.blkI 0 rfl) (hm.neRow 0 rfl rfl))) fun s90 hs90 => ?_
                have zs90 : s90.size ≤ 100 := mem_sz hs90 (by decide)
                refine wl_nil ?_
                refine nx_wa0 (listed' := #[true, true, true, true, true, true, false, false, false, false, false, false, false]) rfl (fun _ hm => ⟨hm.blkI 1 rfl, hm.blkI 2 rfl, hm.blkI 3 rfl, hm.blkI 4 rfl, hm.blkI 5 rfl, hm.blkI 6 rfl, hm.blkI 7 rfl, hm.blkI 8 rfl, hm.fact 0 rfl, hm.fact 1 rfl, hm.fact 2 rfl, trivial⟩) ?_
                refine wa_all [6, 10] (by kernel_rfl) rfl ⟨⟨_, rfl, ?_⟩, ⟨_, rfl, ?_⟩, trivial⟩
                · refine wl_callx (γ := ByteArray × ByteArray × Int × Int × Option Addr × Nat × Nat × List Lg × Int) (val := (fun (g : ByteArray × ByteArray × Int × Int × Option Addr × Nat × Nat × List Lg × Int) => .tuple #[.agg #[.string g.1, .string g.2.1, .int .i64 g.2.2.1, .int .i64 g.2.2.2.1, .slice g.2.2.2.2.1 g.2.2.2.2.2.1 g.2.2.2.2.2.2.1], .int .i64 g.2.2.2.2.2.2.2.2])) (φ := (fun (g : ByteArray × ByteArray × Int × Int × Option Addr × Nat × Nat × List Lg × Int) => HrOk g.1 g.2.1 g.2.2.2.2.2.2.2.1 ∧ g.2.2.2.2.2.1 ≤ nx + 1 ∧ (g.2.2.2.2.2.2.2.2 = 0 → g.2.2.2.2.2.1 = nx + 1))) (Y := (fun (g : ByteArray × ByteArray × Int × Int × Option Addr × Nat × Nat × List Lg × Int) => fun wy => SlT lgEnc 9 100 wy g.2.2.2.2.1 g.2.2.2.2.2.1 g.2.2.2.2.2.2.2.1)) rfl cb165 rfl rfl (fun wx hm => (exchangeOf_lit kx dx fx tx lx Ax nx cx wx (hm.fact 2 rfl) hj2 (by omega) s90 ra rm rf qa qm qf rs rs (by omega) hz_rs hz_rs).mono fun _ _ ⟨E, k, d, f, t, A, n, c, l, he, hsl, hok, hn, hn0, hg⟩ => ⟨(k, d, f, t, A, n, c, l, E), he, ⟨hok, hn, hn0⟩, hg, hsl⟩) (fun _ => SlT.lasts2 rfl) ?_
                  rintro ⟨k2, d2, f2, t2, A2, n2, c2, l2, E2⟩ hb2
                  dsimp only at hb2 ⊢
                  refine wl_nil ?_
                  refine nx_wa0 (listed' := #[true, true, true, true, true, true, true, false, false, false, false, false, false]) rfl (fun _ hm => ⟨hm.blkI 1 rfl, hm.blkI 2 rfl, hm.blkI 3 rfl, hm.blkI 4 rfl, hm.blkI 5 rfl, hm.blkI 6 rfl, hm.blkI 7 rfl, hm.blkI 8 rfl, hm.fact 1 rfl, hm.fact 2 rfl, hm.fact 3 rfl, trivial⟩) ?_
                  refine wa_take 7 rfl (by kernel_rfl) (by kernel_rfl) (by kernel_rfl) (listed' := #[true, true, true, true, true, true, true, true, false, false, false, false, false]) rfl (fun _ _ _ h => h) (fun _ hm => ⟨hm.blkI 1 rfl, hm.blkI 2 rfl, hm.blkI 3 rfl, hm.blkI 4 rfl, hm.blkI 5 rfl, hm.blkI 6 rfl, hm.blkI 7 rfl, hm.blkI 8 rfl, hm.fact 1 rfl, hm.fact 2 rfl, hm.fact 3 rfl, trivial⟩) (ov_move rfl) rfl ?_
                  refine wa_take 8 rfl (by kernel_rfl) (by kernel_rfl) (by kernel_rfl) (listed' := #[true, true, true, true, true, true, true, true, true, false, false, false, false]) rfl (fun _ _ _ h => h) (fun _ hm => ⟨hm.blkI 1 rfl, hm.blkI 2 rfl, hm.blkI 3 rfl, hm.blkI 4 rfl, hm.blkI 5 rfl, hm.blkI 6 rfl, hm.blkI 7 rfl, hm.blkI 8 rfl, hm.fact 1 rfl, hm.fact 2 rfl, hm.fact 3 rfl, trivial⟩) (ov_extract rfl rfl) rfl ?_
                  refine wa_take 9 rfl (by kernel_rfl) (by kernel_rfl) (by kernel_rfl) (listed' := #[true, true, true, true, true, true, true, true, true, true, false, false, false]) rfl (fun _ _ _ h => h) (fun _ hm => ⟨hm.blkI 1 rfl, hm.blkI 2 rfl, hm.blkI 3 rfl, hm.blkI 4 rfl, hm.blkI 5 rfl, hm.blkI 6 rfl, hm.blkI 7 rfl, hm.blkI 8 rfl, hm.fact 1 rfl, hm.fact 2 rfl, hm.fact 3 rfl, trivial⟩) (ov_extract rfl rfl) rfl ?_
                  refine wa_all [10] (by kernel_rfl) rfl ⟨⟨_, rfl, ?_⟩, trivial⟩
                  refine wl_alloc zc95 rfl fun g91 => ?_
                  refine wl_nil ?_
                  refine nx_wa0 (listed' := #[true, true, true, true, true, true, true, true, true, true, true, false, false]) rfl (fun _ hm => ⟨hm.blkI 2 rfl, hm.blkI 3 rfl, hm.blkI 4 rfl, hm.blkI 5 rfl, hm.blkI 6 rfl, hm.blkI 7 rfl, hm.blkI 8 rfl, hm.blkI 9 rfl, hm.fact 1 rfl, hm.fact 2 rfl, hm.fact 3 rfl, trivial⟩) ?_
                  refine wa_all [11] (by kernel_rfl) rfl ⟨⟨_, rfl, ?_⟩, trivial⟩
                  refine wl_stores (cs' := [.string k2, .string d2, .int .i64 f2, .int .i64 t2, .slice A2 n2 c2]) 0 rz95 rfl rfl rfl rfl rfl rfl rfl rfl ?_
                  refine wl_nil ?_
                  refine nx_wa0 (listed' := #[true, true, true, true, true, true, true, true, true, true, true, true, false]) rfl (fun _ hm => ⟨hm.blkI 2 rfl, hm.blkI 3 rfl, hm.blkI 4 rfl, hm.blkI 5 rfl, hm.blkI 6 rfl, hm.blkI 7 rfl, hm.blkI 8 rfl, hm.blkI 9 rfl, hm.fact 1 rfl, hm.fact 2 rfl, hm.fact 3 rfl, trivial⟩) ?_
                  refine wa_take 12 rfl (by kernel_rfl) (by kernel_rfl) (by kernel_rfl) (listed' := #[true, true, true, true, true, true, true, true, true, true, true, true, true]) rfl (fun _ _ _ h => h) (fun _ hm => ⟨hm.blkI 2 rfl, hm.blkI 3 rfl, hm.blkI 4 rfl, hm.blkI 5 rfl, hm.blkI 6 rfl, hm.blkI 7 rfl, hm.blkI 8 rfl, hm.blkI 9 rfl, hm.fact 1 rfl, hm.fact 2 rfl, hm.fact 3 rfl, trivial⟩) (ov_assign rfl) rfl ?_
                  refine wa_done (by kernel_rfl) ?_
                  exact nx_meet (k2, d2, f2, t2, A2, n2, c2, l2, E2, g91) hb2 ⟨rfl, rfl, rfl, rfl, rfl, rfl, rfl, rfl, rfl, rfl, rfl, trivial⟩ (fun _ hm => hm.pick [2, 3, 4, 5, 6, 7, 8, 9, 0] [] [1, 2, 3, 0] rfl rfl)
                · refine wl_alloc zc95 rfl fun g92 => ?_
                  refine wl_nil ?_
                  refine nx_wa0 (listed' := #[true, true, true, true, true, true, false, false, false, false, true, false, false]) rfl (fun _ hm => ⟨hm.blkI 2 rfl, hm.blkI 3 rfl, hm.blkI 4 rfl, hm.blkI 5 rfl, hm.blkI 6 rfl, hm.blkI 7 rfl, hm.blkI 8 rfl, hm.blkI 9 rfl, hm.fact 0 rfl, hm.fact 1 rfl, hm.fact 2 rfl, trivial⟩) ?_
                  refine wa_all [6] (by kernel_rfl) rfl ⟨⟨_, rfl, ?_⟩, trivial⟩
                  refine wl_callx (γ := ByteArray × ByteArray × Int × Int × Option Addr × Nat × Nat × List Lg × Int) (val := (fun (g : ByteArray × ByteArray × Int × Int × Option Addr × Nat × Nat × List Lg × Int) => .tuple #[.agg #[.string g.1, .string g.2.1, .int .i64 g.2.2.1, .int .i64 g.2.2.2.1, .slice g.2.2.2.2.1 g.2.2.2.2.2.1 g.2.2.2.2.2.2.1], .int .i64 g.2.2.2.2.2.2.2.2])) (φ := (fun (g : ByteArray × ByteArray × Int × Int × Option Addr × Nat × Nat × List Lg × Int) => HrOk g.1 g.2.1 g.2.2.2.2.2.2.2.1 ∧ g.2.2.2.2.2.1 ≤ nx + 1 ∧ (g.2.2.2.2.2.2.2.2 = 0 → g.2.2.2.2.2.1 = nx + 1))) (Y := (fun (g : ByteArray × ByteArray × Int × Int × Option Addr × Nat × Nat × List Lg × Int) => fun wy => SlT lgEnc 9 100 wy g.2.2.2.2.1 g.2.2.2.2.2.1 g.2.2.2.2.2.2.2.1)) rfl cb165 rfl rfl (fun wx hm => (exchangeOf_lit kx dx fx tx lx Ax nx cx wx (hm.fact 2 rfl) hj2 (by omega) s90 ra rm rf qa qm qf rs rs (by omega) hz_rs hz_rs).mono fun _ _ ⟨E, k, d, f, t, A, n, c, l, he, hsl, hok, hn, hn0, hg⟩ => ⟨(k, d, f, t, A, n, c, l, E), he, ⟨hok, hn, hn0⟩, hg, hsl⟩) (fun _ => SlT.lasts2 rfl) ?_
                  rintro ⟨k2, d2, f2, t2, A2, n2, c2, l2, E2⟩ hb2
                  dsimp only at hb2 ⊢
                  refine wl_nil ?_
                  refine nx_wa0 (listed' := #[true, true, true, true, true, true, true, false, false, false, true, false, false]) rfl (fun _ hm => ⟨hm.blkI 2 rfl, hm.blkI 3 rfl, hm.blkI 4 rfl, hm.blkI 5 rfl, hm.blkI 6 rfl, hm.blkI 7 rfl, hm.blkI 8 rfl, hm.blkI 9 rfl, hm.fact 1 rfl, hm.fact 2 rfl, hm.fact 3 rfl, trivial⟩) ?_
                  refine wa_take 7 rfl (by kernel_rfl) (by kernel_rfl) (by kernel_rfl) (listed' := #[true, true, true, true, true, true, true, true, false, false, true, false, false]) rfl (fun _ _ _ h => h) (fun _ hm => ⟨hm.blkI 2 rfl, hm.blkI 3 rfl, hm.blkI 4 rfl, hm.blkI 5 rfl, hm.blkI 6 rfl, hm.blkI 7 rfl, hm.blkI 8 rfl, hm.blkI 9 rfl, hm.fact 1 rfl, hm.fact 2 rfl, hm.fact 3 rfl, trivial⟩) (ov_move rfl) rfl ?_
                  refine wa_take 8 rfl (by kernel_rfl) (by kernel_rfl) (by kernel_rfl) (listed' := #[true, true, true, true, true, true, true, true, true, false, true, false, false]) rfl (fun _ _ _ h => h) (fun _ hm => ⟨hm.blkI 2 rfl, hm.blkI 3 rfl, hm.blkI 4 rfl, hm.blkI 5 rfl, hm.blkI 6 rfl, hm.blkI 7 rfl, hm.blkI 8 rfl, hm.blkI 9 rfl, hm.fact 1 rfl, hm.fact 2 rfl, hm.fact 3 rfl, trivial⟩) (ov_extract rfl rfl) rfl ?_
                  refine wa_take 9 rfl (by kernel_rfl) (by kernel_rfl) (by kernel_rfl) (listed' := #[true, true, true, true, true, true, true, true, true, true, true, false, false]) rfl (fun _ _ _ h => h) (fun _ hm => ⟨hm.blkI 2 rfl, hm.blkI 3 rfl, hm.blkI 4 rfl, hm.blkI 5 rfl, hm.blkI 6 rfl, hm.blkI 7 rfl, hm.blkI 8 rfl, hm.blkI 9 rfl, hm.fact 1 rfl, hm.fact 2 rfl, hm.fact 3 rfl, trivial⟩) (ov_extract rfl rfl) rfl ?_
                  refine wa_all [11] (by kernel_rfl) rfl ⟨⟨_, rfl, ?_⟩, trivial⟩
                  refine wl_stores (cs' := [.string k2, .string d2, .int .i64 f2, .int .i64 t2, .slice A2 n2 c2]) 0 rz95 rfl rfl rfl rfl rfl rfl rfl rfl ?_
                  refine wl_nil ?_
                  refine nx_wa0 (listed' := #[true, true, true, true, true, true, true, true, true, true, true, true, false]) rfl (fun _ hm => ⟨hm.blkI 2 rfl, hm.blkI 3 rfl, hm.blkI 4 rfl, hm.blkI 5 rfl, hm.blkI 6 rfl, hm.blkI 7 rfl, hm.blkI 8 rfl, hm.blkI 9 rfl, hm.fact 1 rfl, hm.fact 2 rfl, hm.fact 3 rfl, trivial⟩) ?_
                  refine wa_take 12 rfl (by kernel_rfl) (by kernel_rfl) (by kernel_rfl) (listed' := #[true, true, true, true, true, true, true, true, true, true, true, true, true]) rfl (fun _ _ _ h => h) (fun _ hm => ⟨hm.blkI 2 rfl, hm.blkI 3 rfl, hm.blkI 4 rfl, hm.blkI 5 rfl, hm.blkI 6 rfl, hm.blkI 7 rfl, hm.blkI 8 rfl, hm.blkI 9 rfl, hm.fact 1 rfl, hm.fact 2 rfl, hm.fact 3 rfl, trivial⟩) (ov_assign rfl) rfl ?_
                  refine wa_done (by kernel_rfl) ?_
                  exact nx_meet (k2, d2, f2, t2, A2, n2, c2, l2, E2, g92) hb2 ⟨rfl, rfl, rfl, rfl, rfl, rfl, rfl, rfl, rfl, rfl, rfl, trivial⟩ (fun _ hm => hm.pick [2, 3, 4, 5, 6, 7, 8, 9, 0] [] [1, 2, 3, 0] rfl rfl)
              · refine wl_alloc zc95 rfl fun g93 => ?_
                refine wl_nil ?_
                refine nx_wa0 (listed' := #[true, true, true, true, false, true, false, false, false, false, true, false, false]) rfl (fun _ hm => ⟨hm.blkI 2 rfl, hm.blkI 3 rfl, hm.blkI 4 rfl, hm.blkI 5 rfl, hm.blkI 6 rfl, hm.blkI 7 rfl, hm.blkI 8 rfl, hm.blkI 9 rfl, hm.fact 0 rfl, hm.fact 1 rfl, hm.fact 2 rfl, trivial⟩) ?_
                refine wa_all [4] (by kernel_rfl) rfl ⟨⟨_, rfl, ?_⟩, trivial⟩
                refine wl_got (γ := ByteArray) (val := fun v => .string v) (φ := fun v => v ∈ ([⟨#[118, 49]⟩, ⟨#[118, 50]⟩, ⟨#[118, 51]⟩, ⟨#[118, 52]⟩] : List ByteArray)) rfl cb66 rfl rfl rfl rfl (fun wx hm => (some_any [⟨#[118, 49]⟩, ⟨#[118, 50]⟩, ⟨#[118, 51]⟩, ⟨#[118, 52]⟩] _ _ _ wx B sb _ hm.k (by omega) (by simp) (by simp) (hm.blkI 1 rfl) (hm.neRow 1 rfl rfl))) fun s94 hs94 => ?_
                have zs94 : s94.size ≤ 100 := mem_sz hs94 (by decide)
                refine wl_nil ?_
                refine nx_wa0 (listed' := #[true, true, true, true, true, true, false, false, false, false, true, false, false]) rfl (fun _ hm => ⟨hm.blkI 2 rfl, hm.blkI 3 rfl, hm.blkI 4 rfl, hm.blkI 5 rfl, hm.blkI 6 rfl, hm.blkI 7 rfl, hm.blkI 8 rfl, hm.blkI 9 rfl, hm.fact 0 rfl, hm.fact 1 rfl, hm.fact 2 rfl, trivial⟩) ?_
                refine wa_all [6] (by kernel_rfl) rfl ⟨⟨_, rfl, ?_⟩, trivial⟩
                refine wl_callx (γ := ByteArray × ByteArray × Int × Int × Option Addr × Nat × Nat × List Lg × Int) (val := (fun (g : ByteArray × ByteArray × Int × Int × Option Addr × Nat × Nat × List Lg × Int) => .tuple #[.agg #[.string g.1, .string g.2.1, .int .i64 g.2.2.1, .int .i64 g.2.2.2.1, .slice g.2.2.2.2.1 g.2.2.2.2.2.1 g.2.2.2.2.2.2.1], .int .i64 g.2.2.2.2.2.2.2.2])) (φ := (fun (g : ByteArray × ByteArray × Int × Int × Option Addr × Nat × Nat × List Lg × Int) => HrOk g.1 g.2.1 g.2.2.2.2.2.2.2.1 ∧ g.2.2.2.2.2.1 ≤ nx + 1 ∧ (g.2.2.2.2.2.2.2.2 = 0 → g.2.2.2.2.2.1 = nx + 1))) (Y := (fun (g : ByteArray × ByteArray × Int × Int × Option Addr × Nat × Nat × List Lg × Int) => fun wy => SlT lgEnc 9 100 wy g.2.2.2.2.1 g.2.2.2.2.2.1 g.2.2.2.2.2.2.2.1)) rfl cb165 rfl rfl (fun wx hm => (exchangeOf_lit kx dx fx tx lx Ax nx cx wx (hm.fact 2 rfl) hj2 (by omega) s94 ra rm rf qa qm qf rs rs (by omega) hz_rs hz_rs).mono fun _ _ ⟨E, k, d, f, t, A, n, c, l, he, hsl, hok, hn, hn0, hg⟩ => ⟨(k, d, f, t, A, n, c, l, E), he, ⟨hok, hn, hn0⟩, hg, hsl⟩) (fun _ => SlT.lasts2 rfl) ?_
                rintro ⟨k2, d2, f2, t2, A2, n2, c2, l2, E2⟩ hb2
                dsimp only at hb2 ⊢
                refine wl_nil ?_
                refine nx_wa0 (listed' := #[true, true, true, true, true, true, true, false, false, false, true, false, false]) rfl (fun _ hm => ⟨hm.blkI 2 rfl, hm.blkI 3 rfl, hm.blkI 4 rfl, hm.blkI 5 rfl, hm.blkI 6 rfl, hm.blkI 7 rfl, hm.blkI 8 rfl, hm.blkI 9 rfl, hm.fact 1 rfl, hm.fact 2 rfl, hm.fact 3 rfl, trivial⟩) ?_
                refine wa_take 7 rfl (by kernel_rfl) (by kernel_rfl) (by kernel_rfl) (listed' := #[true, true, true, true, true, true, true, true, false, false, true, false, false]) rfl (fun _ _ _ h => h) (fun _ hm => ⟨hm.blkI 2 rfl, hm.blkI 3 rfl, hm.blkI 4 rfl, hm.blkI 5 rfl, hm.blkI 6 rfl, hm.blkI 7 rfl, hm.blkI 8 rfl, hm.blkI 9 rfl, hm.fact 1 rfl, hm.fact 2 rfl, hm.fact 3 rfl, trivial⟩) (ov_move rfl) rfl ?_
                refine wa_take 8 rfl (by kernel_rfl) (by kernel_rfl) (by kernel_rfl) (listed' := #[true, true, true, true, true, true, true, true, true, false, true, false, false]) rfl (fun _ _ _ h => h) (fun _ hm => ⟨hm.blkI 2 rfl, hm.blkI 3 rfl, hm.blkI 4 rfl, hm.blkI 5 rfl, hm.blkI 6 rfl, hm.blkI 7 rfl, hm.blkI 8 rfl, hm.blkI 9 rfl, hm.fact 1 rfl, hm.fact 2 rfl, hm.fact 3 rfl, trivial⟩) (ov_extract rfl rfl) rfl ?_
                refine wa_take 9 rfl (by kernel_rfl) (by kernel_rfl) (by kernel_rfl) (listed' := #[true, true, true, true, true, true, true, true, true, true, true, false, false]) rfl (fun _ _ _ h => h) (fun _ hm => ⟨hm.blkI 2 rfl, hm.blkI 3 rfl, hm.blkI 4 rfl, hm.blkI 5 rfl, hm.blkI 6 rfl, hm.blkI 7 rfl, hm.blkI 8 rfl, hm.blkI 9 rfl, hm.fact 1 rfl, hm.fact 2 rfl, hm.fact 3 rfl, trivial⟩) (ov_extract rfl rfl) rfl ?_
                refine wa_all [11] (by kernel_rfl) rfl ⟨⟨_, rfl, ?_⟩, trivial⟩
                refine wl_stores (cs' := [.string k2, .string d2, .int .i64 f2, .int .i64 t2, .slice A2 n2 c2]) 0 rz95 rfl rfl rfl rfl rfl rfl rfl rfl ?_
                refine wl_nil ?_
                refine nx_wa0 (listed' := #[true, true, true, true, true, true, true, true, true, true, true, true, false]) rfl (fun _ hm => ⟨hm.blkI 2 rfl, hm.blkI 3 rfl, hm.blkI 4 rfl, hm.blkI 5 rfl, hm.blkI 6 rfl, hm.blkI 7 rfl, hm.blkI 8 rfl, hm.blkI 9 rfl, hm.fact 1 rfl, hm.fact 2 rfl, hm.fact 3 rfl, trivial⟩) ?_
                refine wa_take 12 rfl (by kernel_rfl) (by kernel_rfl) (by kernel_rfl) (listed' := #[true, true, true, true, true, true, true, true, true, true, true, true, true]) rfl (fun _ _ _ h => h) (fun _ hm => ⟨hm.blkI 2 rfl, hm.blkI 3 rfl, hm.blkI 4 rfl, hm.blkI 5 rfl, hm.blkI 6 rfl, hm.blkI 7 rfl, hm.blkI 8 rfl, hm.blkI 9 rfl, hm.fact 1 rfl, hm.fact 2 rfl, hm.fact 3 rfl, trivial⟩) (ov_assign rfl) rfl ?_
                refine wa_done (by kernel_rfl) ?_
                exact nx_meet (k2, d2, f2, t2, A2, n2, c2, l2, E2, g93) hb2 ⟨rfl, rfl, rfl, rfl, rfl, rfl, rfl, rfl, rfl, rfl, rfl, trivial⟩ (fun _ hm => hm.pick [2, 3, 4, 5, 6, 7, 8, 9, 0] [] [1, 2, 3, 0] rfl rfl)
            · refine wl_alloc zc95 rfl fun g95 => ?_
              refine wl_nil ?_
              refine nx_wa0 (listed' := #[true, true, true, false, false, true, false, false, false, false, true, false, false]) rfl (fun _ hm => ⟨hm.blkI 1 rfl, hm.blkI 2 rfl, hm.blkI 3 rfl, hm.blkI 4 rfl, hm.blkI 5 rfl, hm.blkI 6 rfl, hm.blkI 7 rfl, hm.blkI 8 rfl, hm.fact 0 rfl, hm.fact 1 rfl, hm.fact 2 rfl, trivial⟩) ?_
              refine wa_all [3] (by kernel_rfl) rfl ⟨⟨_, rfl, ?_⟩, trivial⟩
              refine wl_buildSlice (e := 9) (cs := [.string ⟨#[118, 49]⟩, .string ⟨#[118, 50]⟩, .string ⟨#[118, 51]⟩, .string ⟨#[118, 52]⟩]) rfl (by kernel_rfl) rfl fun g96 => ?_
              refine wl_nil ?_
              refine nx_wa0 (listed' := #[true, true, true, true, false, true, false, false, false, false, true, false, false]) rfl (fun _ hm => ⟨hm.blkI 2 rfl, hm.blkI 3 rfl, hm.blkI 4 rfl, hm.blkI 5 rfl, hm.blkI 6 rfl, hm.blkI 7 rfl, hm.blkI 8 rfl, hm.blkI 9 rfl, hm.fact 0 rfl, hm.fact 1 rfl, hm.fact 2 rfl, trivial⟩) ?_
              refine wa_all [4] (by kernel_rfl) rfl ⟨⟨_, rfl, ?_⟩, trivial⟩
              refine wl_got (γ := ByteArray) (val := fun v => .string v) (φ := fun v => v ∈ ([⟨#[118, 49]⟩, ⟨#[118, 50]⟩, ⟨#[118, 51]⟩, ⟨#[118, 52]⟩] : List ByteArray)) rfl cb66 rfl rfl rfl rfl (fun wx hm => (some_any [⟨#[118, 49]⟩, ⟨#[118, 50]⟩, ⟨#[118, 51]⟩, ⟨#[118, 52]⟩] _ _ _ wx B sb _ hm.k (by omega) (by simp) (by simp) (hm.blkI 0 rfl) (hm.neRow 0 rfl rfl))) fun s97 hs97 => ?_
              have zs97 : s97.size ≤ 100 := mem_sz hs97 (by decide)
              refine wl_nil ?_
              refine nx_wa0 (listed' := #[true, true, true, true, true, true, false, false, false, false, true, false, false]) rfl (fun _ hm => ⟨hm.blkI 2 rfl, hm.blkI 3 rfl, hm.blkI 4 rfl, hm.blkI 5 rfl, hm.blkI 6 rfl, hm.blkI 7 rfl, hm.blkI 8 rfl, hm.blkI 9 rfl, hm.fact 0 rfl, hm.fact 1 rfl, hm.fact 2 rfl, trivial⟩) ?_
              refine wa_all [6] (by kernel_rfl) rfl ⟨⟨_, rfl, ?_⟩, trivial⟩
              refine wl_callx (γ := ByteArray × ByteArray × Int × Int × Option Addr × Nat × Nat × List Lg × Int) (val := (fun (g : ByteArray × ByteArray × Int × Int × Option Addr × Nat × Nat × List Lg × Int) => .tuple #[.agg #[.string g.1, .string g.2.1, .int .i64 g.2.2.1, .int .i64 g.2.2.2.1, .slice g.2.2.2.2.1 g.2.2.2.2.2.1 g.2.2.2.2.2.2.1], .int .i64 g.2.2.2.2.2.2.2.2])) (φ := (fun (g : ByteArray × ByteArray × Int × Int × Option Addr × Nat × Nat × List Lg × Int) => HrOk g.1 g.2.1 g.2.2.2.2.2.2.2.1 ∧ g.2.2.2.2.2.1 ≤ nx + 1 ∧ (g.2.2.2.2.2.2.2.2 = 0 → g.2.2.2.2.2.1 = nx + 1))) (Y := (fun (g : ByteArray × ByteArray × Int × Int × Option Addr × Nat × Nat × List Lg × Int) => fun wy => SlT lgEnc 9 100 wy g.2.2.2.2.1 g.2.2.2.2.2.1 g.2.2.2.2.2.2.2.1)) rfl cb165 rfl rfl (fun wx hm => (exchangeOf_lit kx dx fx tx lx Ax nx cx wx (hm.fact 2 rfl) hj2 (by omega) s97 ra rm rf qa qm qf rs rs (by omega) hz_rs hz_rs).mono fun _ _ ⟨E, k, d, f, t, A, n, c, l, he, hsl, hok, hn, hn0, hg⟩ => ⟨(k, d, f, t, A, n, c, l, E), he, ⟨hok, hn, hn0⟩, hg, hsl⟩) (fun _ => SlT.lasts2 rfl) ?_
              rintro ⟨k2, d2, f2, t2, A2, n2, c2, l2, E2⟩ hb2
              dsimp only at hb2 ⊢
              refine wl_nil ?_
              refine nx_wa0 (listed' := #[true, true, true, true, true, true, true, false, false, false, true, false, false]) rfl (fun _ hm => ⟨hm.blkI 2 rfl, hm.blkI 3 rfl, hm.blkI 4 rfl, hm.blkI 5 rfl, hm.blkI 6 rfl, hm.blkI 7 rfl, hm.blkI 8 rfl, hm.blkI 9 rfl, hm.fact 1 rfl, hm.fact 2 rfl, hm.fact 3 rfl, trivial⟩) ?_
              refine wa_take 7 rfl (by kernel_rfl) (by kernel_rfl) (by kernel_rfl) (listed' := #[true, true, true, true, true, true, true, true, false, false, true, false, false]) rfl (fun _ _ _ h => h) (fun _ hm => ⟨hm.blkI 2 rfl, hm.blkI 3 rfl, hm.blkI 4 rfl, hm.blkI 5 rfl, hm.blkI 6 rfl, hm.blkI 7 rfl, hm.blkI 8 rfl, hm.blkI 9 rfl, hm.fact 1 rfl, hm.fact 2 rfl, hm.fact 3 rfl, trivial⟩) (ov_move rfl) rfl ?_
              refine wa_take 8 rfl (by kernel_rfl) (by kernel_rfl) (by kernel_rfl) (listed' := #[true, true, true, true, true, true, true, true, true, false, true, false, false]) rfl (fun _ _ _ h => h) (fun _ hm => ⟨hm.blkI 2 rfl, hm.blkI 3 rfl, hm.blkI 4 rfl, hm.blkI 5 rfl, hm.blkI 6 rfl, hm.blkI 7 rfl, hm.blkI 8 rfl, hm.blkI 9 rfl, hm.fact 1 rfl, hm.fact 2 rfl, hm.fact 3 rfl, trivial⟩) (ov_extract rfl rfl) rfl ?_
              refine wa_take 9 rfl (by kernel_rfl) (by kernel_rfl) (by kernel_rfl) (listed' := #[true, true, true, true, true, true, true, true, true, true, true, false, false]) rfl (fun _ _ _ h => h) (fun _ hm => ⟨hm.blkI 2 rfl, hm.blkI 3 rfl, hm.blkI 4 rfl, hm.blkI 5 rfl, hm.blkI 6 rfl, hm.blkI 7 rfl, hm.blkI 8 rfl, hm.blkI 9 rfl, hm.fact 1 rfl, hm.fact 2 rfl, hm.fact 3 rfl, trivial⟩) (ov_extract rfl rfl) rfl ?_
              refine wa_all [11] (by kernel_rfl) rfl ⟨⟨_, rfl, ?_⟩, trivial⟩
              refine wl_stores (cs' := [.string k2, .string d2, .int .i64 f2, .int .i64 t2, .slice A2 n2 c2]) 1 rz95 rfl rfl rfl rfl rfl rfl rfl rfl ?_
              refine wl_nil ?_
              refine nx_wa0 (listed' := #[true, true, true, true, true, true, true, true, true, true, true, true, false]) rfl (fun _ hm => ⟨hm.blkI 2 rfl, hm.blkI 3 rfl, hm.blkI 4 rfl, hm.blkI 5 rfl, hm.blkI 6 rfl, hm.blkI 7 rfl, hm.blkI 8 rfl, hm.blkI 9 rfl, hm.fact 1 rfl, hm.fact 2 rfl, hm.fact 3 rfl, trivial⟩) ?_
              refine wa_take 12 rfl (by kernel_rfl) (by kernel_rfl) (by kernel_rfl) (listed' := #[true, true, true, true, true, true, true, true, true, true, true, true, true]) rfl (fun _ _ _ h => h) (fun _ hm => ⟨hm.blkI 2 rfl, hm.blkI 3 rfl, hm.blkI 4 rfl, hm.blkI 5 rfl, hm.blkI 6 rfl, hm.blkI 7 rfl, hm.blkI 8 rfl, hm.blkI 9 rfl, hm.fact 1 rfl, hm.fact 2 rfl, hm.fact 3 rfl, trivial⟩) (ov_assign rfl) rfl ?_
              refine wa_done (by kernel_rfl) ?_
              exact nx_meet (k2, d2, f2, t2, A2, n2, c2, l2, E2, g95) hb2 ⟨rfl, rfl, rfl, rfl, rfl, rfl, rfl, rfl, rfl, rfl, rfl, trivial⟩ (fun _ hm => hm.pick [2, 3, 4, 5, 6, 7, 8, 9, 1] [] [1, 2, 3, 0] rfl rfl)
          · rintro ⟨k2, d2, f2, t2, A2, n2, c2, l2, E2, gi⟩ hinv
            replace hinv : HrOk k2 d2 l2 ∧ n2 ≤ nx + 1 ∧ (E2 = 0 → n2 = nx + 1) := hinv
            dsimp only
            refine gw_seq ?_
            refine gw_region ?_
            obtain ⟨hok2, hn2, hne2⟩ := hinv
            refine wl_ov (ov_move rfl) rfl ?_
            refine wl_ov (ov_eql rfl rfl) rfl ?_
            refine wl_nil ?_
            refine nx_then ?_
            refine gw_cond rfl (fun hh => ?_) (fun hh => ?_)
            · have hE2 : E2 = 0 := by simpa using hh
              clear hh
              refine gw_region ?_
              refine wl_ov (ov_loads rz95 rfl (fun _ hm => hm.blkI 8 rfl) rfl rfl) rfl ?_
              refine wl_stores (cs' := [.string k2, .string d2, .int .i64 f2, .int .i64 t2, .slice A2 n2 c2]) 7 rz95 rfl rfl rfl rfl rfl rfl rfl rfl ?_
              refine wl_nil ?_
              refine nx_blk_nrm ?_
              refine nx_then ?_
              refine gw_region ?_
              refine wl_ov (ov_add rfl rfl (by omega) (by omega)) rfl ?_
              refine wl_ov (ov_move rfl) rfl ?_
              refine wl_nil ?_
              exact nx_round (j + 1, at1, k2, d2, f2, t2, A2, n2, c2, l2) ⟨by dsimp only; omega, by dsimp only; omega, hok2, by dsimp only; have := hne2 hE2; omega, by dsimp only; omega⟩ (by dsimp only; omega) ⟨rfl, rfl, rfl, rfl, rfl, rfl, rfl, rfl, (some_int (by omega)), trivial⟩ (fun _ hm => (hm.more rfl (by first | omega | (dsimp only; omega))).pick [3, 4, 5, 6, 7] [] [3] rfl rfl)
            · have hE2 : ¬ (E2 = 0) := by simpa using hh
              clear hh
              refine gw_skip ?_
              refine nx_blk_nrm ?_
              refine nx_then ?_
              refine gw_region ?_
              refine wl_ov (ov_add rfl rfl (by omega) (by omega)) rfl ?_
              refine wl_ov (ov_move rfl) rfl ?_
              refine wl_nil ?_
              exact nx_round (j + 1, at1, kx, dx, fx, tx, Ax, nx, cx, lx) ⟨by dsimp only; omega, by dsimp only; omega, hj2, by dsimp only; omega, by dsimp only; omega⟩ (by dsimp only; omega) ⟨rfl, rfl, rfl, rfl, rfl, rfl, rfl, rfl, (some_int (by omega)), trivial⟩ (fun _ hm => (hm.more rfl (by first | omega | (dsimp only; omega))).pick [3, 4, 5, 6, 7] [] [2] rfl rfl)
        · have hj : ¬ (((j : Nat) : Int) < v82) := by simpa using hh
          clear hh
          refine gw_exit ?_
          refine nx_then_exit ?_
          refine nx_then_exit ?_
          refine nx_blk_here ?_
          refine nx_then ?_
          refine gw_seq ?_
          refine gw_seq ?_
          refine gw_region ?_
          refine wl_ov (ov_move rfl) rfl ?_
          refine wl_got (γ := Bool) (val := fun v => .bool v) (φ := fun v => True) rfl cb87 rfl rfl rfl rfl (fun wx hm => ((flip_any _ wx B sb _ hm.k (by omega) (by omega) (by omega)).mono fun _ _ ⟨v, he, hS, hg⟩ => ⟨v, trivial, he, hS, hg⟩)) fun f98 _ => ?_
          refine wl_ov (ov_un_not rfl) rfl ?_
          refine wl_nil ?_
          refine nx_then ?_
          refine gw_cond rfl (fun hh => ?_) (fun hh => ?_)
          · have hfl : f98 = false := by simpa using hh
            clear hh
            refine gw_seq ?_
            refine gw_region ?_
            refine wl_ov (ov_move rfl) rfl ?_
            refine wl_ov (ov_move rfl) rfl ?_
            refine wl_buildSlice (e := 3) (cs := [.int .i64 1, .int .i64 50, .int .i64 100, .int .i64 1440, .int .i64 1470, .int .i64 1471, .int .i64 1500, .int .i64 3000]) rfl (by kernel_rfl) rfl fun g99 => ?_
            refine wl_got (γ := Int) (val := fun v => .int .i64 v) (φ := fun v => v ∈ ([1, 50, 100, 1440, 1470, 1471, 1500, 3000] : List Int)) rfl cb23 rfl rfl rfl rfl (fun wx hm => (pick_any [1, 50, 100, 1440, 1470, 1471, 1500, 3000] _ _ _ wx B sb _ hm.k (by omega) (by simp) (by simp) (hm.blkI 0 rfl) (hm.neRow 0 rfl rfl))) fun v100 hv100 => ?_
            have bv100 : 1 ≤ v100 ∧ v100 ≤ 3000 := mem_rng hv100 (by decide)
            have bv1000 := bv100.1
            have bv1001 := bv100.2
            clear bv100
            refine wl_ov (ov_add rfl rfl (by omega) (by omega)) rfl ?_
            refine wl_ov (ov_assign rfl) rfl ?_
            refine wl_nil ?_
            refine nx_then ?_
            obtain ⟨at2, hat2⟩ : ∃ z : Int, z = mo + v100 := ⟨_, rfl⟩
            have hat2b : 0 ≤ at2 ∧ at2 ≤ 6000000 := by omega
            refine gw_set 10 (v' := .int .i64 at2) rfl (congrArg (Value.int .i64) hat2.symm) ?_
            refine gw_cut (γ := ByteArray × ByteArray × Int × Int × Option Addr × Nat × Nat × List Lg × Int × Nat) (I := (fun (g : ByteArray × ByteArray × Int × Int × Option Addr × Nat × Nat × List Lg × Int × Nat) => HrOk g.1 g.2.1 g.2.2.2.2.2.2.2.1 ∧ g.2.2.2.2.2.1 ≤ nx ∧ (g.2.2.2.2.2.2.2.2.1 = 0 → g.2.2.2.2.2.1 = nx))) (S' := (fun (g : ByteArray × ByteArray × Int × Int × Option Addr × Nat × Nat × List Lg × Int × Nat) => [(0, .pointer (some ⟨sb, 0, none⟩)), (1, .string key), (2, .int .i64 fr), (6, .pointer (some ⟨g1, 0, none⟩)), (8, .pointer (some ⟨gh, 0, none⟩)), (15, .pointer (some ⟨g.2.2.2.2.2.2.2.2.2, 0, none⟩)), (16, .int .i64 g.2.2.2.2.2.2.2.2.1), (19, .int .i64 ((i : Nat) : Int))])) (K' := (fun (g : ByteArray × ByteArray × Int × Int × Option Addr × Nat × Nat × List Lg × Int × Nat) => fun w => Strm 25 w B sb (m + 200 * i + 1 + 1 + 1 + 10 + 1 + 40 * j + 1 + 1 + 10))) (L' := (fun (g : ByteArray × ByteArray × Int × Int × Option Addr × Nat × Nat × List Lg × Int × Nat) => [(g99, 3, [.int .i64 1, .int .i64 50, .int .i64 100, .int .i64 1440, .int .i64 1470, .int .i64 1471, .int .i64 1500, .int .i64 3000]), (g81, 3, [.int .i64 0, .int .i64 0, .int .i64 1, .int .i64 2]), (g4, 56, [.int .i64 fr, .int .i64 (fr + v3)]), (g2, 3, [.int .i64 60, .int .i64 100, .int .i64 1440, .int .i64 2000, .int .i64 3000]), (g1, 95, [.string ⟨#[]⟩, .string ⟨#[]⟩, .int .i64 0, .int .i64 0, .slice none 0 0]), (gh, 95, [.string kx, .string dx, .int .i64 fx, .int .i64 tx, .slice Ax nx cx]), (g.2.2.2.2.2.2.2.2.2, 95, [.string g.1, .string g.2.1, .int .i64 g.2.2.1, .int .i64 g.2.2.2.1, .slice g.2.2.2.2.1 g.2.2.2.2.2.1 g.2.2.2.2.2.2.1])])) (O' := (fun (g : ByteArray × ByteArray × Int × Int × Option Addr × Nat × Nat × List Lg × Int × Nat) => [])) (X' := (fun (g : ByteArray × ByteArray × Int × Int × Option Addr × Nat × Nat × List Lg × Int × Nat) => [fun wy => SlT lgEnc 9 100 wy Ax nx lx, fun wy => SlT lgEnc 9 100 wy g.2.2.2.2.1 g.2.2.2.2.2.1 g.2.2.2.2.2.2.2.1])) ?_ ?_
            · refine gw_draw (fun wz => Blk wz g99 3 [.int .i64 1, .int .i64 50, .int .i64 100, .int .i64 1440, .int .i64 1470, .int .i64 1471, .int .i64 1500, .int .i64 3000] ∧ Blk wz g81 3 [.int .i64 0, .int .i64 0, .int .i64 1, .int .i64 2] ∧ Blk wz g4 56 [.int .i64 fr, .int .i64 (fr + v3)] ∧ Blk wz g2 3 [.int .i64 60, .int .i64 100, .int .i64 1440, .int .i64 2000, .int .i64 3000] ∧ Blk wz g1 95 [.string ⟨#[]⟩, .string ⟨#[]⟩, .int .i64 0, .int .i64 0, .slice none 0 0] ∧ Blk wz gh 95 [.string kx, .string dx, .int .i64 fx, .int .i64 tx, .slice Ax nx cx] ∧ (fun wy => SlT lgEnc 9 100 wy Ax nx lx) wz ∧ True) mixed ?_
              refine wa_take 0 rfl (by kernel_rfl) (by kernel_rfl) (by kernel_rfl) (listed' := #[true, false, false, false, false, false, false, false, false, false, false]) rfl (fun _ _ _ h => h) (fun _ hm => ⟨hm.blkI 0 rfl, hm.blkI 1 rfl, hm.blkI 2 rfl, hm.blkI 3 rfl, hm.blkI 4 rfl, hm.blkI 5 rfl, hm.fact 0 rfl, trivial⟩) (ov_loads rz95 rfl (fun _ hm => hm.2.2.2.2.2.1) rfl rfl) rfl ?_
              refine wa_take 1 rfl (by kernel_rfl) (by kernel_rfl) (by kernel_rfl) (listed' := #[true, true, false, false, false, false, false, false, false, false, false]) rfl (fun _ _ _ h => h) (fun _ hm => ⟨hm.blkI 0 rfl, hm.blkI 1 rfl, hm.blkI 2 rfl, hm.blkI 3 rfl, hm.blkI 4 rfl, hm.blkI 5 rfl, hm.fact 0 rfl, trivial⟩) (ov_move rfl) rfl ?_
              refine wa_take 2 rfl (by kernel_rfl) (by kernel_rfl) (by kernel_rfl) (listed' := #[true, true, true, false, false, false, false, false, false, false, false]) rfl (fun _ _ _ h => h) (fun _ hm => ⟨hm.blkI 0 rfl, hm.blkI 1 rfl, hm.blkI 2 rfl, hm.blkI 3 rfl, hm.blkI 4 rfl, hm.blkI 5 rfl, hm.fact 0 rfl, trivial⟩) (ov_move rfl) rfl ?_
              refine wa_all [3, 8] (by kernel_rfl) rfl ⟨⟨_, rfl, ?_⟩, ⟨_, rfl, ?_⟩, trivial⟩
              · refine wl_calls (γ := Int × ByteArray × Int × Int) (val := (fun (g : Int × ByteArray × Int × Int) => .agg #[.int .i64 g.1, .string g.2.1, .int .i64 g.2.2.1, .int .i64 g.2.2.2])) (φ := (fun (g : Int × ByteArray × Int × Int) => RdOk ⟨g.1, g.2.1, g.2.2.1, g.2.2.2⟩)) (Y := (fun (g : Int × ByteArray × Int × Int) => fun _ => True)) (m' := m + 200 * i + 1 + 1 + 1 + 10 + 1 + 40 * j + 1 + 1 + 10) rfl cb164 rfl rfl rfl rfl (fun wx hm => (greading_any at2 wx B sb _ hm.k (by omega) (by omega) (by omega)).mono fun _ _ ⟨r, hok, he, hS, hg⟩ => ⟨(r.at_, r.st, r.meter, r.fuel), he, hok, hS, hg, trivial⟩) (fun _ => Lasts2.true_) ?_
                rintro ⟨ra, rs, rm, rf⟩ hr_ra
                dsimp only at hr_ra ⊢
                have hz_rs : rs.size ≤ 1000000 := hr_ra
                refine wl_nil ?_
                refine nx_wa0 (listed' := #[true, true, true, true, false, false, false, false, false, false, false]) rfl (fun _ hm => ⟨hm.blkI 0 rfl, hm.blkI 1 rfl, hm.blkI 2 rfl, hm.blkI 3 rfl, hm.blkI 4 rfl, hm.blkI 5 rfl, hm.fact 1 rfl, trivial⟩) ?_
                refine wa_all [4, 8] (by kernel_rfl) rfl ⟨⟨_, rfl, ?_⟩, ⟨_, rfl, ?_⟩, trivial⟩
                · refine wl_callx (γ := ByteArray × ByteArray × Int × Int × Option Addr × Nat × Nat × List Lg × Int) (val := (fun (g : ByteArray × ByteArray × Int × Int × Option Addr × Nat × Nat × List Lg × Int) => .tuple #[.agg #[.string g.1, .string g.2.1, .int .i64 g.2.2.1, .int .i64 g.2.2.2.1, .slice g.2.2.2.2.1 g.2.2.2.2.2.1 g.2.2.2.2.2.2.1], .int .i64 g.2.2.2.2.2.2.2.2])) (φ := (fun (g : ByteArray × ByteArray × Int × Int × Option Addr × Nat × Nat × List Lg × Int) => HrOk g.1 g.2.1 g.2.2.2.2.2.2.2.1 ∧ g.2.2.2.2.2.1 ≤ nx ∧ (g.2.2.2.2.2.2.2.2 = 0 → g.2.2.2.2.2.1 = nx))) (Y := (fun (g : ByteArray × ByteArray × Int × Int × Option Addr × Nat × Nat × List Lg × Int) => fun wy => SlT lgEnc 9 100 wy g.2.2.2.2.1 g.2.2.2.2.2.1 g.2.2.2.2.2.2.2.1)) rfl cb166 rfl rfl (fun wx hm => (closeOf_gen kx dx fx tx lx Ax nx cx wx (hm.fact 1 rfl) hj2 (by omega) ⟨ra, rs, rm, rf⟩ hr_ra).mono fun _ _ ⟨E, k, d, f, t, A, n, c, l, he, hsl, hok, hn, hn0, hg⟩ => ⟨(k, d, f, t, A, n, c, l, E), he, ⟨hok, hn, hn0⟩, hg, hsl⟩) (fun _ => SlT.lasts2 rfl) ?_
                  rintro ⟨k3, d3, f3, t3, A3, n3, c3, l3, E3⟩ hb3
                  dsimp only at hb3 ⊢
                  refine wl_nil ?_
                  refine nx_wa0 (listed' := #[true, true, true, true, true, false, false, false, false, false, false]) rfl (fun _ hm => ⟨hm.blkI 0 rfl, hm.blkI 1 rfl, hm.blkI 2 rfl, hm.blkI 3 rfl, hm.blkI 4 rfl, hm.blkI 5 rfl, hm.fact 2 rfl, trivial⟩) ?_
                  refine wa_take 5 rfl (by kernel_rfl) (by kernel_rfl) (by kernel_rfl) (listed' := #[true, true, true, true, true, true, false, false, false, false, false]) rfl (fun _ _ _ h => h) (fun _ hm => ⟨hm.blkI 0 rfl, hm.blkI 1 rfl, hm.blkI 2 rfl, hm.blkI 3 rfl, hm.blkI 4 rfl, hm.blkI 5 rfl, hm.fact 2 rfl, trivial⟩) (ov_move rfl) rfl ?_
                  refine wa_take 6 rfl (by kernel_rfl) (by kernel_rfl) (by kernel_rfl) (listed' := #[true, true, true, true, true, true, true, false, false, false, false]) rfl (fun _ _ _ h => h) (fun _ hm => ⟨hm.blkI 0 rfl, hm.blkI 1 rfl, hm.blkI 2 rfl, hm.blkI 3 rfl, hm.blkI 4 rfl, hm.blkI 5 rfl, hm.fact 2 rfl, trivial⟩) (ov_extract rfl rfl) rfl ?_
                  refine wa_take 7 rfl (by kernel_rfl) (by kernel_rfl) (by kernel_rfl) (listed' := #[true, true, true, true, true, true, true, true, false, false, false]) rfl (fun _ _ _ h => h) (fun _ hm => ⟨hm.blkI 0 rfl, hm.blkI 1 rfl, hm.blkI 2 rfl, hm.blkI 3 rfl, hm.blkI 4 rfl, hm.blkI 5 rfl, hm.fact 2 rfl, trivial⟩) (ov_extract rfl rfl) rfl ?_
                  refine wa_all [8] (by kernel_rfl) rfl ⟨⟨_, rfl, ?_⟩, trivial⟩
                  refine wl_alloc zc95 rfl fun g102 => ?_
                  refine wl_nil ?_
                  refine nx_wa0 (listed' := #[true, true, true, true, true, true, true, true, true, false, false]) rfl (fun _ hm => ⟨hm.blkI 1 rfl, hm.blkI 2 rfl, hm.blkI 3 rfl, hm.blkI 4 rfl, hm.blkI 5 rfl, hm.blkI 6 rfl, hm.fact 2 rfl, trivial⟩) ?_
                  refine wa_all [9] (by kernel_rfl) rfl ⟨⟨_, rfl, ?_⟩, trivial⟩
                  refine wl_stores (cs' := [.string k3, .string d3, .int .i64 f3, .int .i64 t3, .slice A3 n3 c3]) 0 rz95 rfl rfl rfl rfl rfl rfl rfl rfl ?_
                  refine wl_nil ?_
                  refine nx_wa0 (listed' := #[true, true, true, true, true, true, true, true, true, true, false]) rfl (fun _ hm => ⟨hm.blkI 1 rfl, hm.blkI 2 rfl, hm.blkI 3 rfl, hm.blkI 4 rfl, hm.blkI 5 rfl, hm.blkI 6 rfl, hm.fact 2 rfl, trivial⟩) ?_
                  refine wa_take 10 rfl (by kernel_rfl) (by kernel_rfl) (by kernel_rfl) (listed' := #[true, true, true, true, true, true, true, true, true, true, true]) rfl (fun _ _ _ h => h) (fun _ hm => ⟨hm.blkI 1 rfl, hm.blkI 2 rfl, hm.blkI 3 rfl, hm.blkI 4 rfl, hm.blkI 5 rfl, hm.blkI 6 rfl, hm.fact 2 rfl, trivial⟩) (ov_assign rfl) rfl ?_
                  refine wa_done (by kernel_rfl) ?_
                  exact nx_meet (k3, d3, f3, t3, A3, n3, c3, l3, E3, g102) hb3 ⟨rfl, rfl, rfl, rfl, rfl, rfl, rfl, rfl, trivial⟩ (fun _ hm => hm.pick [1, 2, 3, 4, 5, 6, 0] [] [2, 0] rfl rfl)
                · refine wl_alloc zc95 rfl fun g103 => ?_
                  refine wl_nil ?_
                  refine nx_wa0 (listed' := #[true, true, true, true, false, false, false, false, true, false, false]) rfl (fun _ hm => ⟨hm.blkI 1 rfl, hm.blkI 2 rfl, hm.blkI 3 rfl, hm.blkI 4 rfl, hm.blkI 5 rfl, hm.blkI 6 rfl, hm.fact 1 rfl, trivial⟩) ?_
                  refine wa_all [4] (by kernel_rfl) rfl ⟨⟨_, rfl, ?_⟩, trivial⟩
                  refine wl_callx (γ := ByteArray × ByteArray × Int × Int × Option Addr × Nat × Nat × List Lg × Int) (val := (fun (g : ByteArray × ByteArray × Int × Int × Option Addr × Nat × Nat × List Lg × Int) => .tuple #[.agg #[.string g.1, .string g.2.1, .int .i64 g.2.2.1, .int .i64 g.2.2.2.1, .slice g.2.2.2.2.1 g.2.2.2.2.2.1 g.2.2.2.2.2.2.1], .int .i64 g.2.2.2.2.2.2.2.2])) (φ := (fun (g : ByteArray × ByteArray × Int × Int × Option Addr × Nat × Nat × List Lg × Int) => HrOk g.1 g.2.1 g.2.2.2.2.2.2.2.1 ∧ g.2.2.2.2.2.1 ≤ nx ∧ (g.2.2.2.2.2.2.2.2 = 0 → g.2.2.2.2.2.1 = nx))) (Y := (fun (g : ByteArray × ByteArray × Int × Int × Option Addr × Nat × Nat × List Lg × Int) => fun wy => SlT lgEnc 9 100 wy g.2.2.2.2.1 g.2.2.2.2.2.1 g.2.2.2.2.2.2.2.1)) rfl cb166 rfl rfl (fun wx hm => (closeOf_gen kx dx fx tx lx Ax nx cx wx (hm.fact 1 rfl) hj2 (by omega) ⟨ra, rs, rm, rf⟩ hr_ra).mono fun _ _ ⟨E, k, d, f, t, A, n, c, l, he, hsl, hok, hn, hn0, hg⟩ => ⟨(k, d, f, t, A, n, c, l, E), he, ⟨hok, hn, hn0⟩, hg, hsl⟩) (fun _ => SlT.lasts2 rfl) ?_
                  rintro ⟨k3, d3, f3, t3, A3, n3, c3, l3, E3⟩ hb3
                  dsimp only at hb3 ⊢
                  refine wl_nil ?_
                  refine nx_wa0 (listed' := #[true, true, true, true, true, false, false, false, true, false, false]) rfl (fun _ hm => ⟨hm.blkI 1 rfl, hm.blkI 2 rfl, hm.blkI 3 rfl, hm.blkI 4 rfl, hm.blkI 5 rfl, hm.blkI 6 rfl, hm.fact 2 rfl, trivial⟩) ?_
                  refine wa_take 5 rfl (by kernel_rfl) (by kernel_rfl) (by kernel_rfl) (listed' := #[true, true, true, true, true, true, false, false, true, false, false]) rfl (fun _ _ _ h => h) (fun _ hm => ⟨hm.blkI 1 rfl, hm.blkI 2 rfl, hm.blkI 3 rfl, hm.blkI 4 rfl, hm.blkI 5 rfl, hm.blkI 6 rfl, hm.fact 2 rfl, trivial⟩) (ov_move rfl) rfl ?_
                  refine wa_take 6 rfl (by kernel_rfl) (by kernel_rfl) (by kernel_rfl) (listed' := #[true, true, true, true, true, true, true, false, true, false, false]) rfl (fun _ _ _ h => h) (fun _ hm => ⟨hm.blkI 1 rfl, hm.blkI 2 rfl, hm.blkI 3 rfl, hm.blkI 4 rfl, hm.blkI 5 rfl, hm.blkI 6 rfl, hm.fact 2 rfl, trivial⟩) (ov_extract rfl rfl) rfl ?_
                  refine wa_take 7 rfl (by kernel_rfl) (by kernel_rfl) (by kernel_rfl) (listed' := #[true, true, true, true, true, true, true, true, true, false, false]) rfl (fun _ _ _ h => h) (fun _ hm => ⟨hm.blkI 1 rfl, hm.blkI 2 rfl, hm.blkI 3 rfl, hm.blkI 4 rfl, hm.blkI 5 rfl, hm.blkI 6 rfl, hm.fact 2 rfl, trivial⟩) (ov_extract rfl rfl) rfl ?_
                  refine wa_all [9] (by kernel_rfl) rfl ⟨⟨_, rfl, ?_⟩, trivial⟩
                  refine wl_stores (cs' := [.string k3, .string d3, .int .i64 f3, .int .i64 t3, .slice A3 n3 c3]) 0 rz95 rfl rfl rfl rfl rfl rfl rfl rfl ?_
                  refine wl_nil ?_
                  refine nx_wa0 (listed' := #[true, true, true, true, true, true, true, true, true, true, false]) rfl (fun _ hm => ⟨hm.blkI 1 rfl, hm.blkI 2 rfl, hm.blkI 3 rfl, hm.blkI 4 rfl, hm.blkI 5 rfl, hm.blkI 6 rfl, hm.fact 2 rfl, trivial⟩) ?_
                  refine wa_take 10 rfl (by kernel_rfl) (by kernel_rfl) (by kernel_rfl) (listed' := #[true, true, true, true, true, true, true, true, true, true, true]) rfl (fun _ _ _ h => h) (fun _ hm => ⟨hm.blkI 1 rfl, hm.blkI 2 rfl, hm.blkI 3 rfl, hm.blkI 4 rfl, hm.blkI 5 rfl, hm.blkI 6 rfl, hm.fact 2 rfl, trivial⟩) (ov_assign rfl) rfl ?_
                  refine wa_done (by kernel_rfl) ?_
                  exact nx_meet (k3, d3, f3, t3, A3, n3, c3, l3, E3, g103) hb3 ⟨rfl, rfl, rfl, rfl, rfl, rfl, rfl, rfl, trivial⟩ (fun _ hm => hm.pick [1, 2, 3, 4, 5, 6, 0] [] [2, 0] rfl rfl)
              · refine wl_alloc zc95 rfl fun g104 => ?_
                refine wl_nil ?_
                refine nx_wa0 (listed' := #[true, true, true, false, false, false, false, false, true, false, false]) rfl (fun _ hm => ⟨hm.blkI 1 rfl, hm.blkI 2 rfl, hm.blkI 3 rfl, hm.blkI 4 rfl, hm.blkI 5 rfl, hm.blkI 6 rfl, hm.fact 0 rfl, trivial⟩) ?_
                refine wa_all [3] (by kernel_rfl) rfl ⟨⟨_, rfl, ?_⟩, trivial⟩
                refine wl_calls (γ := Int × ByteArray × Int × Int) (val := (fun (g : Int × ByteArray × Int × Int) => .agg #[.int .i64 g.1, .string g.2.1, .int .i64 g.2.2.1, .int .i64 g.2.2.2])) (φ := (fun (g : Int × ByteArray × Int × Int) => RdOk ⟨g.1, g.2.1, g.2.2.1, g.2.2.2⟩)) (Y := (fun (g : Int × ByteArray × Int × Int) => fun _ => True)) (m' := m + 200 * i + 1 + 1 + 1 + 10 + 1 + 40 * j + 1 + 1 + 10) rfl cb164 rfl rfl rfl rfl (fun wx hm => (greading_any at2 wx B sb _ hm.k (by omega) (by omega) (by omega)).mono fun _ _ ⟨r, hok, he, hS, hg⟩ => ⟨(r.at_, r.st, r.meter, r.fuel), he, hok, hS, hg, trivial⟩) (fun _ => Lasts2.true_) ?_
                rintro ⟨ra, rs, rm, rf⟩ hr_ra
                dsimp only at hr_ra ⊢
                have hz_rs : rs.size ≤ 1000000 := hr_ra
                refine wl_nil ?_
                refine nx_wa0 (listed' := #[true, true, true, true, false, false, false, false, true, false, false]) rfl (fun _ hm => ⟨hm.blkI 1 rfl, hm.blkI 2 rfl, hm.blkI 3 rfl, hm.blkI 4 rfl, hm.blkI 5 rfl, hm.blkI 6 rfl, hm.fact 1 rfl, trivial⟩) ?_
                refine wa_all [4] (by kernel_rfl) rfl ⟨⟨_, rfl, ?_⟩, trivial⟩
                refine wl_callx (γ := ByteArray × ByteArray × Int × Int × Option Addr × Nat × Nat × List Lg × Int) (val := (fun (g : ByteArray × ByteArray × Int × Int × Option Addr × Nat × Nat × List Lg × Int) => .tuple #[.agg #[.string g.1, .string g.2.1, .int .i64 g.2.2.1, .int .i64 g.2.2.2.1, .slice g.2.2.2.2.1 g.2.2.2.2.2.1 g.2.2.2.2.2.2.1], .int .i64 g.2.2.2.2.2.2.2.2])) (φ := (fun (g : ByteArray × ByteArray × Int × Int × Option Addr × Nat × Nat × List Lg × Int) => HrOk g.1 g.2.1 g.2.2.2.2.2.2.2.1 ∧ g.2.2.2.2.2.1 ≤ nx ∧ (g.2.2.2.2.2.2.2.2 = 0 → g.2.2.2.2.2.1 = nx))) (Y := (fun (g : ByteArray × ByteArray × Int × Int × Option Addr × Nat × Nat × List Lg × Int) => fun wy => SlT lgEnc 9 100 wy g.2.2.2.2.1 g.2.2.2.2.2.1 g.2.2.2.2.2.2.2.1)) rfl cb166 rfl rfl (fun wx hm => (closeOf_gen kx dx fx tx lx Ax nx cx wx (hm.fact 1 rfl) hj2 (by omega) ⟨ra, rs, rm, rf⟩ hr_ra).mono fun _ _ ⟨E, k, d, f, t, A, n, c, l, he, hsl, hok, hn, hn0, hg⟩ => ⟨(k, d, f, t, A, n, c, l, E), he, ⟨hok, hn, hn0⟩, hg, hsl⟩) (fun _ => SlT.lasts2 rfl) ?_
                rintro ⟨k3, d3, f3, t3, A3, n3, c3, l3, E3⟩ hb3
                dsimp only at hb3 ⊢
                refine wl_nil ?_
                refine nx_wa0 (listed' := #[true, true, true, true, true, false, false, false, true, false, false]) rfl (fun _ hm => ⟨hm.blkI 1 rfl, hm.blkI 2 rfl, hm.blkI 3 rfl, hm.blkI 4 rfl, hm.blkI 5 rfl, hm.blkI 6 rfl, hm.fact 2 rfl, trivial⟩) ?_
                refine wa_take 5 rfl (by kernel_rfl) (by kernel_rfl) (by kernel_rfl) (listed' := #[true, true, true, true, true, true, false, false, true, false, false]) rfl (fun _ _ _ h => h) (fun _ hm => ⟨hm.blkI 1 rfl, hm.blkI 2 rfl, hm.blkI 3 rfl, hm.blkI 4 rfl, hm.blkI 5 rfl, hm.blkI 6 rfl, hm.fact 2 rfl, trivial⟩) (ov_move rfl) rfl ?_
                refine wa_take 6 rfl (by kernel_rfl) (by kernel_rfl) (by kernel_rfl) (listed' := #[true, true, true, true, true, true, true, false, true, false, false]) rfl (fun _ _ _ h => h) (fun _ hm => ⟨hm.blkI 1 rfl, hm.blkI 2 rfl, hm.blkI 3 rfl, hm.blkI 4 rfl, hm.blkI 5 rfl, hm.blkI 6 rfl, hm.fact 2 rfl, trivial⟩) (ov_extract rfl rfl) rfl ?_
                refine wa_take 7 rfl (by kernel_rfl) (by kernel_rfl) (by kernel_rfl) (listed' := #[true, true, true, true, true, true, true, true, true, false, false]) rfl (fun _ _ _ h => h) (fun _ hm => ⟨hm.blkI 1 rfl, hm.blkI 2 rfl, hm.blkI 3 rfl, hm.blkI 4 rfl, hm.blkI 5 rfl, hm.blkI 6 rfl, hm.fact 2 rfl, trivial⟩) (ov_extract rfl rfl) rfl ?_
                refine wa_all [9] (by kernel_rfl) rfl ⟨⟨_, rfl, ?_⟩, trivial⟩
                refine wl_stores (cs' := [.string k3, .string d3, .int .i64 f3, .int .i64 t3, .slice A3 n3 c3]) 0 rz95 rfl rfl rfl rfl rfl rfl rfl rfl ?_
                refine wl_nil ?_
                refine nx_wa0 (listed' := #[true, true, true, true, true, true, true, true, true, true, false]) rfl (fun _ hm => ⟨hm.blkI 1 rfl, hm.blkI 2 rfl, hm.blkI 3 rfl, hm.blkI 4 rfl, hm.blkI 5 rfl, hm.blkI 6 rfl, hm.fact 2 rfl, trivial⟩) ?_
                refine wa_take 10 rfl (by kernel_rfl) (by kernel_rfl) (by kernel_rfl) (listed' := #[true, true, true, true, true, true, true, true, true, true, true]) rfl (fun _ _ _ h => h) (fun _ hm => ⟨hm.blkI 1 rfl, hm.blkI 2 rfl, hm.blkI 3 rfl, hm.blkI 4 rfl, hm.blkI 5 rfl, hm.blkI 6 rfl, hm.fact 2 rfl, trivial⟩) (ov_assign rfl) rfl ?_
                refine wa_done (by kernel_rfl) ?_
                exact nx_meet (k3, d3, f3, t3, A3, n3, c3, l3, E3, g104) hb3 ⟨rfl, rfl, rfl, rfl, rfl, rfl, rfl, rfl, trivial⟩ (fun _ hm => hm.pick [1, 2, 3, 4, 5, 6, 0] [] [2, 0] rfl rfl)
            · rintro ⟨k3, d3, f3, t3, A3, n3, c3, l3, E3, gj⟩ hinv
              replace hinv : HrOk k3 d3 l3 ∧ n3 ≤ nx ∧ (E3 = 0 → n3 = nx) := hinv
              dsimp only
              refine gw_seq ?_
              refine gw_region ?_
              obtain ⟨hok3, hn3, hne3⟩ := hinv
              refine wl_ov (ov_move rfl) rfl ?_
              refine wl_ov (ov_eql rfl rfl) rfl ?_
              refine wl_nil ?_
              refine nx_then ?_
              refine gw_cond rfl (fun hh => ?_) (fun hh => ?_)
              · have hE3 : E3 = 0 := by simpa using hh
                clear hh
                refine gw_region ?_
                refine wl_ov (ov_loads rz95 rfl (fun _ hm => hm.blkI 6 rfl) rfl rfl) rfl ?_
                refine wl_stores (cs' := [.string k3, .string d3, .int .i64 f3, .int .i64 t3, .slice A3 n3 c3]) 5 rz95 rfl rfl rfl rfl rfl rfl rfl rfl ?_
                refine wl_nil ?_
                refine nx_then ?_
                refine gw_seq ?_
                refine gw_region ?_
                refine wl_ov (ov_loads rz95 rfl (fun _ hm => hm.blkI 5 rfl) rfl rfl) rfl ?_
                refine wl_stores (cs' := [.string k3, .string d3, .int .i64 f3, .int .i64 t3, .slice A3 n3 c3]) 4 rz95 rfl rfl rfl rfl rfl rfl rfl rfl ?_
                refine wl_nil ?_
                refine nx_then ?_
                refine gw_ret ?_
                refine nx_blk_ret ?_
                refine nx_then_ret ?_
                refine nx_then_ret ?_
                refine nx_blk_ret ?_
                refine nx_then_ret ?_
                have hn4 := hne3 hE3
                refine nx_retc 4 rfl rz95 rfl rfl rfl fun wx hm => ?_
                exact ⟨k3, d3, f3, t3, A3, n3, c3, l3, rfl, (hm.fact 1 rfl), hok3, by omega, by omega, hm.k.more (by omega), hm.g⟩
              · have hE3 : ¬ (E3 = 0) := by simpa using hh
                clear hh
                refine gw_skip ?_
                refine nx_then ?_
                refine gw_seq ?_
                refine gw_region ?_
                refine wl_ov (ov_loads rz95 rfl (fun _ hm => hm.blkI 5 rfl) rfl rfl) rfl ?_
                refine wl_stores (cs' := [.string kx, .string dx, .int .i64 fx, .int .i64 tx, .slice Ax nx cx]) 4 rz95 rfl rfl rfl rfl rfl rfl rfl rfl ?_
                refine wl_nil ?_
                refine nx_then ?_
                refine gw_ret ?_
                refine nx_blk_ret ?_
                refine nx_then_ret ?_
                refine nx_then_ret ?_
                refine nx_blk_ret ?_
                refine nx_then_ret ?_
                refine nx_retc 4 rfl rz95 rfl rfl rfl fun wx hm => ?_
                exact ⟨kx, dx, fx, tx, Ax, nx, cx, lx, rfl, (hm.fact 0 rfl), hj2, by omega, by omega, hm.k.more (by omega), hm.g⟩
          · have hfl : f98 = true := by simpa using hh
            clear hh
            refine gw_skip ?_
            refine nx_then ?_
            refine gw_seq ?_
            refine gw_region ?_
            refine wl_ov (ov_loads rz95 rfl (fun _ hm => hm.blkI 4 rfl) rfl rfl) rfl ?_
            refine wl_stores (cs' := [.string kx, .string dx, .int .i64 fx, .int .i64 tx, .slice Ax nx cx]) 3 rz95 rfl rfl rfl rfl rfl rfl rfl rfl ?_
            refine wl_nil ?_
            refine nx_then ?_
            refine gw_ret ?_
            refine nx_blk_ret ?_
            refine nx_then_ret ?_
            refine nx_then_ret ?_
            refine nx_blk_ret ?_
            refine nx_then_ret ?_
            refine nx_retc 3 rfl rz95 rfl rfl rfl fun wx hm => ?_
            exact ⟨kx, dx, fx, tx, Ax, nx, cx, lx, rfl, (hm.fact 0 rfl), hj2, by omega, by omega, hm.k.more (by omega), hm.g⟩
  · have hi : ¬ (((i : Nat) : Int) < 6) := by simpa using hh
    clear hh
    refine gw_exit ?_
    refine nx_then_exit ?_
    refine nx_then_exit ?_
    refine nx_blk_here ?_
    refine nx_then ?_
    refine gw_seq ?_
    refine gw_region ?_
    refine wl_ov (ov_move rfl) rfl ?_
    refine wl_ov (ov_move rfl) rfl ?_
    refine wl_ov (ov_move rfl) rfl ?_
    refine wl_ov (ov_add rfl rfl (by omega) (by omega)) rfl ?_
    refine wl_ov (ov_build (cs := [.int .i64 fr, .int .i64 (fr + 60)]) rfl (by kernel_rfl)) rfl ?_
    refine wl_ov (ov_move rfl) rfl ?_
    refine wl_ov (ov_build (cs := [.int .i64 fr, .string ⟨#[115, 49]⟩, .int .i64 0, .int .i64 0]) rfl (by kernel_rfl)) rfl ?_
    refine wl_callx (γ := ByteArray × ByteArray × Int × Int × Option Addr × Nat × Nat × List Lg) (val := (fun (g : ByteArray × ByteArray × Int × Int × Option Addr × Nat × Nat × List Lg) => .tuple #[.agg #[.string g.1, .string g.2.1, .int .i64 g.2.2.1, .int .i64 g.2.2.2.1, .slice g.2.2.2.2.1 g.2.2.2.2.2.1 g.2.2.2.2.2.2.1], .int .i64 0])) (φ := (fun (g : ByteArray × ByteArray × Int × Int × Option Addr × Nat × Nat × List Lg) => HrOk g.1 g.2.1 g.2.2.2.2.2.2.2 ∧ g.2.2.2.2.2.1 ≤ 1 ∧ (0 = 0 → g.2.2.2.2.2.1 = 1))) (Y := (fun (g : ByteArray × ByteArray × Int × Int × Option Addr × Nat × Nat × List Lg) => fun wy => SlT lgEnc 9 100 wy g.2.2.2.2.1 g.2.2.2.2.2.1 g.2.2.2.2.2.2.2)) rfl cb163 rfl rfl (fun wx hm => ((by have h := startOf_lit key ⟨#[97, 110, 110]⟩ fr (fr + 60) ⟨#[118, 49]⟩ fr 0 0 ⟨#[115, 49]⟩ wx (by omega) (by decide) (by decide) (by decide); rw [fall_right hkb hf0 hf1] at h; exact h : Calls _ _ _ wx (HireBack wx 1 0))).mono fun _ _ ⟨k, d, f, t, A, n, c, l, he, hsl, hok, hn, hn0, hg⟩ => ⟨(k, d, f, t, A, n, c, l), he, ⟨hok, hn, hn0⟩, hg, hsl⟩) (fun _ => SlT.lasts2 rfl) ?_
    rintro ⟨k9, d9, f9, t9, A9, n9, c9, l9⟩ hb9
    dsimp only at hb9 ⊢
    have hn9 := hb9.2.2 rfl
    refine wl_ov (ov_move rfl) rfl ?_
    refine wl_ov (ov_extract rfl rfl) rfl ?_
    refine wl_ov (ov_extract rfl rfl) rfl ?_
    refine wl_alloc zc95 rfl fun g106 => ?_
    refine wl_stores (cs' := [.string k9, .string d9, .int .i64 f9, .int .i64 t9, .slice A9 n9 c9]) 0 rz95 rfl rfl rfl rfl rfl rfl rfl rfl ?_
    refine wl_ov (ov_assign rfl) rfl ?_
    refine wl_nil ?_
    refine nx_then ?_
    refine gw_seq ?_
    refine gw_region ?_
    refine wl_ov (ov_loads rz95 rfl (fun _ hm => hm.blkI 0 rfl) rfl rfl) rfl ?_
    refine wl_stores (cs' := [.string k9, .string d9, .int .i64 f9, .int .i64 t9, .slice A9 n9 c9]) 1 rz95 rfl rfl rfl rfl rfl rfl rfl rfl ?_
    refine wl_nil ?_
    refine nx_then ?_
    refine gw_ret ?_
    refine nx_retc 1 rfl rz95 rfl rfl rfl fun wx hm => ?_
    exact ⟨k9, d9, f9, t9, A9, n9, c9, l9, rfl, (hm.fact 0 rfl), hb9.1, by omega, by omega, hm.k.more (by omega), hm.g⟩

end Go.Proofs.YtmpomocahgcebaaDoor
/- The walk of the generator Hire (by gen_hire.py). -/
namespace Go.Proofs.YtmpomocahgcebaaDoor
open Go.RowKit

theorem rightHire_kept {w0 w : World} {B sb m : Nat} {L : List (Nat × TypeId × List Value)} {X : World → Prop} (I : Kept 25 [100] w0 B sb m L X w) (key : ByteArray) (fr : Int) (hm : m ≤ 10000000000) (hkey : key.size ≤ 100) (hkb : keyB key = true) (hf0 : 0 ≤ fr) (hf1 : fr ≤ 5000000) :
    Calls Tryd.prog 120 #[.pointer (some ⟨sb, 0, none⟩), .string key, .int .i64 fr] w (fun e w' => ∃ (k d : ByteArray) (f t : Int) (A : Option Addr) (n c : Nat) (l : List Lg), e = .returned (.agg #[.string k, .string d, .int .i64 f, .int .i64 t, .slice A n c]) ∧ HrOk k d l ∧ 1 ≤ n ∧ n ≤ 4 ∧ Kept 25 [100] w0 B sb (m + 1500) L (fun w => X w ∧ SlT lgEnc 9 100 w A n l) w') :=
  (rightHire_any key fr w B sb m I.s hm hkey hkb hf0 hf1).mono fun _ _ ⟨k, d, f, t, A, n, c, l, he, hsl, hok, h1, h4, hS, hg⟩ => ⟨k, d, f, t, A, n, c, l, he, hok, h1, h4, (I.strm hS hg).also (SlT.lasts (List.mem_singleton.2 rfl)) hsl⟩
theorem h1_key : keyB ⟨#[104, 49]⟩ = true := by kernel_rfl

set_option maxRecDepth 100000 in
set_option maxHeartbeats 4000000 in
theorem ghire_any (w : World) (B sb m : Nat) (hS : Strm 25 w B sb m) (hm : m ≤ 1000000000) :
    Calls Tryd.prog 121 #[.pointer (some ⟨sb, 0, none⟩)] w (fun e w' => ∃ (k d : ByteArray) (f t : Int) (A : Option Addr) (n c : Nat) (l : List Lg), e = .returned (.agg #[.string k, .string d, .int .i64 f, .int .i64 t, .slice A n c]) ∧ SlT lgEnc 9 100 w' A n l ∧ HrOk k d l ∧ n ≤ 4 ∧ Strm 25 w' B sb (m + 2000) ∧ w.grownBy w' (some sb)) := by
  go_enter Tryd.func121, Tryd.ntmps121
  go_wp2_with fail
  have I := Kept.start (Tt := [100]) hS (by decide)
  clear hS
  refine (pick_kept (I.alloc2 95 [.string ⟨#[]⟩, .string ⟨#[]⟩, .int .i64 0, .int .i64 0, .slice none 0 0] _ _) [0, 100, 1440] (List.Mem.head _) (by omega) (by with_unfolding_all rfl) (by with_unfolding_all rfl) (by decide) (by decide)).mono ?_
  rintro e w1 ⟨fr, hfr, rfl, I2⟩
  have hfb : 0 ≤ fr ∧ fr ≤ 1440 := by simp at hfr; omega
  have hf0 := hfb.1
  have hf1 := hfb.2
  clear I hfr hfb
  have I := I2.sub (L' := [(w.heap.size, 95, [.string ⟨#[]⟩, .string ⟨#[]⟩, .int .i64 0, .int .i64 0, .slice none 0 0])]) (List.Sublist.cons _ (List.Sublist.refl _))
  clear I2
  go_wp2_with fail
  refine (rightHire_kept I ⟨#[104, 49]⟩ fr (by omega) (by decide) h1_key (by omega) (by omega)).mono ?_
  rintro e w3 ⟨k1, d1, f1, t1, A1, n1, c1, l1, rfl, hok, hn1, hn4, I2⟩
  have Hok := Lib.hid hok
  have I3 := (I2.only (SlT.lasts (by decide)) I2.x.2).alloc 95 [.string k1, .string d1, .int .i64 f1, .int .i64 t1, .slice A1 n1 c1]
  clear I I2 hok
  obtain ⟨Hb, hHb⟩ : ∃ Hb, Hb = w3.heap.size := ⟨_, rfl⟩
  rw [← hHb] at I3
  have I := I3
  clear I3
  go_wp2_with fail
  rw [← hHb]
  clear hHb
  refine (flip_kept I 10 (by omega) (by omega) (by omega)).mono ?_
  rintro e w4 ⟨fl, rfl, I2⟩
  clear I
  have I := I2
  clear I2
  cases fl
  · have hbH := I.blk (List.mem_cons_self ..)
    have hbR := I.blk (g := w.heap.size) (by repeat (first | exact List.mem_cons_self .. | apply List.mem_cons_of_mem))
    go_wp2_with (first
      | (with_reducible refine wpList_load_all rfl 95 (.tmp 3) rfl Hb _ _ _ hbH rfl Tryd.underlying95 rfl 5 info_hr rfl ?_)
      | (with_reducible refine wpList_store_all rfl 95 (.tmp 2) (.tmp 15) rfl w.heap.size _ _ [.string k1, .string d1, .int .i64 f1, .int .i64 t1, .slice A1 n1 c1] hbR rfl rfl 5 info_hr rfl rfl (by simp [Value.oneCell']) ?_
         intro w9 hb9 hg9))
    have I9 := I.stored (L' := []) (g := w.heap.size) (by repeat (first | exact List.mem_cons_self .. | apply List.mem_cons_of_mem)) (by decide) hg9 hb9 (fun x hx => by cases hx) List.Pairwise.nil
    refine ret_blk (p := 2) (ty := 95) rfl w.heap.size _ _ _ hb9 rfl Tryd.underlying95 rfl 5 info_hr rfl rfl ?_
    exact ⟨_, _, _, _, _, _, _, _, rfl, I9.x, Hok.out, by omega, I9.s.more (by omega), I9.g⟩

  · have hbH := I.blk (g := Hb) (by repeat (first | exact List.mem_cons_self .. | apply List.mem_cons_of_mem))
    have q4 := hbH.cell_of (i := 4) (v := .slice A1 n1 c1) rfl
    clear hbH
    go_wp2_with fail
    refine (cloneLegs_any l1 A1 n1 c1 _ I.x (by omega) (by omega)).mono ?_
    rintro e w5 ⟨g, c2, rfl, hown, hg5⟩
    obtain ⟨cs, hbL, hfit, htk⟩ := hown.blk
    have Hf := Lib.hid (show Fit cs n1 l1 from ⟨hfit, htk, I.x.len⟩)
    have I2 := I.free.add hg5 hown.1 hbL
    clear q4 I hown hbL hfit htk hg5
    have I := I2
    clear I2
    have hbH := I.blk (g := Hb) (by repeat (first | exact List.mem_cons_self .. | apply List.mem_cons_of_mem))
    have q4 := hbH.cell_of (i := 4) (v := .slice A1 n1 c1) rfl
    have p4 := hbH.frozen 4
    have I2 := I.put2 (hbH.set_ 4 (.slice (some ⟨g, 0, none⟩) n1 c2)) (grow_setCell (World.grownBy.refl _ _) (p := ⟨Hb, 4, none⟩) (.inl rfl) _)
    go_wp2_with fail
    refine (next_kept I2 6 (by omega) (by omega) (by omega)).mono ?_
    rintro e w6 ⟨v, hv, rfl, I3⟩
    have hvc : v = 0 ∨ v = 1 ∨ v = 2 ∨ v = 3 ∨ v = 4 ∨ v = 5 := by rcases hv with ⟨h1, h2 | h2⟩ <;> omega
    clear I I2 q4 p4 hbH hv
    have I := (I3.more (m' := m + 1900) (by omega)).sub (L' := [(g, 100, cs), (Hb, 95, [.string k1, .string d1, .int .i64 f1, .int .i64 t1, .slice (some ⟨g, 0, none⟩) n1 c2]), (w.heap.size, 95, [.string ⟨#[]⟩, .string ⟨#[]⟩, .int .i64 0, .int .i64 0, .slice none 0 0])]) (List.Sublist.refl _)
    clear I3
    rcases hvc with rfl | rfl | rfl | rfl | rfl | rfl
    · go_wp2_with fail
      refine (some_kept (I.alloc _ _) [⟨#[104, 49]⟩, ⟨#[]⟩, ⟨#[65]⟩] (List.Mem.head _) (by omega) (by with_unfolding_all rfl) (by with_unfolding_all rfl) (by decide) (by decide)).mono ?_
      rintro e w2 ⟨ka, hka, rfl, I2⟩
      have hska : ka.size ≤ 100 := mem_small hka (by decide)
      clear I hka
      have I := I2.sub (List.Sublist.cons _ (List.Sublist.refl _))
      clear I2
      go_wp2_with fail
      refine (some_kept (I.alloc _ _) [⟨#[97, 110, 110]⟩, ⟨#[]⟩] (List.Mem.head _) (by omega) (by with_unfolding_all rfl) (by with_unfolding_all rfl) (by decide) (by decide)).mono ?_
      rintro e w2 ⟨da, hda, rfl, I2⟩
      have hsda : da.size ≤ 100 := mem_small hda (by decide)
      clear I hda
      have I := I2.sub (List.Sublist.cons _ (List.Sublist.refl _))
      clear I2
      have hbH := I.blk (g := Hb) (by repeat (first | exact List.mem_cons_self .. | apply List.mem_cons_of_mem))
      have q0 := hbH.cell_of (i := 0) (v := .string k1) rfl
      have p0 := hbH.frozen 0
      have q1 := hbH.cell_of (i := 1) (v := .string d1) rfl
      have p1 := hbH.frozen 1
      clear hbH
      go_upto_region 20 with fail
      have I2 := I.put2 (((I.blk (g := Hb) (by repeat (first | exact List.mem_cons_self .. | apply List.mem_cons_of_mem))).set_ 0 (.string ka)).set_ 1 (.string da)) (grow_setCell (grow_setCell (World.grownBy.refl _ _) (p := ⟨Hb, 0, none⟩) (.inl rfl) _) (p := ⟨Hb, 1, none⟩) (.inl rfl) _)
      have I3 := I2.legs Hf.out (by decide)
      clear I I2 q0 q1 p0 p1
      have I := I3
      clear I3
      have hbH := I.blk (List.mem_cons_self ..)
      have hbR := I.blk (g := w.heap.size) (by repeat (first | exact List.mem_cons_self .. | apply List.mem_cons_of_mem))
      go_wp2_with (first
        | (with_reducible refine wpList_load_all rfl 95 (.tmp 3) rfl Hb _ _ _ hbH rfl Tryd.underlying95 rfl 5 info_hr rfl ?_)
        | (with_reducible refine wpList_store_all rfl 95 (.tmp 2) (.tmp 95) rfl w.heap.size _ _ [.string ka, .string da, .int .i64 f1, .int .i64 t1, .slice (some ⟨g, 0, none⟩) n1 c2] hbR rfl rfl 5 info_hr rfl rfl (by simp [Value.oneCell']) ?_
           intro w9 hb9 hg9))
      have I9 := I.stored (L' := []) (g := w.heap.size) (by repeat (first | exact List.mem_cons_self .. | apply List.mem_cons_of_mem)) (by decide) hg9 hb9 (fun x hx => by cases hx) List.Pairwise.nil
      refine ret_blk (p := 2) (ty := 95) rfl w.heap.size _ _ _ hb9 rfl Tryd.underlying95 rfl 5 info_hr rfl rfl ?_
      exact ⟨_, _, _, _, _, _, _, _, rfl, I9.x, ⟨by omega, by omega, Hok.out.2.2⟩, by omega, I9.s.more (by omega), I9.g⟩
    · go_wp2_with fail
      refine (time_kept I (by omega)).mono ?_
      rintro e w2 ⟨f2, t2, _, _, rfl, I2⟩
      clear I
      have I := I2
      clear I2
      have hbH := I.blk (g := Hb) (by repeat (first | exact List.mem_cons_self .. | apply List.mem_cons_of_mem))
      have q2 := hbH.cell_of (i := 2) (v := .int .i64 f1) rfl
      have p2 := hbH.frozen 2
      have q3 := hbH.cell_of (i := 3) (v := .int .i64 t1) rfl
      have p3 := hbH.frozen 3
      clear hbH
      go_upto_region 20 with fail
      have I2 := I.put2 (((I.blk (g := Hb) (by repeat (first | exact List.mem_cons_self .. | apply List.mem_cons_of_mem))).set_ 2 (.int .i64 f2)).set_ 3 (.int .i64 t2)) (grow_setCell (grow_setCell (World.grownBy.refl _ _) (p := ⟨Hb, 2, none⟩) (.inl rfl) _) (p := ⟨Hb, 3, none⟩) (.inl rfl) _)
      have I3 := I2.legs Hf.out (by decide)
      clear I I2 q2 q3 p2 p3
      have I := I3
      clear I3
      have hbH := I.blk (List.mem_cons_self ..)
      have hbR := I.blk (g := w.heap.size) (by repeat (first | exact List.mem_cons_self .. | apply List.mem_cons_of_mem))
      go_wp2_with (first
        | (with_reducible refine wpList_load_all rfl 95 (.tmp 3) rfl Hb _ _ _ hbH rfl Tryd.underlying95 rfl 5 info_hr rfl ?_)
        | (with_reducible refine wpList_store_all rfl 95 (.tmp 2) (.tmp 95) rfl w.heap.size _ _ [.string k1, .string d1, .int .i64 f2, .int .i64 t2, .slice (some ⟨g, 0, none⟩) n1 c2] hbR rfl rfl 5 info_hr rfl rfl (by simp [Value.oneCell']) ?_
           intro w9 hb9 hg9))
      have I9 := I.stored (L' := []) (g := w.heap.size) (by repeat (first | exact List.mem_cons_self .. | apply List.mem_cons_of_mem)) (by decide) hg9 hb9 (fun x hx => by cases hx) List.Pairwise.nil
      refine ret_blk (p := 2) (ty := 95) rfl w.heap.size _ _ _ hb9 rfl Tryd.underlying95 rfl 5 info_hr rfl rfl ?_
      exact ⟨_, _, _, _, _, _, _, _, rfl, I9.x, Hok.out, by omega, I9.s.more (by omega), I9.g⟩
    · have hbH := I.blk (g := Hb) (by repeat (first | exact List.mem_cons_self .. | apply List.mem_cons_of_mem))
      have q4 := hbH.cell_of (i := 4) (v := .slice (some ⟨g, 0, none⟩) n1 c2) rfl
      have p4 := hbH.frozen 4
      clear hbH
      go_upto_region 20 with fail
      have I2 := I.put2 ((I.blk (g := Hb) (by repeat (first | exact List.mem_cons_self .. | apply List.mem_cons_of_mem))).set_ 4 (.slice none 0 0)) (grow_setCell (World.grownBy.refl _ _) (p := ⟨Hb, 4, none⟩) (.inl rfl) _)
      have I3 := (I2.sub (List.Sublist.cons _ (List.Sublist.refl _)))
      have I4 : Kept 25 [100] w B sb _ _ (fun w => SlT lgEnc 9 100 w none 0 []) _ := ⟨I3.s, I3.g, I3.b, I3.nd, by decide, SlT.lasts (List.mem_singleton.2 rfl), SlT.nil_ _ _⟩
      clear I I2 I3 q4 p4
      have I := I4
      clear I4
      have hbH := I.blk (List.mem_cons_self ..)
      have hbR := I.blk (g := w.heap.size) (by repeat (first | exact List.mem_cons_self .. | apply List.mem_cons_of_mem))
      go_wp2_with (first
        | (with_reducible refine wpList_load_all rfl 95 (.tmp 3) rfl Hb _ _ _ hbH rfl Tryd.underlying95 rfl 5 info_hr rfl ?_)
        | (with_reducible refine wpList_store_all rfl 95 (.tmp 2) (.tmp 95) rfl w.heap.size _ _ [.string k1, .string d1, .int .i64 f1, .int .i64 t1, .slice none 0 0] hbR rfl rfl 5 info_hr rfl rfl (by simp [Value.oneCell']) ?_
           intro w9 hb9 hg9))
      have I9 := I.stored (L' := []) (g := w.heap.size) (by repeat (first | exact List.mem_cons_self .. | apply List.mem_cons_of_mem)) (by decide) hg9 hb9 (fun x hx => by cases hx) List.Pairwise.nil
      refine ret_blk (p := 2) (ty := 95) rfl w.heap.size _ _ _ hb9 rfl Tryd.underlying95 rfl 5 info_hr rfl rfl ?_
      exact ⟨_, _, _, _, _, _, _, _, rfl, I9.x, ⟨Hok.out.1, Hok.out.2.1, fun _ h => by cases h⟩, by omega, I9.s.more (by omega), I9.g⟩
    · have mk := fun (wx : World) (hH : Blk wx Hb 95 [.string k1, .string d1, .int .i64 f1, .int .i64 t1, .slice (some ⟨g, 0, none⟩) n1 c2]) => hH.cell_of (i := 4) (v := .slice (some ⟨g, 0, none⟩) n1 c2) rfl
      have Mk := Lib.hid mk
      clear mk
      go_upto_region 15 with fail
      go_cut [4] (fun p wx => ∃ j : Nat, j < n1 ∧ p = .pointer (some ⟨g, j * 9, none⟩) ∧ Kept 25 [] w B sb (m + 1900 + 1) [(g, 100, cs), (Hb, 95, [.string k1, .string d1, .int .i64 f1, .int .i64 t1, .slice (some ⟨g, 0, none⟩) n1 c2]), (w.heap.size, 95, [.string ⟨#[]⟩, .string ⟨#[]⟩, .int .i64 0, .int .i64 0, .slice none 0 0])] (fun _ => True) wx)
      case first =>
        go_region_held3 (fun wx => wx.cell? ⟨Hb, 4, none⟩ = some (.slice (some ⟨g, 0, none⟩) n1 c2))
          (first
            | with_reducible exact Mk.out _ (I.blk (by repeat (first | exact List.mem_cons_self .. | apply List.mem_cons_of_mem)))
            | with_reducible exact Mk.out _ (I.drew.blk (by repeat (first | exact List.mem_cons_self .. | apply List.mem_cons_of_mem))))
          (first
            | (go_at_call 88; (with_reducible refine (next_kept I (n1 : Int) (by omega) (by omega) (by omega)).mono ?_); rintro e w2 ⟨v, hv, rfl, I2⟩; have hvn : 0 ≤ v ∧ v < (n1 : Int) := (by rcases hv with ⟨h1, h2 | h2⟩ <;> omega); obtain ⟨j, rfl⟩ : ∃ j : Nat, v = (j : Int) := ⟨v.toNat, by omega⟩; have hj : j < n1 := (by omega); have hj0 := hvn.1; have hj1 := hvn.2; clear I hv hvn; have I := I2; clear I2)
            | (go_at_call 88; (with_reducible refine (next_kept I.drew (n1 : Int) (by omega) (by omega) (by omega)).mono ?_); rintro e w2 ⟨v, hv, rfl, I2⟩; have hvn : 0 ≤ v ∧ v < (n1 : Int) := (by rcases hv with ⟨h1, h2 | h2⟩ <;> omega); obtain ⟨j, rfl⟩ : ∃ j : Nat, v = (j : Int) := ⟨v.toNat, by omega⟩; have hj : j < n1 := (by omega); have hj0 := hvn.1; have hj1 := hvn.2; clear I hv hvn; have I := I2; clear I2))
        all_goals
          go_wp2_with fail
          go_meet
          exact ⟨j, hj, rfl, I⟩
      case rest =>
        obtain ⟨j, hj, rfl, I1⟩ := hcut
        obtain ⟨wb, hwb⟩ : ∃ wb : World, wb = wc := ⟨_, rfl⟩
        rw [← hwb] at I1 ⊢
        clear hwb I Mk
        have I := I1
        clear I1
        obtain ⟨x, hx⟩ : ∃ x, l1[j]? = some x := ⟨_, List.getElem?_eq_getElem (by have := Hf.out.2.2; omega)⟩
        have Hx := Lib.hid hx
        have Hxo := Lib.hid (Hok.out.2.2 x (List.mem_of_getElem? hx))
        have hjl : j * 9 + 9 ≤ cs.length := by have := Hf.out.1; omega
        clear hx
        go_wp2_with fail
        refine (some_kept (I.alloc _ _) [⟨#[118, 49]⟩, ⟨#[]⟩, ⟨#[65]⟩] (List.Mem.head _) (by omega) (by with_unfolding_all rfl) (by with_unfolding_all rfl) (by decide) (by decide)).mono ?_
        rintro e w2 ⟨ve, hve, rfl, I2⟩
        have hsve : ve.size ≤ 100 := mem_small hve (by decide)
        clear I hve
        have I := I2.sub (List.Sublist.cons _ (List.Sublist.refl _))
        clear I2
        go_wp2_with fail
        refine (odd_kept I 0 500 (by omega) (by omega) (by omega) (by omega)).mono ?_
        rintro e w2 ⟨at_, hat, rfl, I2⟩
        clear I hat
        have I := I2
        clear I2
        have hbL := I.blk (g := g) (by repeat (first | exact List.mem_cons_self .. | apply List.mem_cons_of_mem))
        have q0 := hbL.cell_of (i := j * 9) (v := .string x.veh) (Hf.out.get (r := 0) Hx.out rfl)
        have q1 := hbL.cell_of (i := j * 9 + 1) (v := .int .i64 x.out.at_) (Hf.out.get (r := 1) Hx.out rfl)
        have p0 := hbL.frozen (j * 9)
        have p1 := hbL.frozen (j * 9 + 1)
        clear hbL
        go_upto_region 20 with fail
        have I2 := I.put (((I.blk (g := g) (by repeat (first | exact List.mem_cons_self .. | apply List.mem_cons_of_mem))).set_ (j * 9) (.string ve)).set_ (j * 9 + 1) (.int .i64 at_)) (grow_setCell (grow_setCell (World.grownBy.refl _ _) (p := ⟨g, j * 9, none⟩) (.inl rfl) _) (p := ⟨g, j * 9 + 1, none⟩) (.inl rfl) _)
        have hx2 : (l1.set j ⟨ve, x.out, x.inn⟩)[j]? = some ⟨ve, x.out, x.inn⟩ := List.getElem?_set_self (by have := Hf.out.2.2; omega)
        have hf2 := ((Hf.out.set_ (r := 0) (y := ⟨ve, x.out, x.inn⟩) (v := .string ve) Hx.out rfl (by omega)).set_ (r := 1) (y := ⟨ve, ⟨at_, x.out.st, x.out.meter, x.out.fuel⟩, x.inn⟩) (v := .int .i64 at_) hx2 rfl (by omega))
        have I3 := I2.legs hf2 (by decide)
        have hok2 := legs_set (j := j) (y := ⟨ve, ⟨at_, x.out.st, x.out.meter, x.out.fuel⟩, x.inn⟩) (legs_set (j := j) (y := ⟨ve, x.out, x.inn⟩) Hok.out.2.2 ⟨by show ve.size ≤ _; omega, Hxo.out.2⟩) ⟨by show ve.size ≤ _; omega, Hxo.out.2⟩
        have Hok2 := Lib.hid hok2
        clear I I2 q0 q1 p0 p1 hx2 hf2 hok2
        have I := I3
        clear I3
        have hbH := I.blk (List.mem_cons_self ..)
        have hbR := I.blk (g := w.heap.size) (by repeat (first | exact List.mem_cons_self .. | apply List.mem_cons_of_mem))
        go_wp2_with (first
          | (with_reducible refine wpList_load_all rfl 95 (.tmp 3) rfl Hb _ _ _ hbH rfl Tryd.underlying95 rfl 5 info_hr rfl ?_)
          | (with_reducible refine wpList_store_all rfl 95 (.tmp 2) (.tmp 95) rfl w.heap.size _ _ [.string k1, .string d1, .int .i64 f1, .int .i64 t1, .slice (some ⟨g, 0, none⟩) n1 c2] hbR rfl rfl 5 info_hr rfl rfl (by simp [Value.oneCell']) ?_
             intro w9 hb9 hg9))
        have I9 := I.stored (L' := []) (g := w.heap.size) (by repeat (first | exact List.mem_cons_self .. | apply List.mem_cons_of_mem)) (by decide) hg9 hb9 (fun x hx => by cases hx) List.Pairwise.nil
        refine ret_blk (p := 2) (ty := 95) rfl w.heap.size _ _ _ hb9 rfl Tryd.underlying95 rfl 5 info_hr rfl rfl ?_
        exact ⟨_, _, _, _, _, _, _, _, rfl, I9.x, ⟨Hok.out.1, Hok.out.2.1, Hok2.out⟩, by omega, I9.s.more (by omega), I9.g⟩
    · have mk := fun (wx : World) (hH : Blk wx Hb 95 [.string k1, .string d1, .int .i64 f1, .int .i64 t1, .slice (some ⟨g, 0, none⟩) n1 c2]) => hH.cell_of (i := 4) (v := .slice (some ⟨g, 0, none⟩) n1 c2) rfl
      have Mk := Lib.hid mk
      clear mk
      go_upto_region 18 with fail
      go_cut [5] (fun p wx => ∃ j : Nat, j < n1 ∧ p = .pointer (some ⟨g, j * 9, none⟩) ∧ Kept 25 [] w B sb (m + 1900 + 1) [(g, 100, cs), (Hb, 95, [.string k1, .string d1, .int .i64 f1, .int .i64 t1, .slice (some ⟨g, 0, none⟩) n1 c2]), (w.heap.size, 95, [.string ⟨#[]⟩, .string ⟨#[]⟩, .int .i64 0, .int .i64 0, .slice none 0 0])] (fun _ => True) wx)
      case first =>
        go_region_held3 (fun wx => wx.cell? ⟨Hb, 4, none⟩ = some (.slice (some ⟨g, 0, none⟩) n1 c2))
          (first
            | with_reducible exact Mk.out _ (I.blk (by repeat (first | exact List.mem_cons_self .. | apply List.mem_cons_of_mem)))
            | with_reducible exact Mk.out _ (I.drew.blk (by repeat (first | exact List.mem_cons_self .. | apply List.mem_cons_of_mem))))
          (first
            | (go_at_call 88; (with_reducible refine (next_kept I (n1 : Int) (by omega) (by omega) (by omega)).mono ?_); rintro e w2 ⟨v, hv, rfl, I2⟩; have hvn : 0 ≤ v ∧ v < (n1 : Int) := (by rcases hv with ⟨h1, h2 | h2⟩ <;> omega); obtain ⟨j, rfl⟩ : ∃ j : Nat, v = (j : Int) := ⟨v.toNat, by omega⟩; have hj : j < n1 := (by omega); have hj0 := hvn.1; have hj1 := hvn.2; clear I hv hvn; have I := I2; clear I2)
            | (go_at_call 88; (with_reducible refine (next_kept I.drew (n1 : Int) (by omega) (by omega) (by omega)).mono ?_); rintro e w2 ⟨v, hv, rfl, I2⟩; have hvn : 0 ≤ v ∧ v < (n1 : Int) := (by rcases hv with ⟨h1, h2 | h2⟩ <;> omega); obtain ⟨j, rfl⟩ : ∃ j : Nat, v = (j : Int) := ⟨v.toNat, by omega⟩; have hj : j < n1 := (by omega); have hj0 := hvn.1; have hj1 := hvn.2; clear I hv hvn; have I := I2; clear I2))
        all_goals
          go_wp2_with fail
          go_meet
          exact ⟨j, hj, rfl, I⟩
      case rest =>
        obtain ⟨j, hj, rfl, I1⟩ := hcut
        obtain ⟨wb, hwb⟩ : ∃ wb : World, wb = wc := ⟨_, rfl⟩
        rw [← hwb] at I1 ⊢
        clear hwb I Mk
        have I := I1
        clear I1
        obtain ⟨x, hx⟩ : ∃ x, l1[j]? = some x := ⟨_, List.getElem?_eq_getElem (by have := Hf.out.2.2; omega)⟩
        have Hx := Lib.hid hx
        have Hxo := Lib.hid (Hok.out.2.2 x (List.mem_of_getElem? hx))
        have hjl : j * 9 + 9 ≤ cs.length := by have := Hf.out.1; omega
        clear hx
        go_wp2_with fail
        refine (pick_kept (I.alloc _ _) [-1, 0, 100, 5000] (List.Mem.head _) (by omega) (by with_unfolding_all rfl) (by with_unfolding_all rfl) (by decide) (by decide)).mono ?_
        rintro e w2 ⟨pv, hpv, rfl, I2⟩
        have hbpv : -100000000 ≤ pv ∧ pv ≤ 100000000 := mem_far hpv (by decide)
        clear I hpv
        have I := I2.sub (List.Sublist.cons _ (List.Sublist.refl _))
        clear I2
        have hp0 := hbpv.1
        have hp1 := hbpv.2
        go_wp2_with fail
        refine (reading_kept I pv (by omega) (by omega) (by omega)).mono ?_
        rintro e w2 ⟨⟨ra, rs, rm, rf⟩, hr, rfl, I2⟩
        rw [show (rdCells ⟨ra, rs, rm, rf⟩).toArray = #[.int .i64 ra, .string rs, .int .i64 rm, .int .i64 rf] from rfl]
        have Hr := Lib.hid hr
        clear I hr
        have I := I2
        clear I2
        have hbL := I.blk (g := g) (by repeat (first | exact List.mem_cons_self .. | apply List.mem_cons_of_mem))
        go_upto_region 20 with (with_reducible refine wpList_store_blk rfl 98 (.tmp 94) (.tmp 92) rfl g (j * 9 + 5) _ cs [.int .i64 ra, .string rs, .int .i64 rm, .int .i64 rf] hbL rfl rfl 4 info_rd rfl (by omega) (by simp [Value.oneCell']) ?_
                                intro w7 hb7 hg7)
        have I2 := I.put hb7 hg7
        have hf2 := Hf.out.splice (r := 5) (y := ⟨x.veh, x.out, ⟨ra, rs, rm, rf⟩⟩) (vs := [.int .i64 ra, .string rs, .int .i64 rm, .int .i64 rf]) Hx.out rfl (Nat.le_refl 9)
        have I3 := I2.legs hf2 (by decide)
        have hok2 := legs_set (j := j) (y := ⟨x.veh, x.out, ⟨ra, rs, rm, rf⟩⟩) Hok.out.2.2 ⟨Hxo.out.1, Hxo.out.2.1, Hr.out⟩
        have Hok2 := Lib.hid hok2
        clear I I2 hbL hb7 hg7 hf2 hok2
        have I := I3
        clear I3
        have hbH := I.blk (List.mem_cons_self ..)
        have hbR := I.blk (g := w.heap.size) (by repeat (first | exact List.mem_cons_self .. | apply List.mem_cons_of_mem))
        go_wp2_with (first
          | (with_reducible refine wpList_load_all rfl 95 (.tmp 3) rfl Hb _ _ _ hbH rfl Tryd.underlying95 rfl 5 info_hr rfl ?_)
          | (with_reducible refine wpList_store_all rfl 95 (.tmp 2) (.tmp 95) rfl w.heap.size _ _ [.string k1, .string d1, .int .i64 f1, .int .i64 t1, .slice (some ⟨g, 0, none⟩) n1 c2] hbR rfl rfl 5 info_hr rfl rfl (by simp [Value.oneCell']) ?_
             intro w9 hb9 hg9))
        have I9 := I.stored (L' := []) (g := w.heap.size) (by repeat (first | exact List.mem_cons_self .. | apply List.mem_cons_of_mem)) (by decide) hg9 hb9 (fun x hx => by cases hx) List.Pairwise.nil
        refine ret_blk (p := 2) (ty := 95) rfl w.heap.size _ _ _ hb9 rfl Tryd.underlying95 rfl 5 info_hr rfl rfl ?_
        exact ⟨_, _, _, _, _, _, _, _, rfl, I9.x, ⟨Hok.out.1, Hok.out.2.1, Hok2.out⟩, by omega, I9.s.more (by omega), I9.g⟩
    · have mk := fun (wx : World) (hH : Blk wx Hb 95 [.string k1, .string d1, .int .i64 f1, .int .i64 t1, .slice (some ⟨g, 0, none⟩) n1 c2]) => hH.cell_of (i := 4) (v := .slice (some ⟨g, 0, none⟩) n1 c2) rfl
      have Mk := Lib.hid mk
      clear mk
      go_upto_region 6 with fail
      go_cut [6] (fun p wx => ∃ j : Nat, j < n1 ∧ p = .pointer (some ⟨g, j * 9, none⟩) ∧ Kept 25 [] w B sb (m + 1900 + 1) [(g, 100, cs), (Hb, 95, [.string k1, .string d1, .int .i64 f1, .int .i64 t1, .slice (some ⟨g, 0, none⟩) n1 c2]), (w.heap.size, 95, [.string ⟨#[]⟩, .string ⟨#[]⟩, .int .i64 0, .int .i64 0, .slice none 0 0])] (fun _ => True) wx)
      case first =>
        go_region_held3 (fun wx => wx.cell? ⟨Hb, 4, none⟩ = some (.slice (some ⟨g, 0, none⟩) n1 c2))
          (first
            | with_reducible exact Mk.out _ (I.blk (by repeat (first | exact List.mem_cons_self .. | apply List.mem_cons_of_mem)))
            | with_reducible exact Mk.out _ (I.drew.blk (by repeat (first | exact List.mem_cons_self .. | apply List.mem_cons_of_mem))))
          (first
            | (go_at_call 88; (with_reducible refine (next_kept I (n1 : Int) (by omega) (by omega) (by omega)).mono ?_); rintro e w2 ⟨v, hv, rfl, I2⟩; have hvn : 0 ≤ v ∧ v < (n1 : Int) := (by rcases hv with ⟨h1, h2 | h2⟩ <;> omega); obtain ⟨j, rfl⟩ : ∃ j : Nat, v = (j : Int) := ⟨v.toNat, by omega⟩; have hj : j < n1 := (by omega); have hj0 := hvn.1; have hj1 := hvn.2; clear I hv hvn; have I := I2; clear I2)
            | (go_at_call 88; (with_reducible refine (next_kept I.drew (n1 : Int) (by omega) (by omega) (by omega)).mono ?_); rintro e w2 ⟨v, hv, rfl, I2⟩; have hvn : 0 ≤ v ∧ v < (n1 : Int) := (by rcases hv with ⟨h1, h2 | h2⟩ <;> omega); obtain ⟨j, rfl⟩ : ∃ j : Nat, v = (j : Int) := ⟨v.toNat, by omega⟩; have hj : j < n1 := (by omega); have hj0 := hvn.1; have hj1 := hvn.2; clear I hv hvn; have I := I2; clear I2))
        all_goals
          go_wp2_with fail
          go_meet
          exact ⟨j, hj, rfl, I⟩
      case rest =>
        obtain ⟨j, hj, rfl, I1⟩ := hcut
        obtain ⟨wb, hwb⟩ : ∃ wb : World, wb = wc := ⟨_, rfl⟩
        rw [← hwb] at I1 ⊢
        clear hwb I Mk
        have I := I1
        clear I1
        obtain ⟨x, hx⟩ : ∃ x, l1[j]? = some x := ⟨_, List.getElem?_eq_getElem (by have := Hf.out.2.2; omega)⟩
        have Hx := Lib.hid hx
        have Hxo := Lib.hid (Hok.out.2.2 x (List.mem_of_getElem? hx))
        have hjl : j * 9 + 9 ≤ cs.length := by have := Hf.out.1; omega
        clear hx
        go_wp2_with fail
        refine (pick_kept (I.alloc _ _) [0, 0, 1] (List.Mem.head _) (by omega) (by with_unfolding_all rfl) (by with_unfolding_all rfl) (by decide) (by decide)).mono ?_
        rintro e w2 ⟨pv, hpv, rfl, I2⟩
        have hbpv : -100000000 ≤ pv ∧ pv ≤ 100000000 := mem_far hpv (by decide)
        clear I hpv
        have I := I2.sub (List.Sublist.cons _ (List.Sublist.refl _))
        clear I2
        have hbL := I.blk (g := g) (by repeat (first | exact List.mem_cons_self .. | apply List.mem_cons_of_mem))
        go_upto_region 20 with (with_reducible refine wpList_store_blk rfl 98 (.tmp 36) (.tmp 34) rfl g (j * 9 + 5) _ cs [.int .i64 (-1), .string ⟨#[]⟩, .int .i64 pv, .int .i64 0] hbL rfl rfl 4 info_rd rfl (by omega) (by simp [Value.oneCell']) ?_
                                intro w7 hb7 hg7)
        have I2 := I.put hb7 hg7
        have hf2 := Hf.out.splice (r := 5) (y := ⟨x.veh, x.out, ⟨-1, ⟨#[]⟩, pv, 0⟩⟩) (vs := [.int .i64 (-1), .string ⟨#[]⟩, .int .i64 pv, .int .i64 0]) Hx.out rfl (Nat.le_refl 9)
        have I3 := I2.legs hf2 (by decide)
        have hok2 := legs_set (j := j) (y := ⟨x.veh, x.out, ⟨-1, ⟨#[]⟩, pv, 0⟩⟩) Hok.out.2.2 ⟨Hxo.out.1, Hxo.out.2.1, (show (⟨#[]⟩ : ByteArray).size ≤ 1000000 by decide)⟩
        have Hok2 := Lib.hid hok2
        clear I I2 hbL hb7 hg7 hf2 hok2
        have I := I3
        clear I3
        have hbH := I.blk (List.mem_cons_self ..)
        have hbR := I.blk (g := w.heap.size) (by repeat (first | exact List.mem_cons_self .. | apply List.mem_cons_of_mem))
        go_wp2_with (first
          | (with_reducible refine wpList_load_all rfl 95 (.tmp 3) rfl Hb _ _ _ hbH rfl Tryd.underlying95 rfl 5 info_hr rfl ?_)
          | (with_reducible refine wpList_store_all rfl 95 (.tmp 2) (.tmp 95) rfl w.heap.size _ _ [.string k1, .string d1, .int .i64 f1, .int .i64 t1, .slice (some ⟨g, 0, none⟩) n1 c2] hbR rfl rfl 5 info_hr rfl rfl (by simp [Value.oneCell']) ?_
             intro w9 hb9 hg9))
        have I9 := I.stored (L' := []) (g := w.heap.size) (by repeat (first | exact List.mem_cons_self .. | apply List.mem_cons_of_mem)) (by decide) hg9 hb9 (fun x hx => by cases hx) List.Pairwise.nil
        refine ret_blk (p := 2) (ty := 95) rfl w.heap.size _ _ _ hb9 rfl Tryd.underlying95 rfl 5 info_hr rfl rfl ?_
        exact ⟨_, _, _, _, _, _, _, _, rfl, I9.x, ⟨Hok.out.1, Hok.out.2.1, Hok2.out⟩, by omega, I9.s.more (by omega), I9.g⟩

end Go.Proofs.YtmpomocahgcebaaDoor
