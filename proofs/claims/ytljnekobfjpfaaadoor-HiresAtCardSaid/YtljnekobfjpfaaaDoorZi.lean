/- Several texts as one: Cn Dv Hj Hw Ho Hy -/
import Derived.Test.YtljnekobfjpfaaaDoorZh
import Derived.Test.YtljnekobfjpfaaaDoorGb
import Derived.Test.YtljnekobfjpfaaaDoorHl
import Derived.Test.YtljnekobfjpfaaaDoorGh
import Derived.Test.YtljnekobfjpfaaaDoorHg
import Derived.Test.YtljnekobfjpfaaaDoorRo
import Derived.Test.YtljnekobfjpfaaaDoorEq
import Derived.Test.YtljnekobfjpfaaaDoorAr
/- Cancelling: the generators Tiers, more, Moment; CancelFee, CancelOf. -/
namespace Go.Proofs.YtljnekobfjpfaaaDoor
open Go.RowKit

set_option maxRecDepth 100000 in
set_option maxHeartbeats 400000 in
theorem gmoment_any (w : World) (B sb m : Nat) (hS : Strm 25 w B sb m) (hm : m ≤ 100000000000) :
    Calls Tryd.prog 22 #[.pointer (some ⟨sb, 0, none⟩)] w (fun e w' => ∃ v : Int, e = .returned (.int .i64 v) ∧ (-1 ≤ v ∧ v ≤ 5761440) ∧ Strm 25 w' B sb (m + 1) ∧ w.grownBy w' (some sb)) := by
  refine gw_enter ⟨6, w, (some sb), []⟩ Tryd.func22 rfl Tryd.ntmps22 rfl (memS (X := []) hS allF_nil allL_nil) ?_
  refine gw_seq ?_
  refine gw_region ?_
  refine wl_ov (ov_assign rfl) rfl ?_
  refine wl_nil ?_
  refine nx_then ?_
  refine gw_seq ?_
  refine gw_region ?_
  refine wl_ov (ov_move rfl) rfl ?_
  refine wl_buildSlice (e := 3) (cs := [.int .i64 0, .int .i64 10, .int .i64 49, .int .i64 50, .int .i64 99, .int .i64 100, .int .i64 199, .int .i64 200, .int .i64 480, .int .i64 720, .int .i64 1000, .int .i64 1440, .int .i64 5760, .int .i64 10080, .int .i64 5761439, .int .i64 (-1), .int .i64 5761440]) rfl (by kernel_rfl) rfl fun g1 => ?_
  refine wl_got (γ := Int) (val := fun v => .int .i64 v) (φ := fun v => v ∈ ([0, 10, 49, 50, 99, 100, 199, 200, 480, 720, 1000, 1440, 5760, 10080, 5761439, -1, 5761440] : List Int)) rfl cb15 rfl rfl rfl rfl (fun wx hm => (pick_any [0, 10, 49, 50, 99, 100, 199, 200, 480, 720, 1000, 1440, 5760, 10080, 5761439, -1, 5761440] _ _ _ wx B sb _ hm.k (by omega) (by simp) (by simp) (hm.blkI 0 rfl) (hm.neRow 0 rfl rfl))) fun v2 hv2 => ?_
  have bv2 : -1 ≤ v2 ∧ v2 ≤ 5761440 := mem_rng hv2 (by decide)
  have bv20 := bv2.1
  have bv21 := bv2.2
  clear bv2
  refine wl_ov (ov_assign rfl) rfl ?_
  refine wl_nil ?_
  refine nx_then ?_
  refine gw_ret ?_
  refine nx_ret1 rfl rfl fun wx hm => ?_
  exact ⟨v2, rfl, by omega, hm.k, hm.g⟩

set_option maxRecDepth 100000 in
set_option maxHeartbeats 400000 in
theorem gtiers_any (w : World) (B sb m : Nat) (hS : Strm 25 w B sb m) (hm : m ≤ 100000000000) :
    Calls Tryd.prog 20 #[.pointer (some ⟨sb, 0, none⟩)] w (fun e w' => ∃ (A : Option Addr) (n c : Nat) (l : List Tr), e = .returned (.slice A n c) ∧ SlT trEnc 2 141 w' A n l ∧ n ≤ 3 ∧ Strm 25 w' B sb (m + 1) ∧ w.grownBy w' (some sb)) := by
  refine gw_enter ⟨28, w, (some sb), []⟩ Tryd.func20 rfl Tryd.ntmps20 rfl (memS (X := []) hS allF_nil allL_nil) ?_
  refine gw_seq ?_
  refine gw_region ?_
  refine wl_ov (ov_assign rfl) rfl ?_
  refine wl_nil ?_
  refine nx_then ?_
  refine gw_seq ?_
  refine gw_region ?_
  refine wl_ov (ov_build (cs := [.int .i64 1000, .int .i64 100]) rfl (by kernel_rfl)) rfl ?_
  refine wl_buildSlice (e := 141) (cs := [.int .i64 1000, .int .i64 100]) rfl (by kernel_rfl) rfl fun g1 => ?_
  refine wl_ov (ov_build (cs := [.int .i64 1000, .int .i64 100]) rfl (by kernel_rfl)) rfl ?_
  refine wl_ov (ov_build (cs := [.int .i64 60, .int .i64 500]) rfl (by kernel_rfl)) rfl ?_
  refine wl_ov (ov_build (cs := [.int .i64 1, .int .i64 1000]) rfl (by kernel_rfl)) rfl ?_
  refine wl_buildSlice (e := 141) (cs := [.int .i64 1000, .int .i64 100, .int .i64 60, .int .i64 500, .int .i64 1, .int .i64 1000]) rfl (by kernel_rfl) rfl fun g2 => ?_
  refine wl_ov (ov_build (cs := [.int .i64 10, .int .i64 300]) rfl (by kernel_rfl)) rfl ?_
  refine wl_ov (ov_build (cs := [.int .i64 9, .int .i64 300]) rfl (by kernel_rfl)) rfl ?_
  refine wl_buildSlice (e := 141) (cs := [.int .i64 10, .int .i64 300, .int .i64 9, .int .i64 300]) rfl (by kernel_rfl) rfl fun g3 => ?_
  refine wl_ov (ov_build (cs := [.int .i64 5, .int .i64 1]) rfl (by kernel_rfl)) rfl ?_
  refine wl_ov (ov_build (cs := [.int .i64 5, .int .i64 2]) rfl (by kernel_rfl)) rfl ?_
  refine wl_buildSlice (e := 141) (cs := [.int .i64 5, .int .i64 1, .int .i64 5, .int .i64 2]) rfl (by kernel_rfl) rfl fun g4 => ?_
  refine wl_ov (ov_build (cs := [.int .i64 0, .int .i64 1]) rfl (by kernel_rfl)) rfl ?_
  refine wl_buildSlice (e := 141) (cs := [.int .i64 0, .int .i64 1]) rfl (by kernel_rfl) rfl fun g5 => ?_
  refine wl_ov (ov_build (cs := [.int .i64 9, .int .i64 1001]) rfl (by kernel_rfl)) rfl ?_
  refine wl_buildSlice (e := 141) (cs := [.int .i64 9, .int .i64 1001]) rfl (by kernel_rfl) rfl fun g6 => ?_
  refine wl_ov (ov_build (cs := [.int .i64 9, .int .i64 500]) rfl (by kernel_rfl)) rfl ?_
  refine wl_ov (ov_build (cs := [.int .i64 5, .int .i64 400]) rfl (by kernel_rfl)) rfl ?_
  refine wl_buildSlice (e := 141) (cs := [.int .i64 9, .int .i64 500, .int .i64 5, .int .i64 400]) rfl (by kernel_rfl) rfl fun g7 => ?_
  refine wl_buildSlice (e := 43) (cs := [.slice none 0 0, .slice (some ⟨g1, 0, none⟩) 1 1, .slice (some ⟨g2, 0, none⟩) 3 3, .slice (some ⟨g3, 0, none⟩) 2 2, .slice (some ⟨g4, 0, none⟩) 2 2, .slice (some ⟨g5, 0, none⟩) 1 1, .slice (some ⟨g6, 0, none⟩) 1 1, .slice (some ⟨g7, 0, none⟩) 2 2]) rfl (by kernel_rfl) rfl fun g8 => ?_
  refine wl_ov (ov_move rfl) rfl ?_
  refine wl_buildSlice (e := 3) (cs := [.int .i64 0, .int .i64 1, .int .i64 1, .int .i64 2, .int .i64 2, .int .i64 2, .int .i64 3, .int .i64 3, .int .i64 4, .int .i64 5, .int .i64 6, .int .i64 7]) rfl (by kernel_rfl) rfl fun g9 => ?_
  refine wl_got (γ := Int) (val := fun v => .int .i64 v) (φ := fun v => v ∈ ([0, 1, 1, 2, 2, 2, 3, 3, 4, 5, 6, 7] : List Int)) rfl cb15 rfl rfl rfl rfl (fun wx hm => (pick_any [0, 1, 1, 2, 2, 2, 3, 3, 4, 5, 6, 7] _ _ _ wx B sb _ hm.k (by omega) (by simp) (by simp) (hm.blkI 0 rfl) (hm.neRow 0 rfl rfl))) fun v hv => ?_
  have bv : 0 ≤ v ∧ v ≤ 7 := mem_rng hv (by decide)
  have bv0 := bv.1
  have bv1 := bv.2
  clear bv
  obtain hv10 | hv10 | hv10 | hv10 | hv10 | hv10 | hv10 | hv10 : v = 0 ∨ v = 1 ∨ v = 2 ∨ v = 3 ∨ v = 4 ∨ v = 5 ∨ v = 6 ∨ v = 7 := (by simp at hv; omega)
  · subst hv10
    refine wl_ov (ov_index (j := 0) es142 rfl rfl (by decide)) rfl ?_
    refine wl_ov (ov_load sc43 rfl (fun _ hm => hm.blkI 1 rfl) rfl) rfl ?_
    refine wl_ov (ov_assign rfl) rfl ?_
    refine wl_nil ?_
    refine nx_then ?_
    refine gw_ret ?_
    refine nx_ret1 rfl rfl fun wx hm => ?_
    exact ⟨none, 0, 0, [], rfl, SlT.nil_ _ _, by omega, hm.k, hm.g⟩
  · subst hv10
    refine wl_ov (ov_index (j := 1) es142 rfl rfl (by decide)) rfl ?_
    refine wl_ov (ov_load sc43 rfl (fun _ hm => hm.blkI 1 rfl) rfl) rfl ?_
    refine wl_ov (ov_assign rfl) rfl ?_
    refine wl_nil ?_
    refine nx_then ?_
    refine gw_ret ?_
    refine nx_ret1 rfl rfl fun wx hm => ?_
    exact ⟨some ⟨g1, 0, none⟩, 1, 1, [⟨1000, 100⟩], rfl, SlT.ofBlk (l := [⟨1000, 100⟩]) tr_len (hm.blkI 8 rfl), by omega, hm.k, hm.g⟩
  · subst hv10
    refine wl_ov (ov_index (j := 2) es142 rfl rfl (by decide)) rfl ?_
    refine wl_ov (ov_load sc43 rfl (fun _ hm => hm.blkI 1 rfl) rfl) rfl ?_
    refine wl_ov (ov_assign rfl) rfl ?_
    refine wl_nil ?_
    refine nx_then ?_
    refine gw_ret ?_
    refine nx_ret1 rfl rfl fun wx hm => ?_
    exact ⟨some ⟨g2, 0, none⟩, 3, 3, [⟨1000, 100⟩, ⟨60, 500⟩, ⟨1, 1000⟩], rfl, SlT.ofBlk (l := [⟨1000, 100⟩, ⟨60, 500⟩, ⟨1, 1000⟩]) tr_len (hm.blkI 7 rfl), by omega, hm.k, hm.g⟩
  · subst hv10
    refine wl_ov (ov_index (j := 3) es142 rfl rfl (by decide)) rfl ?_
    refine wl_ov (ov_load sc43 rfl (fun _ hm => hm.blkI 1 rfl) rfl) rfl ?_
    refine wl_ov (ov_assign rfl) rfl ?_
    refine wl_nil ?_
    refine nx_then ?_
    refine gw_ret ?_
    refine nx_ret1 rfl rfl fun wx hm => ?_
    exact ⟨some ⟨g3, 0, none⟩, 2, 2, [⟨10, 300⟩, ⟨9, 300⟩], rfl, SlT.ofBlk (l := [⟨10, 300⟩, ⟨9, 300⟩]) tr_len (hm.blkI 6 rfl), by omega, hm.k, hm.g⟩
  · subst hv10
    refine wl_ov (ov_index (j := 4) es142 rfl rfl (by decide)) rfl ?_
    refine wl_ov (ov_load sc43 rfl (fun _ hm => hm.blkI 1 rfl) rfl) rfl ?_
    refine wl_ov (ov_assign rfl) rfl ?_
    refine wl_nil ?_
    refine nx_then ?_
    refine gw_ret ?_
    refine nx_ret1 rfl rfl fun wx hm => ?_
    exact ⟨some ⟨g4, 0, none⟩, 2, 2, [⟨5, 1⟩, ⟨5, 2⟩], rfl, SlT.ofBlk (l := [⟨5, 1⟩, ⟨5, 2⟩]) tr_len (hm.blkI 5 rfl), by omega, hm.k, hm.g⟩
  · subst hv10
    refine wl_ov (ov_index (j := 5) es142 rfl rfl (by decide)) rfl ?_
    refine wl_ov (ov_load sc43 rfl (fun _ hm => hm.blkI 1 rfl) rfl) rfl ?_
    refine wl_ov (ov_assign rfl) rfl ?_
    refine wl_nil ?_
    refine nx_then ?_
    refine gw_ret ?_
    refine nx_ret1 rfl rfl fun wx hm => ?_
    exact ⟨some ⟨g5, 0, none⟩, 1, 1, [⟨0, 1⟩], rfl, SlT.ofBlk (l := [⟨0, 1⟩]) tr_len (hm.blkI 4 rfl), by omega, hm.k, hm.g⟩
  · subst hv10
    refine wl_ov (ov_index (j := 6) es142 rfl rfl (by decide)) rfl ?_
    refine wl_ov (ov_load sc43 rfl (fun _ hm => hm.blkI 1 rfl) rfl) rfl ?_
    refine wl_ov (ov_assign rfl) rfl ?_
    refine wl_nil ?_
    refine nx_then ?_
    refine gw_ret ?_
    refine nx_ret1 rfl rfl fun wx hm => ?_
    exact ⟨some ⟨g6, 0, none⟩, 1, 1, [⟨9, 1001⟩], rfl, SlT.ofBlk (l := [⟨9, 1001⟩]) tr_len (hm.blkI 3 rfl), by omega, hm.k, hm.g⟩
  · subst hv10
    refine wl_ov (ov_index (j := 7) es142 rfl rfl (by decide)) rfl ?_
    refine wl_ov (ov_load sc43 rfl (fun _ hm => hm.blkI 1 rfl) rfl) rfl ?_
    refine wl_ov (ov_assign rfl) rfl ?_
    refine wl_nil ?_
    refine nx_then ?_
    refine gw_ret ?_
    refine nx_ret1 rfl rfl fun wx hm => ?_
    exact ⟨some ⟨g7, 0, none⟩, 2, 2, [⟨9, 500⟩, ⟨5, 400⟩], rfl, SlT.ofBlk (l := [⟨9, 500⟩, ⟨5, 400⟩]) tr_len (hm.blkI 2 rfl), by omega, hm.k, hm.g⟩

set_option maxRecDepth 100000 in
set_option maxHeartbeats 400000 in
theorem gmore_any (w : World) (B sb m : Nat) (hS : Strm 25 w B sb m) (hm : m ≤ 100000000000) :
    Calls Tryd.prog 21 #[.pointer (some ⟨sb, 0, none⟩)] w (fun e w' => ∃ b : Bk, e = .returned (.agg (bkEnc b).toArray) ∧ BkOk b ∧ (0 ≤ b.fr ∧ b.fr ≤ 5761410) ∧ Strm 25 w' B sb (m + 20) ∧ w.grownBy w' (some sb)) := by
  refine gw_enter ⟨34, w, (some sb), []⟩ Tryd.func21 rfl Tryd.ntmps21 rfl (memS (X := []) hS allF_nil allL_nil) ?_
  refine gw_seq ?_
  refine gw_region ?_
  refine wl_alloc zc46 rfl fun g1 => ?_
  refine wl_nil ?_
  refine nx_then ?_
  refine gw_seq ?_
  refine gw_region ?_
  refine wl_ov (ov_move rfl) rfl ?_
  refine wl_buildSlice (e := 9) (cs := [.string ⟨#[98, 122]⟩, .string ⟨#[98, 122]⟩, .string ⟨#[97, 97]⟩, .string ⟨#[98, 97]⟩]) rfl (by kernel_rfl) rfl fun g2 => ?_
  refine wl_got (γ := ByteArray) (val := fun v => .string v) (φ := fun v => v ∈ ([⟨#[98, 122]⟩, ⟨#[98, 122]⟩, ⟨#[97, 97]⟩, ⟨#[98, 97]⟩] : List ByteArray)) rfl cb12 rfl rfl rfl rfl (fun wx hm => (some_any [⟨#[98, 122]⟩, ⟨#[98, 122]⟩, ⟨#[97, 97]⟩, ⟨#[98, 97]⟩] _ _ _ wx B sb _ hm.k (by omega) (by simp) (by simp) (hm.blkI 0 rfl) (hm.neRow 0 rfl rfl))) fun s3 hs3 => ?_
  have zs3 : s3.size ≤ 100 := mem_sz hs3 (by decide)
  refine wl_ov (ov_move rfl) rfl ?_
  refine wl_buildSlice (e := 9) (cs := [.string ⟨#[109, 105, 110, 105]⟩, .string ⟨#[109, 105, 100, 105]⟩, .string ⟨#[98, 105, 103]⟩, .string ⟨#[109, 97, 120, 105]⟩, .string ⟨#[110, 111, 110, 101]⟩]) rfl (by kernel_rfl) rfl fun g4 => ?_
  refine wl_got (γ := ByteArray) (val := fun v => .string v) (φ := fun v => v ∈ ([⟨#[109, 105, 110, 105]⟩, ⟨#[109, 105, 100, 105]⟩, ⟨#[98, 105, 103]⟩, ⟨#[109, 97, 120, 105]⟩, ⟨#[110, 111, 110, 101]⟩] : List ByteArray)) rfl cb12 rfl rfl rfl rfl (fun wx hm => (some_any [⟨#[109, 105, 110, 105]⟩, ⟨#[109, 105, 100, 105]⟩, ⟨#[98, 105, 103]⟩, ⟨#[109, 97, 120, 105]⟩, ⟨#[110, 111, 110, 101]⟩] _ _ _ wx B sb _ hm.k (by omega) (by simp) (by simp) (hm.blkI 0 rfl) (hm.neRow 0 rfl rfl))) fun s5 hs5 => ?_
  have zs5 : s5.size ≤ 100 := mem_sz hs5 (by decide)
  refine wl_ov (ov_build (cs := [.string s3, .string s5, .int .i64 0, .int .i64 0, .int .i64 0, .int .i64 50]) rfl (by kernel_rfl)) rfl ?_
  refine wl_alloc zc46 rfl fun g6 => ?_
  refine wl_stores (cs' := [.string s3, .string s5, .int .i64 0, .int .i64 0, .int .i64 0, .int .i64 50]) 0 rz46 rfl rfl rfl rfl rfl rfl rfl rfl ?_
  refine wl_nil ?_
  refine nx_then ?_
  refine gw_seq ?_
  refine gw_region ?_
  refine wl_ov (ov_move rfl) rfl ?_
  refine wl_buildSlice (e := 3) (cs := [.int .i64 0, .int .i64 10, .int .i64 15, .int .i64 25, .int .i64 5761410]) rfl (by kernel_rfl) rfl fun g7 => ?_
  refine wl_got (γ := Int) (val := fun v => .int .i64 v) (φ := fun v => v ∈ ([0, 10, 15, 25, 5761410] : List Int)) rfl cb15 rfl rfl rfl rfl (fun wx hm => (pick_any [0, 10, 15, 25, 5761410] _ _ _ wx B sb _ hm.k (by omega) (by simp) (by simp) (hm.blkI 0 rfl) (hm.neRow 0 rfl rfl))) fun v8 hv8 => ?_
  have bv8 : 0 ≤ v8 ∧ v8 ≤ 5761410 := mem_rng hv8 (by decide)
  have bv80 := bv8.1
  have bv81 := bv8.2
  clear bv8
  refine wl_ov (ov_field fo46_2 rfl rfl) rfl ?_
  refine wl_ov (ov_field fo28_0 rfl rfl) rfl ?_
  refine wl_store 1 sc3 rfl rfl rfl rfl rfl rfl ?_
  refine wl_nil ?_
  refine nx_then ?_
  refine gw_cut (γ := Int) (I := (fun (v1 : Int) => v1 ≤ 10000000000 ∧ -1 ≤ v1)) (S' := (fun (v1 : Int) => [(0, .pointer (some ⟨sb, 0, none⟩)), (2, .pointer (some ⟨g1, 0, none⟩)), (3, .pointer (some ⟨g6, 0, none⟩))])) (K' := (fun (v1 : Int) => fun w => Strm 25 w B sb (m + 1 + 1 + 1 + 1))) (L' := (fun (v1 : Int) => [(g7, 3, [.int .i64 0, .int .i64 10, .int .i64 15, .int .i64 25, .int .i64 5761410]), (g6, 46, [.string s3, .string s5, .int .i64 v8, .int .i64 v1, .int .i64 0, .int .i64 50]), (g4, 9, [.string ⟨#[109, 105, 110, 105]⟩, .string ⟨#[109, 105, 100, 105]⟩, .string ⟨#[98, 105, 103]⟩, .string ⟨#[109, 97, 120, 105]⟩, .string ⟨#[110, 111, 110, 101]⟩]), (g2, 9, [.string ⟨#[98, 122]⟩, .string ⟨#[98, 122]⟩, .string ⟨#[97, 97]⟩, .string ⟨#[98, 97]⟩]), (g1, 46, [.string ⟨#[]⟩, .string ⟨#[]⟩, .int .i64 0, .int .i64 0, .int .i64 0, .int .i64 0])])) (O' := (fun (v1 : Int) => [])) (X' := (fun (v1 : Int) => [])) ?_ ?_
  · refine gw_draw (fun wz => Blk wz g7 3 [.int .i64 0, .int .i64 10, .int .i64 15, .int .i64 25, .int .i64 5761410] ∧ Blk wz g4 9 [.string ⟨#[109, 105, 110, 105]⟩, .string ⟨#[109, 105, 100, 105]⟩, .string ⟨#[98, 105, 103]⟩, .string ⟨#[109, 97, 120, 105]⟩, .string ⟨#[110, 111, 110, 101]⟩] ∧ Blk wz g2 9 [.string ⟨#[98, 122]⟩, .string ⟨#[98, 122]⟩, .string ⟨#[97, 97]⟩, .string ⟨#[98, 97]⟩] ∧ Blk wz g1 46 [.string ⟨#[]⟩, .string ⟨#[]⟩, .int .i64 0, .int .i64 0, .int .i64 0, .int .i64 0] ∧ True) mixed ?_
    refine wa_take 0 rfl (by kernel_rfl) (by kernel_rfl) (by kernel_rfl) (listed' := #[true, false, false, false, false, false, false, false, false, false]) rfl (fun _ _ _ h => h) (fun _ hm => ⟨hm.blkI 0 rfl, hm.blkI 2 rfl, hm.blkI 3 rfl, hm.blkI 4 rfl, trivial⟩) (ov_field fo46_2 rfl rfl) rfl ?_
    refine wa_take 1 rfl (by kernel_rfl) (by kernel_rfl) (by kernel_rfl) (listed' := #[true, true, false, false, false, false, false, false, false, false]) rfl (fun _ _ _ h => h) (fun _ hm => ⟨hm.blkI 0 rfl, hm.blkI 2 rfl, hm.blkI 3 rfl, hm.blkI 4 rfl, trivial⟩) (ov_field fo28_0 rfl rfl) rfl ?_
    refine wa_take 3 rfl (by kernel_rfl) (by kernel_rfl) (by kernel_rfl) (listed' := #[true, true, false, true, false, false, false, false, false, false]) rfl (fun _ _ _ h => h) (fun _ hm => ⟨hm.blkI 0 rfl, hm.blkI 2 rfl, hm.blkI 3 rfl, hm.blkI 4 rfl, trivial⟩) (ov_move rfl) rfl ?_
    refine wa_all [2, 4] (by kernel_rfl) rfl ⟨⟨_, rfl, ?_⟩, ⟨_, rfl, ?_⟩, trivial⟩
    · refine wl_ov (ov_load sc3 rfl (fun _ hm => hm.blkI 1 rfl) rfl) rfl ?_
      refine wl_nil ?_
      refine nx_wa0 (listed' := #[true, true, true, true, false, false, false, false, false, false]) rfl (fun _ hm => ⟨hm.blkI 0 rfl, hm.blkI 2 rfl, hm.blkI 3 rfl, hm.blkI 4 rfl, trivial⟩) ?_
      refine wa_all [4] (by kernel_rfl) rfl ⟨⟨_, rfl, ?_⟩, trivial⟩
      refine wl_buildSlice (e := 3) (cs := [.int .i64 1, .int .i64 5, .int .i64 10, .int .i64 10, .int .i64 29, .int .i64 0]) rfl (by kernel_rfl) rfl fun g9 => ?_
      refine wl_nil ?_
      refine nx_wa0 (listed' := #[true, true, true, true, true, false, false, false, false, false]) rfl (fun _ hm => ⟨hm.blkI 1 rfl, hm.blkI 3 rfl, hm.blkI 4 rfl, hm.blkI 5 rfl, trivial⟩) ?_
      refine wa_all [5] (by kernel_rfl) rfl ⟨⟨_, rfl, ?_⟩, trivial⟩
      refine wl_got (γ := Int) (val := fun v => .int .i64 v) (φ := fun v => v ∈ ([1, 5, 10, 10, 29, 0] : List Int)) rfl cb15 rfl rfl rfl rfl (fun wx hm => (pick_any [1, 5, 10, 10, 29, 0] _ _ _ wx B sb _ hm.k (by omega) (by simp) (by simp) (hm.blkI 0 rfl) (hm.neRow 0 rfl rfl))) fun v10 hv10 => ?_
      have bv10 : 0 ≤ v10 ∧ v10 ≤ 29 := mem_rng hv10 (by decide)
      have bv100 := bv10.1
      have bv101 := bv10.2
      clear bv10
      refine wl_nil ?_
      refine nx_wa0 (listed' := #[true, true, true, true, true, true, false, false, false, false]) rfl (fun _ hm => ⟨hm.blkI 1 rfl, hm.blkI 3 rfl, hm.blkI 4 rfl, hm.blkI 5 rfl, trivial⟩) ?_
      refine wa_take 6 rfl (by kernel_rfl) (by kernel_rfl) (by kernel_rfl) (listed' := #[true, true, true, true, true, true, true, false, false, false]) rfl (fun _ _ _ h => h) (fun _ hm => ⟨hm.blkI 1 rfl, hm.blkI 3 rfl, hm.blkI 4 rfl, hm.blkI 5 rfl, trivial⟩) (ov_add rfl rfl (by omega) (by omega)) rfl ?_
      refine wa_take 7 rfl (by kernel_rfl) (by kernel_rfl) (by kernel_rfl) (listed' := #[true, true, true, true, true, true, true, true, false, false]) rfl (fun _ _ _ h => h) (fun _ hm => ⟨hm.blkI 1 rfl, hm.blkI 3 rfl, hm.blkI 4 rfl, hm.blkI 5 rfl, trivial⟩) (ov_field fo46_2 rfl rfl) rfl ?_
      refine wa_take 8 rfl (by kernel_rfl) (by kernel_rfl) (by kernel_rfl) (listed' := #[true, true, true, true, true, true, true, true, true, false]) rfl (fun _ _ _ h => h) (fun _ hm => ⟨hm.blkI 1 rfl, hm.blkI 3 rfl, hm.blkI 4 rfl, hm.blkI 5 rfl, trivial⟩) (ov_field fo28_1 rfl rfl) rfl ?_
      refine wa_all [9] (by kernel_rfl) rfl ⟨⟨_, rfl, ?_⟩, trivial⟩
      refine wl_store 2 sc3 rfl rfl rfl rfl rfl rfl ?_
      refine wl_nil ?_
      refine nx_wa0 (listed' := #[true, true, true, true, true, true, true, true, true, true]) rfl (fun _ hm => ⟨hm.blkI 1 rfl, hm.blkI 3 rfl, hm.blkI 4 rfl, hm.blkI 5 rfl, trivial⟩) ?_
      refine wa_done (by kernel_rfl) ?_
      exact nx_meet (v8 + v10) (by omega) ⟨rfl, rfl, rfl, trivial⟩ (fun _ hm => hm.pick [1, 2, 3, 4, 5] [] [] rfl rfl)
    · refine wl_buildSlice (e := 3) (cs := [.int .i64 1, .int .i64 5, .int .i64 10, .int .i64 10, .int .i64 29, .int .i64 0]) rfl (by kernel_rfl) rfl fun g11 => ?_
      refine wl_nil ?_
      refine nx_wa0 (listed' := #[true, true, false, true, true, false, false, false, false, false]) rfl (fun _ hm => ⟨hm.blkI 1 rfl, hm.blkI 3 rfl, hm.blkI 4 rfl, hm.blkI 5 rfl, trivial⟩) ?_
      refine wa_all [2, 5] (by kernel_rfl) rfl ⟨⟨_, rfl, ?_⟩, ⟨_, rfl, ?_⟩, trivial⟩
      · refine wl_ov (ov_load sc3 rfl (fun _ hm => hm.blkI 2 rfl) rfl) rfl ?_
        refine wl_nil ?_
        refine nx_wa0 (listed' := #[true, true, true, true, true, false, false, false, false, false]) rfl (fun _ hm => ⟨hm.blkI 1 rfl, hm.blkI 3 rfl, hm.blkI 4 rfl, hm.blkI 5 rfl, trivial⟩) ?_
        refine wa_all [5] (by kernel_rfl) rfl ⟨⟨_, rfl, ?_⟩, trivial⟩
        refine wl_got (γ := Int) (val := fun v => .int .i64 v) (φ := fun v => v ∈ ([1, 5, 10, 10, 29, 0] : List Int)) rfl cb15 rfl rfl rfl rfl (fun wx hm => (pick_any [1, 5, 10, 10, 29, 0] _ _ _ wx B sb _ hm.k (by omega) (by simp) (by simp) (hm.blkI 0 rfl) (hm.neRow 0 rfl rfl))) fun v12 hv12 => ?_
        have bv12 : 0 ≤ v12 ∧ v12 ≤ 29 := mem_rng hv12 (by decide)
        have bv120 := bv12.1
        have bv121 := bv12.2
        clear bv12
        refine wl_nil ?_
        refine nx_wa0 (listed' := #[true, true, true, true, true, true, false, false, false, false]) rfl (fun _ hm => ⟨hm.blkI 1 rfl, hm.blkI 3 rfl, hm.blkI 4 rfl, hm.blkI 5 rfl, trivial⟩) ?_
        refine wa_take 6 rfl (by kernel_rfl) (by kernel_rfl) (by kernel_rfl) (listed' := #[true, true, true, true, true, true, true, false, false, false]) rfl (fun _ _ _ h => h) (fun _ hm => ⟨hm.blkI 1 rfl, hm.blkI 3 rfl, hm.blkI 4 rfl, hm.blkI 5 rfl, trivial⟩) (ov_add rfl rfl (by omega) (by omega)) rfl ?_
        refine wa_take 7 rfl (by kernel_rfl) (by kernel_rfl) (by kernel_rfl) (listed' := #[true, true, true, true, true, true, true, true, false, false]) rfl (fun _ _ _ h => h) (fun _ hm => ⟨hm.blkI 1 rfl, hm.blkI 3 rfl, hm.blkI 4 rfl, hm.blkI 5 rfl, trivial⟩) (ov_field fo46_2 rfl rfl) rfl ?_
        refine wa_take 8 rfl (by kernel_rfl) (by kernel_rfl) (by kernel_rfl) (listed' := #[true, true, true, true, true, true, true, true, true, false]) rfl (fun _ _ _ h => h) (fun _ hm => ⟨hm.blkI 1 rfl, hm.blkI 3 rfl, hm.blkI 4 rfl, hm.blkI 5 rfl, trivial⟩) (ov_field fo28_1 rfl rfl) rfl ?_
        refine wa_all [9] (by kernel_rfl) rfl ⟨⟨_, rfl, ?_⟩, trivial⟩
        refine wl_store 2 sc3 rfl rfl rfl rfl rfl rfl ?_
        refine wl_nil ?_
        refine nx_wa0 (listed' := #[true, true, true, true, true, true, true, true, true, true]) rfl (fun _ hm => ⟨hm.blkI 1 rfl, hm.blkI 3 rfl, hm.blkI 4 rfl, hm.blkI 5 rfl, trivial⟩) ?_
        refine wa_done (by kernel_rfl) ?_
        exact nx_meet (v8 + v12) (by omega) ⟨rfl, rfl, rfl, trivial⟩ (fun _ hm => hm.pick [1, 2, 3, 4, 5] [] [] rfl rfl)
      · refine wl_got (γ := Int) (val := fun v => .int .i64 v) (φ := fun v => v ∈ ([1, 5, 10, 10, 29, 0] : List Int)) rfl cb15 rfl rfl rfl rfl (fun wx hm => (pick_any [1, 5, 10, 10, 29, 0] _ _ _ wx B sb _ hm.k (by omega) (by simp) (by simp) (hm.blkI 0 rfl) (hm.neRow 0 rfl rfl))) fun v13 hv13 => ?_
        have bv13 : 0 ≤ v13 ∧ v13 ≤ 29 := mem_rng hv13 (by decide)
        have bv130 := bv13.1
        have bv131 := bv13.2
        clear bv13
        refine wl_nil ?_
        refine nx_wa0 (listed' := #[true, true, false, true, true, true, false, false, false, false]) rfl (fun _ hm => ⟨hm.blkI 1 rfl, hm.blkI 3 rfl, hm.blkI 4 rfl, hm.blkI 5 rfl, trivial⟩) ?_
        refine wa_all [2] (by kernel_rfl) rfl ⟨⟨_, rfl, ?_⟩, trivial⟩
        refine wl_ov (ov_load sc3 rfl (fun _ hm => hm.blkI 2 rfl) rfl) rfl ?_
        refine wl_nil ?_
        refine nx_wa0 (listed' := #[true, true, true, true, true, true, false, false, false, false]) rfl (fun _ hm => ⟨hm.blkI 1 rfl, hm.blkI 3 rfl, hm.blkI 4 rfl, hm.blkI 5 rfl, trivial⟩) ?_
        refine wa_take 6 rfl (by kernel_rfl) (by kernel_rfl) (by kernel_rfl) (listed' := #[true, true, true, true, true, true, true, false, false, false]) rfl (fun _ _ _ h => h) (fun _ hm => ⟨hm.blkI 1 rfl, hm.blkI 3 rfl, hm.blkI 4 rfl, hm.blkI 5 rfl, trivial⟩) (ov_add rfl rfl (by omega) (by omega)) rfl ?_
        refine wa_take 7 rfl (by kernel_rfl) (by kernel_rfl) (by kernel_rfl) (listed' := #[true, true, true, true, true, true, true, true, false, false]) rfl (fun _ _ _ h => h) (fun _ hm => ⟨hm.blkI 1 rfl, hm.blkI 3 rfl, hm.blkI 4 rfl, hm.blkI 5 rfl, trivial⟩) (ov_field fo46_2 rfl rfl) rfl ?_
        refine wa_take 8 rfl (by kernel_rfl) (by kernel_rfl) (by kernel_rfl) (listed' := #[true, true, true, true, true, true, true, true, true, false]) rfl (fun _ _ _ h => h) (fun _ hm => ⟨hm.blkI 1 rfl, hm.blkI 3 rfl, hm.blkI 4 rfl, hm.blkI 5 rfl, trivial⟩) (ov_field fo28_1 rfl rfl) rfl ?_
        refine wa_all [9] (by kernel_rfl) rfl ⟨⟨_, rfl, ?_⟩, trivial⟩
        refine wl_store 2 sc3 rfl rfl rfl rfl rfl rfl ?_
        refine wl_nil ?_
        refine nx_wa0 (listed' := #[true, true, true, true, true, true, true, true, true, true]) rfl (fun _ hm => ⟨hm.blkI 1 rfl, hm.blkI 3 rfl, hm.blkI 4 rfl, hm.blkI 5 rfl, trivial⟩) ?_
        refine wa_done (by kernel_rfl) ?_
        exact nx_meet (v8 + v13) (by omega) ⟨rfl, rfl, rfl, trivial⟩ (fun _ hm => hm.pick [1, 2, 3, 4, 5] [] [] rfl rfl)
  · intro v1 hinv
    replace hinv : v1 ≤ 10000000000 ∧ -1 ≤ v1 := hinv
    refine gw_seq ?_
    refine gw_seq ?_
    refine gw_region ?_
    obtain ⟨hv1, hv2⟩ := hinv
    refine wl_ov (ov_move rfl) rfl ?_
    refine wl_got (γ := Bool) (val := fun v => .bool v) (φ := fun v => True) rfl cb23 rfl rfl rfl rfl (fun wx hm => ((flip_any _ wx B sb _ hm.k (by omega) (by omega) (by omega)).mono fun _ _ ⟨v, he, hS, hg⟩ => ⟨v, trivial, he, hS, hg⟩)) fun f14 _ => ?_
    refine wl_nil ?_
    refine nx_then ?_
    refine gw_cond rfl (fun hh => ?_) (fun hh => ?_)
    · have hf : f14 = true := by simpa using hh
      clear hh
      refine gw_region ?_
      refine wl_ov (ov_move rfl) rfl ?_
      refine wl_got (γ := Int) (val := fun v => .int .i64 v) (φ := fun v => -2000000000000000 ≤ v ∧ v ≤ 2000000000000000) rfl cb34 rfl rfl rfl rfl (fun wx hm => (odd_any _ _ wx B sb _ hm.k (by omega) (by omega) (by omega) (by omega))) fun v15 hv15 => ?_
      refine wl_ov (ov_move rfl) rfl ?_
      refine wl_got (γ := Int) (val := fun v => .int .i64 v) (φ := fun v => -2000000000000000 ≤ v ∧ v ≤ 2000000000000000) rfl cb34 rfl rfl rfl rfl (fun wx hm => (odd_any _ _ wx B sb _ hm.k (by omega) (by omega) (by omega) (by omega))) fun v16 hv16 => ?_
      refine wl_ov (ov_field fo46_4 rfl rfl) rfl ?_
      refine wl_store 1 sc3 rfl rfl rfl rfl rfl rfl ?_
      refine wl_ov (ov_field fo46_3 rfl rfl) rfl ?_
      refine wl_store 1 sc3 rfl rfl rfl rfl rfl rfl ?_
      refine wl_nil ?_
      refine nx_then ?_
      refine gw_seq ?_
      refine gw_region ?_
      refine wl_ov (ov_loads rz46 rfl (fun _ hm => hm.blkI 1 rfl) rfl rfl) rfl ?_
      refine wl_stores (cs' := [.string s3, .string s5, .int .i64 v8, .int .i64 v1, .int .i64 v16, .int .i64 v15]) 4 rz46 rfl rfl rfl rfl rfl rfl rfl rfl ?_
      refine wl_nil ?_
      refine nx_then ?_
      refine gw_ret ?_
      refine nx_retc 4 rfl rz46 rfl rfl rfl fun wx hm => ?_
      exact ⟨⟨s3, s5, v8, v1, v16, v15⟩, rfl, ⟨show s3.size ≤ 1000000 by omega, show s5.size ≤ 1000000 by omega⟩, show 0 ≤ v8 ∧ v8 ≤ 5761410 by omega, hm.k.more (by omega), hm.g⟩
    · have hf : f14 = false := by simpa using hh
      clear hh
      refine gw_skip ?_
      refine nx_then ?_
      refine gw_seq ?_
      refine gw_region ?_
      refine wl_ov (ov_loads rz46 rfl (fun _ hm => hm.blkI 1 rfl) rfl rfl) rfl ?_
      refine wl_stores (cs' := [.string s3, .string s5, .int .i64 v8, .int .i64 v1, .int .i64 0, .int .i64 50]) 4 rz46 rfl rfl rfl rfl rfl rfl rfl rfl ?_
      refine wl_nil ?_
      refine nx_then ?_
      refine gw_ret ?_
      refine nx_retc 4 rfl rz46 rfl rfl rfl fun wx hm => ?_
      exact ⟨⟨s3, s5, v8, v1, 0, 50⟩, rfl, ⟨show s3.size ≤ 1000000 by omega, show s5.size ≤ 1000000 by omega⟩, show 0 ≤ v8 ∧ v8 ≤ 5761410 by omega, hm.k.more (by omega), hm.g⟩

set_option maxRecDepth 100000 in
set_option maxHeartbeats 400000 in
theorem momentFault_any (n : Int) (w : World) : Calls Tryd.prog 30 #[.int .i64 n] w (GotE w (momentE n)) := by
  refine gw_enter ⟨7, w, none, []⟩ Tryd.func30 rfl Tryd.ntmps30 rfl (mem0 (X := []) allF_nil allL_nil) ?_
  refine gw_seq ?_
  refine gw_region ?_
  refine wl_ov (ov_assign rfl) rfl ?_
  refine wl_nil ?_
  refine nx_then ?_
  refine gw_seq ?_
  refine gw_region ?_
  refine wl_ov (ov_move rfl) rfl ?_
  refine wl_callw rfl cb103 rfl rfl (fun wx hm => (rmoment_any _ wx)) ?_
  refine wl_ov (ov_un_not rfl) rfl ?_
  refine wl_callw rfl cb29 rfl rfl (fun wx hm => (rwhen_any _ _ wx)) ?_
  refine wl_ov (ov_assign rfl) rfl ?_
  refine wl_nil ?_
  refine nx_then ?_
  refine gw_ret ?_
  refine nx_ret1 rfl rfl fun wx hm => ?_
  exact ⟨rfl, hm.g⟩

/-- What is wrong with a cancelling. -/
def cancelE (l : List Tr) (b : Bk) (v mo : Int) : Int := firstE [tiersE l, formE [b], whenE (!inB v 0 1000000000) 1, momentE mo]
set_option maxRecDepth 100000 in
set_option maxHeartbeats 400000 in
theorem cancelFee_any (l : List Tr) (A : Option Addr) (n c : Nat) (ke cl : ByteArray) (fr tt ma od v mo : Int) (w : World) (hl : SlT trEnc 2 141 w A n l) (hn : n ≤ 1000000) (hok : BkOk ⟨ke, cl, fr, tt, ma, od⟩) :
    Calls Tryd.prog 24 #[.slice A n c, .agg #[.string ke, .string cl, .int .i64 fr, .int .i64 tt, .int .i64 ma, .int .i64 od], .int .i64 v, .int .i64 mo] w (RetIE w (if cancelE l ⟨ke, cl, fr, tt, ma, od⟩ v mo = 0 then feeV l v (fr - mo) else 0) (cancelE l ⟨ke, cl, fr, tt, ma, od⟩ v mo)) := by
  refine gw_enter ⟨51, w, none, []⟩ Tryd.func24 rfl Tryd.ntmps24 rfl (mem0 (X := [SlOld trEnc 2 141 w.heap.size none A n l]) (allF_cons hl.old allF_nil) (allL_cons SlOld.lasts allL_nil)) ?_
  refine gw_seq ?_
  refine gw_region ?_
  have hlen := hl.len
  refine wl_box rfl rfl rfl fun g1 => ?_
  refine wl_ov (ov_assign rfl) rfl ?_
  refine wl_ov (ov_assign rfl) rfl ?_
  refine wl_nil ?_
  refine nx_then ?_
  refine gw_seq ?_
  refine gw_cut (γ := Unit) (I := (fun (u : Unit) => True)) (S' := (fun (u : Unit) => [(0, .slice A n c), (2, .int .i64 v), (3, .int .i64 mo), (5, .pointer (some ⟨g1, 0, none⟩)), (8, .int .i64 0), (9, .int .i64 0), (10, .int .i64 (firstE [tiersE l, formE [⟨ke, cl, fr, tt, ma, od⟩], whenE (!inB v 0 1000000000) 1, momentE mo]))])) (K' := (fun (u : Unit) => fun _ => True)) (L' := (fun (u : Unit) => [(g1, 46, [.string ke, .string cl, .int .i64 fr, .int .i64 tt, .int .i64 ma, .int .i64 od])])) (O' := (fun (u : Unit) => [])) (X' := (fun (u : Unit) => [SlOld trEnc 2 141 w.heap.size none A n l])) ?_ ?_
  · refine gw_draw (fun wz => Blk wz g1 46 [.string ke, .string cl, .int .i64 fr, .int .i64 tt, .int .i64 ma, .int .i64 od] ∧ (SlOld trEnc 2 141 w.heap.size none A n l) wz ∧ True) mixed ?_
    refine wa_take 0 rfl (by kernel_rfl) (by kernel_rfl) (by kernel_rfl) (listed' := #[true, false, false, false, false, false, false, false, false, false, false, false, false, false]) rfl (fun _ _ _ h => h) (fun _ hm => ⟨hm.blkI 0 rfl, hm.fact 0 rfl, trivial⟩) (ov_move rfl) rfl ?_
    refine wa_take 2 rfl (by kernel_rfl) (by kernel_rfl) (by kernel_rfl) (listed' := #[true, false, true, false, false, false, false, false, false, false, false, false, false, false]) rfl (fun _ _ _ h => h) (fun _ hm => ⟨hm.blkI 0 rfl, hm.fact 0 rfl, trivial⟩) (ov_loads rz46 rfl (fun _ hm => hm.1) rfl rfl) rfl ?_
    refine wa_take 5 rfl (by kernel_rfl) (by kernel_rfl) (by kernel_rfl) (listed' := #[true, false, true, false, false, true, false, false, false, false, false, false, false, false]) rfl (fun _ _ _ h => h) (fun _ hm => ⟨hm.blkI 0 rfl, hm.fact 0 rfl, trivial⟩) (ov_move rfl) rfl ?_
    refine wa_take 9 rfl (by kernel_rfl) (by kernel_rfl) (by kernel_rfl) (listed' := #[true, false, true, false, false, true, false, false, false, true, false, false, false, false]) rfl (fun _ _ _ h => h) (fun _ hm => ⟨hm.blkI 0 rfl, hm.fact 0 rfl, trivial⟩) (ov_move rfl) rfl ?_
    refine wa_all [1, 3] (by kernel_rfl) rfl ⟨⟨_, rfl, ?_⟩, ⟨_, rfl, ?_⟩, trivial⟩
    · refine wl_callv rfl cb26 rfl rfl (fun wx hm => (checkTiers_any l A n c wx (hm.fact 0 rfl).1 hn)) ?_
      refine wl_nil ?_
      refine nx_wa0 (listed' := #[true, true, true, false, false, true, false, false, false, true, false, false, false, false]) rfl (fun _ hm => ⟨hm.blkI 0 rfl, hm.fact 0 rfl, trivial⟩) ?_
      refine wa_all [3] (by kernel_rfl) rfl ⟨⟨_, rfl, ?_⟩, trivial⟩
      refine wl_buildSlice (e := 46) (cs := [.string ke, .string cl, .int .i64 fr, .int .i64 tt, .int .i64 ma, .int .i64 od]) rfl (by kernel_rfl) rfl fun g2 => ?_
      refine wl_nil ?_
      refine nx_wa0 (listed' := #[true, true, true, true, false, true, false, false, false, true, false, false, false, false]) rfl (fun _ hm => ⟨hm.blkI 1 rfl, hm.fact 0 rfl, trivial⟩) ?_
      refine wa_all [4] (by kernel_rfl) rfl ⟨⟨_, rfl, ?_⟩, trivial⟩
      refine wl_callv rfl cb97 rfl rfl (fun wx hm => (formed_any [⟨ke, cl, fr, tt, ma, od⟩] _ 1 1 wx (SlT.ofBlk (l := [⟨ke, cl, fr, tt, ma, od⟩]) bk_len (hm.blkI 0 rfl)) (fun b hb => by rw [List.mem_singleton.1 hb]; exact hok) (by omega))) ?_
      refine wl_nil ?_
      refine nx_wa0 (listed' := #[true, true, true, true, true, true, false, false, false, true, false, false, false, false]) rfl (fun _ hm => ⟨hm.blkI 1 rfl, hm.fact 0 rfl, trivial⟩) ?_
      refine wa_all [6] (by kernel_rfl) rfl ⟨⟨_, rfl, ?_⟩, trivial⟩
      refine wl_callw rfl cb99 rfl rfl (fun wx hm => (in_any _ _ _ wx)) ?_
      refine wl_nil ?_
      refine nx_wa0 (listed' := #[true, true, true, true, true, true, true, false, false, true, false, false, false, false]) rfl (fun _ hm => ⟨hm.blkI 1 rfl, hm.fact 0 rfl, trivial⟩) ?_
      refine wa_take 7 rfl (by kernel_rfl) (by kernel_rfl) (by kernel_rfl) (listed' := #[true, true, true, true, true, true, true, true, false, true, false, false, false, false]) rfl (fun _ _ _ h => h) (fun _ hm => ⟨hm.blkI 1 rfl, hm.fact 0 rfl, trivial⟩) (ov_un_not rfl) rfl ?_
      refine wa_all [8] (by kernel_rfl) rfl ⟨⟨_, rfl, ?_⟩, trivial⟩
      refine wl_callw rfl cb98 rfl rfl (fun wx hm => (when_any _ _ wx)) ?_
      refine wl_nil ?_
      refine nx_wa0 (listed' := #[true, true, true, true, true, true, true, true, true, true, false, false, false, false]) rfl (fun _ hm => ⟨hm.blkI 1 rfl, hm.fact 0 rfl, trivial⟩) ?_
      refine wa_all [10] (by kernel_rfl) rfl ⟨⟨_, rfl, ?_⟩, trivial⟩
      refine wl_callw rfl cb100 rfl rfl (fun wx hm => (moment_any _ wx)) ?_
      refine wl_nil ?_
      refine nx_wa0 (listed' := #[true, true, true, true, true, true, true, true, true, true, true, false, false, false]) rfl (fun _ hm => ⟨hm.blkI 1 rfl, hm.fact 0 rfl, trivial⟩) ?_
      refine wa_all [11] (by kernel_rfl) rfl ⟨⟨_, rfl, ?_⟩, trivial⟩
      refine wl_buildSlice (e := 37) (cs := [.int .i64 (tiersE l), .int .i64 (formE [⟨ke, cl, fr, tt, ma, od⟩]), .int .i64 (whenE (!(inB v 0 1000000000)) 1), .int .i64 (momentE mo)]) rfl (by kernel_rfl) rfl fun g3 => ?_
      refine wl_nil ?_
      refine nx_wa0 (listed' := #[true, true, true, true, true, true, true, true, true, true, true, true, false, false]) rfl (fun _ hm => ⟨hm.blkI 2 rfl, hm.fact 0 rfl, trivial⟩) ?_
      refine wa_all [12] (by kernel_rfl) rfl ⟨⟨_, rfl, ?_⟩, trivial⟩
      refine wl_callw rfl cb96 rfl rfl (fun wx hm => (first_any [tiersE l, formE [⟨ke, cl, fr, tt, ma, od⟩], whenE (!(inB v 0 1000000000)) 1, momentE mo] _ _ _ wx (hm.blkI 0 rfl) (by simp))) ?_
      refine wl_nil ?_
      refine nx_wa0 (listed' := #[true, true, true, true, true, true, true, true, true, true, true, true, true, false]) rfl (fun _ hm => ⟨hm.blkI 2 rfl, hm.fact 0 rfl, trivial⟩) ?_
      refine wa_take 13 rfl (by kernel_rfl) (by kernel_rfl) (by kernel_rfl) (listed' := #[true, true, true, true, true, true, true, true, true, true, true, true, true, true]) rfl (fun _ _ _ h => h) (fun _ hm => ⟨hm.blkI 2 rfl, hm.fact 0 rfl, trivial⟩) (ov_assign rfl) rfl ?_
      refine wa_done (by kernel_rfl) ?_
      exact nx_meet () trivial ⟨rfl, rfl, rfl, rfl, rfl, rfl, rfl, trivial⟩ (fun _ hm => hm.pick [2] [] [0] rfl rfl)
    · refine wl_buildSlice (e := 46) (cs := [.string ke, .string cl, .int .i64 fr, .int .i64 tt, .int .i64 ma, .int .i64 od]) rfl (by kernel_rfl) rfl fun g4 => ?_
      refine wl_nil ?_
      refine nx_wa0 (listed' := #[true, false, true, true, false, true, false, false, false, true, false, false, false, false]) rfl (fun _ hm => ⟨hm.blkI 1 rfl, hm.fact 0 rfl, trivial⟩) ?_
      refine wa_all [1] (by kernel_rfl) rfl ⟨⟨_, rfl, ?_⟩, trivial⟩
      refine wl_callv rfl cb26 rfl rfl (fun wx hm => (checkTiers_any l A n c wx (hm.fact 0 rfl).1 hn)) ?_
      refine wl_nil ?_
      refine nx_wa0 (listed' := #[true, true, true, true, false, true, false, false, false, true, false, false, false, false]) rfl (fun _ hm => ⟨hm.blkI 1 rfl, hm.fact 0 rfl, trivial⟩) ?_
      refine wa_all [4] (by kernel_rfl) rfl ⟨⟨_, rfl, ?_⟩, trivial⟩
      refine wl_callv rfl cb97 rfl rfl (fun wx hm => (formed_any [⟨ke, cl, fr, tt, ma, od⟩] _ 1 1 wx (SlT.ofBlk (l := [⟨ke, cl, fr, tt, ma, od⟩]) bk_len (hm.blkI 0 rfl)) (fun b hb => by rw [List.mem_singleton.1 hb]; exact hok) (by omega))) ?_
      refine wl_nil ?_
      refine nx_wa0 (listed' := #[true, true, true, true, true, true, false, false, false, true, false, false, false, false]) rfl (fun _ hm => ⟨hm.blkI 1 rfl, hm.fact 0 rfl, trivial⟩) ?_
      refine wa_all [6] (by kernel_rfl) rfl ⟨⟨_, rfl, ?_⟩, trivial⟩
      refine wl_callw rfl cb99 rfl rfl (fun wx hm => (in_any _ _ _ wx)) ?_
      refine wl_nil ?_
      refine nx_wa0 (listed' := #[true, true, true, true, true, true, true, false, false, true, false, false, false, false]) rfl (fun _ hm => ⟨hm.blkI 1 rfl, hm.fact 0 rfl, trivial⟩) ?_
      refine wa_take 7 rfl (by kernel_rfl) (by kernel_rfl) (by kernel_rfl) (listed' := #[true, true, true, true, true, true, true, true, false, true, false, false, false, false]) rfl (fun _ _ _ h => h) (fun _ hm => ⟨hm.blkI 1 rfl, hm.fact 0 rfl, trivial⟩) (ov_un_not rfl) rfl ?_
      refine wa_all [8] (by kernel_rfl) rfl ⟨⟨_, rfl, ?_⟩, trivial⟩
      refine wl_callw rfl cb98 rfl rfl (fun wx hm => (when_any _ _ wx)) ?_
      refine wl_nil ?_
      refine nx_wa0 (listed' := #[true, true, true, true, true, true, true, true, true, true, false, false, false, false]) rfl (fun _ hm => ⟨hm.blkI 1 rfl, hm.fact 0 rfl, trivial⟩) ?_
      refine wa_all [10] (by kernel_rfl) rfl ⟨⟨_, rfl, ?_⟩, trivial⟩
      refine wl_callw rfl cb100 rfl rfl (fun wx hm => (moment_any _ wx)) ?_
      refine wl_nil ?_
      refine nx_wa0 (listed' := #[true, true, true, true, true, true, true, true, true, true, true, false, false, false]) rfl (fun _ hm => ⟨hm.blkI 1 rfl, hm.fact 0 rfl, trivial⟩) ?_
      refine wa_all [11] (by kernel_rfl) rfl ⟨⟨_, rfl, ?_⟩, trivial⟩
      refine wl_buildSlice (e := 37) (cs := [.int .i64 (tiersE l), .int .i64 (formE [⟨ke, cl, fr, tt, ma, od⟩]), .int .i64 (whenE (!(inB v 0 1000000000)) 1), .int .i64 (momentE mo)]) rfl (by kernel_rfl) rfl fun g5 => ?_
      refine wl_nil ?_
      refine nx_wa0 (listed' := #[true, true, true, true, true, true, true, true, true, true, true, true, false, false]) rfl (fun _ hm => ⟨hm.blkI 2 rfl, hm.fact 0 rfl, trivial⟩) ?_
      refine wa_all [12] (by kernel_rfl) rfl ⟨⟨_, rfl, ?_⟩, trivial⟩
      refine wl_callw rfl cb96 rfl rfl (fun wx hm => (first_any [tiersE l, formE [⟨ke, cl, fr, tt, ma, od⟩], whenE (!(inB v 0 1000000000)) 1, momentE mo] _ _ _ wx (hm.blkI 0 rfl) (by simp))) ?_
      refine wl_nil ?_
      refine nx_wa0 (listed' := #[true, true, true, true, true, true, true, true, true, true, true, true, true, false]) rfl (fun _ hm => ⟨hm.blkI 2 rfl, hm.fact 0 rfl, trivial⟩) ?_
      refine wa_take 13 rfl (by kernel_rfl) (by kernel_rfl) (by kernel_rfl) (listed' := #[true, true, true, true, true, true, true, true, true, true, true, true, true, true]) rfl (fun _ _ _ h => h) (fun _ hm => ⟨hm.blkI 2 rfl, hm.fact 0 rfl, trivial⟩) (ov_assign rfl) rfl ?_
      refine wa_done (by kernel_rfl) ?_
      exact nx_meet () trivial ⟨rfl, rfl, rfl, rfl, rfl, rfl, rfl, trivial⟩ (fun _ hm => hm.pick [2] [] [0] rfl rfl)
  · intro u hinv
    replace hinv : True := hinv
    refine gw_seq ?_
    refine gw_region ?_
    refine wl_ov (ov_move rfl) rfl ?_
    refine wl_ov (ov_neq rfl rfl) rfl ?_
    refine wl_nil ?_
    refine nx_then ?_
    refine gw_cond rfl (fun hh => ?_) (fun hh => ?_)
    · have hE : ¬ (firstE [tiersE l, formE [⟨ke, cl, fr, tt, ma, od⟩], whenE (!inB v 0 1000000000) 1, momentE mo] = 0) := by simpa using hh
      clear hh
      refine gw_seq ?_
      refine gw_region ?_
      refine wl_ov (ov_move rfl) rfl ?_
      refine wl_ov (ov_assign rfl) rfl ?_
      refine wl_ov (ov_assign rfl) rfl ?_
      refine wl_nil ?_
      refine nx_then ?_
      refine gw_ret ?_
      refine nx_then_ret ?_
      refine nx_ret2 rfl rfl rfl fun wx hm => ?_
      exact ⟨ret_ie (by rw [if_neg (show ¬ cancelE l ⟨ke, cl, fr, tt, ma, od⟩ v mo = 0 from hE)]) rfl, hm.g⟩
    · have hE : firstE [tiersE l, formE [⟨ke, cl, fr, tt, ma, od⟩], whenE (!inB v 0 1000000000) 1, momentE mo] = 0 := by simpa using hh
      clear hh
      refine gw_skip ?_
      refine nx_then ?_
      refine gw_seq ?_
      refine gw_region ?_
      have hz := firstE_all hE
      have ht := tiersE_ok (hz (tiersE l) (by simp))
      have hb := formE_one (hz (formE [⟨ke, cl, fr, tt, ma, od⟩]) (by simp))
      have hv := whenE_ok (by decide) (hz (whenE (!inB v 0 1000000000) 1) (by simp))
      have hmo := whenE_ok (by decide) (show whenE (!inB mo 0 5761439) 1 = 0 from hz (momentE mo) (by simp))
      have hv : 0 ≤ v ∧ v ≤ 1000000000 := by simpa [inB] using hv
      have hmo : 0 ≤ mo ∧ mo ≤ 5761439 := by simpa [inB] using hmo
      have hf0 : 0 ≤ fr := hb.1
      have hf1 : fr < tt := hb.2.1
      have hf2 : tt ≤ 5761439 := hb.2.2.1
      have htl := ht.2
      obtain ⟨hv0, hv1⟩ := hv
      obtain ⟨hmo0, hmo1⟩ := hmo
      clear hz hb ht
      refine wl_ov (ov_assign rfl) rfl ?_
      refine wl_nil ?_
      refine nx_then ?_
      refine gw_seq ?_
      refine gw_seq ?_
      refine gw_region ?_
      refine wl_ov (ov_move rfl) rfl ?_
      refine wl_ov (ov_len es43 rfl) rfl ?_
      refine wl_ov (ov_move rfl) rfl ?_
      refine wl_nil ?_
      refine nx_then ?_
      refine gw_block ?_
      refine gw_loop (γ := Nat) (fun (k : Nat) => k ≤ n) (fun (k : Nat) => [(2, .int .i64 v), (3, .int .i64 mo), (5, .pointer (some ⟨g1, 0, none⟩)), (8, .int .i64 0), (9, .int .i64 0), (11, .int .i64 (feeV (l.take k) v (fr - mo))), (30, .slice A n c), (31, .int .i64 ((n : Nat) : Int)), (32, .int .i64 ((k : Nat) : Int))]) (fun (k : Nat) => fun _ => True) (fun (k : Nat) => [(g1, 46, [.string ke, .string cl, .int .i64 fr, .int .i64 tt, .int .i64 ma, .int .i64 od])]) (fun (k : Nat) => []) (fun (k : Nat) => [SlOld trEnc 2 141 w.heap.size none A n l]) (fun (k : Nat) => n - k) 0 (Nat.zero_le _) ⟨rfl, rfl, rfl, rfl, rfl, rfl, rfl, rfl, rfl, trivial⟩ (fun _ hm => hm.pick [0] [] [0] rfl rfl) ?_
      intro k hinv
      replace hinv : k ≤ n := hinv
      refine gw_seq ?_
      refine gw_region ?_
      refine wl_ov (ov_lss rfl rfl) rfl ?_
      refine wl_nil ?_
      refine nx_then ?_
      refine gw_seq ?_
      refine gw_cond rfl (fun hh => ?_) (fun hh => ?_)
      · have hk : ((k : Nat) : Int) < ((n : Nat) : Int) := by simpa using hh
        clear hh
        refine gw_skip ?_
        refine nx_then ?_
        refine gw_seq ?_
        refine gw_block ?_
        refine gw_seq ?_
        refine gw_region ?_
        obtain ⟨b, off, hA, _, _⟩ := hl.get (by omega)
        subst hA
        obtain ⟨x, hx⟩ : ∃ x, l[k]? = some x := ⟨_, List.getElem?_eq_getElem (by omega)⟩
        obtain ⟨hr, ml⟩ := x
        have hft := feeV_take (v := v) (d := fr - mo) hx
        have hml := (htl _ (List.mem_of_getElem? hx)).2
        have hp := mul_bound hv0 hv1 hml.1 hml.2
        have hp : 0 ≤ v * ml ∧ v * ml ≤ 1000000000 * 1000 := hp
        refine wl_ov (ov_index (j := k) es43 rfl rfl (by omega)) rfl ?_
        refine wl_ov (ov_elem rz141 rfl (fun _ hm => (hm.fact 0 rfl).1) hx rfl rfl) rfl ?_
        refine wl_alloc zc141 rfl fun g6 => ?_
        refine wl_stores (cs' := [.int .i64 hr, .int .i64 ml]) 0 rz141 rfl rfl rfl rfl rfl rfl rfl rfl ?_
        refine wl_nil ?_
        refine nx_then ?_
        refine gw_seq ?_
        refine gw_region ?_
        refine wl_ov (ov_field fo141_0 rfl rfl) rfl ?_
        refine wl_ov (ov_load sc3 rfl (fun _ hm => hm.blkI 0 rfl) rfl) rfl ?_
        refine wl_ov (ov_field fo46_2 rfl rfl) rfl ?_
        refine wl_ov (ov_field fo28_0 rfl rfl) rfl ?_
        refine wl_ov (ov_load sc3 rfl (fun _ hm => hm.blkI 1 rfl) rfl) rfl ?_
        refine wl_ov (ov_move rfl) rfl ?_
        refine wl_ov (ov_sub rfl rfl (by omega) (by omega)) rfl ?_
        refine wl_ov (ov_gtr rfl rfl) rfl ?_
        refine wl_nil ?_
        refine nx_then ?_
        refine gw_cond rfl (fun hh => ?_) (fun hh => ?_)
        · have hd : fr - mo < hr := by simpa using hh
          clear hh
          refine gw_region ?_
          refine wl_ov (ov_move rfl) rfl ?_
          refine wl_ov (ov_field fo141_1 rfl rfl) rfl ?_
          refine wl_ov (ov_load sc3 rfl (fun _ hm => hm.blkI 0 rfl) rfl) rfl ?_
          refine wl_ov (ov_mul rfl rfl (by omega) (by omega)) rfl ?_
          refine wl_ov (ov_quo rfl rfl (by omega) (by omega) (by omega)) rfl ?_
          refine wl_ov (ov_assign rfl) rfl ?_
          refine wl_nil ?_
          refine nx_blk_nrm ?_
          refine nx_then ?_
          refine gw_region ?_
          refine wl_ov (ov_add rfl rfl (by omega) (by omega)) rfl ?_
          refine wl_ov (ov_move rfl) rfl ?_
          refine wl_nil ?_
          exact nx_round (k + 1) (by omega) (by omega) ⟨rfl, rfl, rfl, rfl, rfl, (some_int (by rw [hft, if_pos (show fr - mo < hr from hd)])), rfl, rfl, (some_int (by omega)), trivial⟩ (fun _ hm => hm.pick [1] [] [0] rfl rfl)
        · have hd : ¬ (fr - mo < hr) := by simpa using hh
          clear hh
          refine gw_skip ?_
          refine nx_blk_nrm ?_
          refine nx_then ?_
          refine gw_region ?_
          refine wl_ov (ov_add rfl rfl (by omega) (by omega)) rfl ?_
          refine wl_ov (ov_move rfl) rfl ?_
          refine wl_nil ?_
          exact nx_round (k + 1) (by omega) (by omega) ⟨rfl, rfl, rfl, rfl, rfl, (some_int (by rw [hft, if_neg (show ¬ fr - mo < hr from hd)])), rfl, rfl, (some_int (by omega)), trivial⟩ (fun _ hm => hm.pick [1] [] [0] rfl rfl)
      · have hk : ¬ (((k : Nat) : Int) < ((n : Nat) : Int)) := by simpa using hh
        clear hh
        refine gw_exit ?_
        refine nx_then_exit ?_
        refine nx_then_exit ?_
        refine nx_blk_here ?_
        refine nx_then ?_
        refine gw_seq ?_
        refine gw_region ?_
        refine wl_ov (ov_move rfl) rfl ?_
        refine wl_ov (ov_assign rfl) rfl ?_
        refine wl_ov (ov_assign rfl) rfl ?_
        refine wl_nil ?_
        refine nx_then ?_
        refine gw_ret ?_
        have hk2 : l.take k = l := List.take_of_length_le (by omega)
        refine nx_ret2 rfl rfl rfl fun wx hm => ?_
        exact ⟨ret_ie (by rw [if_pos (show cancelE l ⟨ke, cl, fr, tt, ma, od⟩ v mo = 0 from hE), hk2]) hE.symm, hm.g⟩

set_option maxRecDepth 100000 in
set_option maxHeartbeats 400000 in
theorem cancelOf_any (l : List Tr) (A : Option Addr) (n c : Nat) (ke cl : ByteArray) (fr tt ma od v mo : Int) (w : World) (hl : SlT trEnc 2 141 w A n l) (hn : n ≤ 1000000) (hE : cancelE l ⟨ke, cl, fr, tt, ma, od⟩ v mo = 0) :
    Calls Tryd.prog 31 #[.slice A n c, .agg #[.string ke, .string cl, .int .i64 fr, .int .i64 tt, .int .i64 ma, .int .i64 od], .int .i64 v, .int .i64 mo] w (GotE w (feeV l v (fr - mo))) := by
  refine gw_enter ⟨33, w, none, []⟩ Tryd.func31 rfl Tryd.ntmps31 rfl (mem0 (X := [SlOld trEnc 2 141 w.heap.size none A n l]) (allF_cons hl.old allF_nil) (allL_cons SlOld.lasts allL_nil)) ?_
  refine gw_seq ?_
  refine gw_region ?_
  have hlen := hl.len
  have hz := firstE_all hE
  have ht := tiersE_ok (hz (tiersE l) (by simp))
  have hb := formE_one (hz (formE [⟨ke, cl, fr, tt, ma, od⟩]) (by simp))
  have hv := whenE_ok (by decide) (hz (whenE (!inB v 0 1000000000) 1) (by simp))
  have hmo := whenE_ok (by decide) (show whenE (!inB mo 0 5761439) 1 = 0 from hz (momentE mo) (by simp))
  have hv : 0 ≤ v ∧ v ≤ 1000000000 := by simpa [inB] using hv
  have hmo : 0 ≤ mo ∧ mo ≤ 5761439 := by simpa [inB] using hmo
  have hf0 : 0 ≤ fr := hb.1
  have hf1 : fr < tt := hb.2.1
  have hf2 : tt ≤ 5761439 := hb.2.2.1
  have htl := ht.2
  obtain ⟨hv0, hv1⟩ := hv
  obtain ⟨hmo0, hmo1⟩ := hmo
  clear hz hb ht
  refine wl_box rfl rfl rfl fun g1 => ?_
  refine wl_ov (ov_assign rfl) rfl ?_
  refine wl_nil ?_
  refine nx_then ?_
  refine gw_seq ?_
  refine gw_region ?_
  refine wl_ov (ov_assign rfl) rfl ?_
  refine wl_nil ?_
  refine nx_then ?_
  refine gw_seq ?_
  refine gw_seq ?_
  refine gw_region ?_
  refine wl_ov (ov_move rfl) rfl ?_
  refine wl_ov (ov_len es43 rfl) rfl ?_
  refine wl_ov (ov_move rfl) rfl ?_
  refine wl_nil ?_
  refine nx_then ?_
  refine gw_block ?_
  refine gw_loop (γ := Nat) (fun (k : Nat) => k ≤ n) (fun (k : Nat) => [(2, .int .i64 v), (3, .int .i64 mo), (5, .pointer (some ⟨g1, 0, none⟩)), (8, .int .i64 0), (9, .int .i64 (feeV (l.take k) v (fr - mo))), (12, .slice A n c), (13, .int .i64 ((n : Nat) : Int)), (14, .int .i64 ((k : Nat) : Int))]) (fun (k : Nat) => fun _ => True) (fun (k : Nat) => [(g1, 46, [.string ke, .string cl, .int .i64 fr, .int .i64 tt, .int .i64 ma, .int .i64 od])]) (fun (k : Nat) => []) (fun (k : Nat) => [SlOld trEnc 2 141 w.heap.size none A n l]) (fun (k : Nat) => n - k) 0 (Nat.zero_le _) ⟨rfl, rfl, rfl, rfl, rfl, rfl, rfl, rfl, trivial⟩ (fun _ hm => hm.pick [0] [] [0] rfl rfl) ?_
  intro k hinv
  replace hinv : k ≤ n := hinv
  refine gw_seq ?_
  refine gw_region ?_
  refine wl_ov (ov_lss rfl rfl) rfl ?_
  refine wl_nil ?_
  refine nx_then ?_
  refine gw_seq ?_
  refine gw_cond rfl (fun hh => ?_) (fun hh => ?_)
  · have hk : ((k : Nat) : Int) < ((n : Nat) : Int) := by simpa using hh
    clear hh
    refine gw_skip ?_
    refine nx_then ?_
    refine gw_seq ?_
    refine gw_block ?_
    refine gw_seq ?_
    refine gw_region ?_
    obtain ⟨b, off, hA, _, _⟩ := hl.get (by omega)
    subst hA
    obtain ⟨x, hx⟩ : ∃ x, l[k]? = some x := ⟨_, List.getElem?_eq_getElem (by omega)⟩
    obtain ⟨hr, ml⟩ := x
    have hft := feeV_take (v := v) (d := fr - mo) hx
    have hml := (htl _ (List.mem_of_getElem? hx)).2
    have hp := mul_bound hv0 hv1 hml.1 hml.2
    have hp : 0 ≤ v * ml ∧ v * ml ≤ 1000000000 * 1000 := hp
    refine wl_ov (ov_index (j := k) es43 rfl rfl (by omega)) rfl ?_
    refine wl_ov (ov_elem rz141 rfl (fun _ hm => (hm.fact 0 rfl).1) hx rfl rfl) rfl ?_
    refine wl_alloc zc141 rfl fun g2 => ?_
    refine wl_stores (cs' := [.int .i64 hr, .int .i64 ml]) 0 rz141 rfl rfl rfl rfl rfl rfl rfl rfl ?_
    refine wl_nil ?_
    refine nx_then ?_
    refine gw_seq ?_
    refine gw_region ?_
    refine wl_ov (ov_field fo46_2 rfl rfl) rfl ?_
    refine wl_ov (ov_field fo28_0 rfl rfl) rfl ?_
    refine wl_ov (ov_load sc3 rfl (fun _ hm => hm.blkI 1 rfl) rfl) rfl ?_
    refine wl_ov (ov_move rfl) rfl ?_
    refine wl_ov (ov_sub rfl rfl (by omega) (by omega)) rfl ?_
    refine wl_ov (ov_field fo141_0 rfl rfl) rfl ?_
    refine wl_ov (ov_load sc3 rfl (fun _ hm => hm.blkI 0 rfl) rfl) rfl ?_
    refine wl_ov (ov_lss rfl rfl) rfl ?_
    refine wl_nil ?_
    refine nx_then ?_
    refine gw_cond rfl (fun hh => ?_) (fun hh => ?_)
    · have hd : fr - mo < hr := by simpa using hh
      clear hh
      refine gw_region ?_
      refine wl_ov (ov_move rfl) rfl ?_
      refine wl_ov (ov_field fo141_1 rfl rfl) rfl ?_
      refine wl_ov (ov_load sc3 rfl (fun _ hm => hm.blkI 0 rfl) rfl) rfl ?_
      refine wl_ov (ov_mul rfl rfl (by omega) (by omega)) rfl ?_
      refine wl_ov (ov_quo rfl rfl (by omega) (by omega) (by omega)) rfl ?_
      refine wl_ov (ov_assign rfl) rfl ?_
      refine wl_nil ?_
      refine nx_blk_nrm ?_
      refine nx_then ?_
      refine gw_region ?_
      refine wl_ov (ov_add rfl rfl (by omega) (by omega)) rfl ?_
      refine wl_ov (ov_move rfl) rfl ?_
      refine wl_nil ?_
      exact nx_round (k + 1) (by omega) (by omega) ⟨rfl, rfl, rfl, rfl, (some_int (by rw [hft, if_pos (show fr - mo < hr from hd)])), rfl, rfl, (some_int (by omega)), trivial⟩ (fun _ hm => hm.pick [1] [] [0] rfl rfl)
    · have hd : ¬ (fr - mo < hr) := by simpa using hh
      clear hh
      refine gw_skip ?_
      refine nx_blk_nrm ?_
      refine nx_then ?_
      refine gw_region ?_
      refine wl_ov (ov_add rfl rfl (by omega) (by omega)) rfl ?_
      refine wl_ov (ov_move rfl) rfl ?_
      refine wl_nil ?_
      exact nx_round (k + 1) (by omega) (by omega) ⟨rfl, rfl, rfl, rfl, (some_int (by rw [hft, if_neg (show ¬ fr - mo < hr from hd)])), rfl, rfl, (some_int (by omega)), trivial⟩ (fun _ hm => hm.pick [1] [] [0] rfl rfl)
  · have hk : ¬ (((k : Nat) : Int) < ((n : Nat) : Int)) := by simpa using hh
    clear hh
    refine gw_exit ?_
    refine nx_then_exit ?_
    refine nx_then_exit ?_
    refine nx_blk_here ?_
    refine nx_then ?_
    refine gw_seq ?_
    refine gw_region ?_
    refine wl_ov (ov_move rfl) rfl ?_
    refine wl_ov (ov_assign rfl) rfl ?_
    refine wl_nil ?_
    refine nx_then ?_
    refine gw_ret ?_
    have hk2 : l.take k = l := List.take_of_length_le (by omega)
    refine nx_ret1 rfl rfl fun wx hm => ?_
    exact ⟨ret_int (by rw [hk2]), hm.g⟩

end Go.Proofs.YtljnekobfjpfaaaDoor
/- Drivers and ages: the checks. -/
namespace Go.Proofs.YtljnekobfjpfaaaDoor
open Go.RowKit

structure Dr where
  key : ByteArray
  born : Int
  frm : Int
  tto : Int
def drEnc (x : Dr) : List Value := [.string x.key, .int .i64 x.born, .int .i64 x.frm, .int .i64 x.tto]
theorem drEnc_len (x : Dr) : (drEnc x).length = 4 := rfl
def DrOk (x : Dr) : Prop := x.key.size ≤ 1000000
def leD (p : Option Dr) (b : Dr) : Bool := match p with
  | none => false
  | some q => leB b.key q.key
def drE (p : Option Dr) (b : Dr) : Int := if !keyB b.key then 5 else if leD p b then 7 else if !inB b.born (-50000) 4000 then 1 else if !inB b.frm (-50000) b.tto then 1 else if 50000 < b.tto then 1 else 0
def driversE (l : List Dr) : Int := if 500 < l.length then 2 else scanE drE none l
def prevD (l : List Dr) (k : Nat) : ByteArray := match prevOf l k with
  | none => ⟨#[]⟩
  | some q => q.key
theorem prevD_succ {l : List Dr} {k : Nat} {x : Dr} (h : l[k]? = some x) : prevD l (k + 1) = x.key := by
  unfold prevD prevOf; rw [if_neg (by omega), Nat.add_sub_cancel, h]
theorem prevD_le {l : List Dr} {k : Nat} {b : Dr} (h : keyB b.key = true) : leB b.key (prevD l k) = leD (prevOf l k) b := by
  unfold prevD leD
  cases prevOf l k with
  | none => exact key_low h
  | some q => rfl

structure Ag where
  cls : ByteArray
  days : Int
def agEnc (x : Ag) : List Value := [.string x.cls, .int .i64 x.days]
theorem agEnc_len (x : Ag) : (agEnc x).length = 2 := rfl
def AgOk (x : Ag) : Prop := x.cls.size ≤ 1000000
def leG (p : Option Ag) (b : Ag) : Bool := match p with
  | none => false
  | some q => leB b.cls q.cls
def agE (p : Option Ag) (b : Ag) : Int := if !keyB b.cls then 5 else if leG p b then 7 else if !inB b.days 0 50000 then 1 else 0
def agesE (l : List Ag) : Int := if 30 < l.length then 2 else scanE agE none l
def prevG (l : List Ag) (k : Nat) : ByteArray := match prevOf l k with
  | none => ⟨#[]⟩
  | some q => q.cls
theorem prevG_succ {l : List Ag} {k : Nat} {x : Ag} (h : l[k]? = some x) : prevG l (k + 1) = x.cls := by
  unfold prevG prevOf; rw [if_neg (by omega), Nat.add_sub_cancel, h]
theorem prevG_le {l : List Ag} {k : Nat} {b : Ag} (h : keyB b.cls = true) : leB b.cls (prevG l k) = leG (prevOf l k) b := by
  unfold prevG leG
  cases prevOf l k with
  | none => exact key_low h
  | some q => rfl

set_option maxRecDepth 100000 in
set_option maxHeartbeats 1000000 in
theorem checkDrivers_any (l : List Dr) (A : Option Addr) (n c : Nat) (w : World) (hl : SlT drEnc 4 83 w A n l) (hok : ∀ b ∈ l, DrOk b) (hn : n ≤ 1000000) :
    Calls Tryd.prog 47 #[.slice A n c] w (GotE w (driversE l)) := by
  refine gw_enter ⟨53, w, none, []⟩ Tryd.func47 rfl Tryd.ntmps47 rfl (mem0 (X := [SlOld drEnc 4 83 w.heap.size none A n l]) (allF_cons hl.old allF_nil) (allL_cons SlOld.lasts allL_nil)) ?_
  refine gw_seq ?_
  refine gw_region ?_
  have hlen := hl.len
  refine wl_ov (ov_assign rfl) rfl ?_
  refine wl_nil ?_
  refine nx_then ?_
  refine gw_seq ?_
  refine gw_seq ?_
  refine gw_region ?_
  refine wl_ov (ov_move rfl) rfl ?_
  refine wl_ov (ov_len es73 rfl) rfl ?_
  refine wl_ov (ov_gtr rfl rfl) rfl ?_
  refine wl_nil ?_
  refine nx_then ?_
  refine gw_cond rfl (fun hh => ?_) (fun hh => ?_)
  · have h1 : 500 < ((n : Nat) : Int) := by simpa using hh
    clear hh
    refine gw_seq ?_
    refine gw_region ?_
    refine wl_ov (ov_assign rfl) rfl ?_
    refine wl_nil ?_
    refine nx_then ?_
    refine gw_ret ?_
    refine nx_then_ret ?_
    refine nx_ret1 rfl rfl fun wx hm => ?_
    exact ⟨ret_int (by unfold driversE; rw [if_pos (by omega)]), hm.g⟩
  · have h1 : ¬ (500 < ((n : Nat) : Int)) := by simpa using hh
    clear hh
    refine gw_skip ?_
    refine nx_then ?_
    refine gw_seq ?_
    refine gw_seq ?_
    refine gw_region ?_
    refine wl_ov (ov_move rfl) rfl ?_
    refine wl_ov (ov_len es73 rfl) rfl ?_
    refine wl_ov (ov_move rfl) rfl ?_
    refine wl_nil ?_
    refine nx_then ?_
    refine gw_block ?_
    refine gw_loop (γ := Nat) (fun (k : Nat) => k ≤ n ∧ driversE l = scanE drE (prevOf l k) (l.drop k)) (fun (k : Nat) => [(0, .slice A n c), (8, .slice A n c), (9, .int .i64 ((n : Nat) : Int)), (10, .int .i64 ((k : Nat) : Int))]) (fun (k : Nat) => fun _ => True) (fun (k : Nat) => []) (fun (k : Nat) => []) (fun (k : Nat) => [SlOld drEnc 4 83 w.heap.size none A n l]) (fun (k : Nat) => n - k) 0 ⟨Nat.zero_le _, by unfold driversE; rw [if_neg (by omega)]; rfl⟩ ⟨rfl, rfl, rfl, rfl, trivial⟩ (fun _ hm => hm.pick [] [] [0] rfl rfl) ?_
    intro k hinv
    replace hinv : k ≤ n ∧ driversE l = scanE drE (prevOf l k) (l.drop k) := hinv
    refine gw_seq ?_
    refine gw_region ?_
    refine wl_ov (ov_lss rfl rfl) rfl ?_
    refine wl_nil ?_
    refine nx_then ?_
    refine gw_seq ?_
    refine gw_cond rfl (fun hh => ?_) (fun hh => ?_)
    · have hk : ((k : Nat) : Int) < ((n : Nat) : Int) := by simpa using hh
      clear hh
      refine gw_skip ?_
      refine nx_then ?_
      refine gw_seq ?_
      refine gw_block ?_
      refine gw_seq ?_
      refine gw_region ?_
      obtain ⟨b, off, hA, _, _⟩ := hl.get (by omega)
      subst hA
      obtain ⟨x, hx⟩ : ∃ x, l[k]? = some x := ⟨_, List.getElem?_eq_getElem (by omega)⟩
      obtain ⟨ke, bo, fm, tt⟩ := x
      have hat := scanE_at drE l k _ hx
      have hk1 : ke.size ≤ 1000000 := hok _ (List.mem_of_getElem? hx)
      refine wl_ov (ov_move rfl) rfl ?_
      refine wl_ov (ov_index (j := k) es73 rfl rfl (by omega)) rfl ?_
      refine wl_ov (ov_elem rz83 rfl (fun _ hm => (hm.fact 0 rfl).1) hx rfl rfl) rfl ?_
      refine wl_alloc zc83 rfl fun g1 => ?_
      refine wl_ov (ov_assign rfl) rfl ?_
      refine wl_stores (cs' := [.string ke, .int .i64 bo, .int .i64 fm, .int .i64 tt]) 0 rz83 rfl rfl rfl rfl rfl rfl rfl rfl ?_
      refine wl_nil ?_
      refine nx_then ?_
      refine gw_block ?_
      refine gw_seq ?_
      refine gw_region ?_
      refine wl_ov (ov_field fo83_0 rfl rfl) rfl ?_
      refine wl_ov (ov_load sc9 rfl (fun _ hm => hm.blkI 0 rfl) rfl) rfl ?_
      refine wl_callw rfl cb115 rfl rfl (fun wx hm => (isKey_any _ wx (by omega))) ?_
      refine wl_ov (ov_un_not rfl) rfl ?_
      refine wl_ov (ov_assign rfl) rfl ?_
      refine wl_nil ?_
      refine nx_then ?_
      refine gw_cond rfl (fun hh => ?_) (fun hh => ?_)
      · have h2 : (keyB ke) = false := by simpa using hh
        clear hh
        refine gw_seq ?_
        refine gw_region ?_
        refine wl_ov (ov_assign rfl) rfl ?_
        refine wl_nil ?_
        refine nx_then ?_
        refine gw_ret ?_
        refine nx_blk_ret ?_
        refine nx_blk_ret ?_
        refine nx_then_ret ?_
        refine nx_then_ret ?_
        refine nx_blk_ret ?_
        refine nx_then_ret ?_
        have hE : drE (prevOf l k) ⟨ke, bo, fm, tt⟩ = 5 := by unfold drE; simp [h2]
        refine nx_ret1 rfl rfl fun wx hm => ?_
        exact ⟨ret_int (by rw [hinv.2, hat, if_neg (by rw [hE]; decide), hE]), hm.g⟩
      · have h2 : (keyB ke) = true := by simpa using hh
        clear hh
        refine gw_seq ?_
        by_cases hk0 : k = 0
        · have hO : leD (prevOf l k) ⟨ke, bo, fm, tt⟩ = false := by rw [prevOf_zero hk0]; rfl
          refine gw_draw (fun wz => Blk wz g1 83 [.string ke, .int .i64 bo, .int .i64 fm, .int .i64 tt] ∧ (SlOld drEnc 4 83 w.heap.size none (some ⟨b, off, none⟩) n l) wz ∧ True) mixed ?_
          refine wa_take 0 rfl (by kernel_rfl) (by kernel_rfl) (by kernel_rfl) (listed' := #[true, false, false, false, false, false, false, false, false, false, false, false, false, false]) rfl (fun _ _ _ h => h) (fun _ hm => ⟨hm.blkI 0 rfl, hm.fact 0 rfl, trivial⟩) (ov_move rfl) rfl ?_
          refine wa_take 1 rfl (by kernel_rfl) (by kernel_rfl) (by kernel_rfl) (listed' := #[true, true, false, false, false, false, false, false, false, false, false, false, false, false]) rfl (fun _ _ _ h => h) (fun _ hm => ⟨hm.blkI 0 rfl, hm.fact 0 rfl, trivial⟩) (ov_gtr rfl rfl) rfl ?_
          refine wa_set 22 (v' := .bool false) rfl (congrArg Value.bool (decide_eq_false (by omega))) ?_
          refine wa_take 2 rfl (by kernel_rfl) (by kernel_rfl) (by kernel_rfl) (listed' := #[true, true, true, false, false, false, false, false, false, false, false, false, false, false]) rfl (fun _ _ _ h => h) (fun _ hm => ⟨hm.blkI 0 rfl, hm.fact 0 rfl, trivial⟩) (ov_move rfl) rfl ?_
          refine wa_take_off 3 rfl rfl rfl (by decide) (by kernel_rfl) (by kernel_rfl) (by kernel_rfl) (listed' := #[true, true, true, true, false, false, false, false, false, false, false, false, false, false]) rfl (fun _ _ _ h => h) (fun _ hm => ⟨hm.blkI 0 rfl, hm.fact 0 rfl, trivial⟩) rfl ?_
          refine wa_take_off 4 rfl rfl rfl (by decide) (by kernel_rfl) (by kernel_rfl) (by kernel_rfl) (listed' := #[true, true, true, true, true, false, false, false, false, false, false, false, false, false]) rfl (fun _ _ _ h => h) (fun _ hm => ⟨hm.blkI 0 rfl, hm.fact 0 rfl, trivial⟩) rfl ?_
          refine wa_take_off 5 rfl rfl rfl (by decide) (by kernel_rfl) (by kernel_rfl) (by kernel_rfl) (listed' := #[true, true, true, true, true, true, false, false, false, false, false, false, false, false]) rfl (fun _ _ _ h => h) (fun _ hm => ⟨hm.blkI 0 rfl, hm.fact 0 rfl, trivial⟩) rfl ?_
          refine wa_take_off 6 rfl rfl rfl (by decide) (by kernel_rfl) (by kernel_rfl) (by kernel_rfl) (listed' := #[true, true, true, true, true, true, true, false, false, false, false, false, false, false]) rfl (fun _ _ _ h => h) (fun _ hm => ⟨hm.blkI 0 rfl, hm.fact 0 rfl, trivial⟩) rfl ?_
          refine wa_take_off 7 rfl rfl rfl (by decide) (by kernel_rfl) (by kernel_rfl) (by kernel_rfl) (listed' := #[true, true, true, true, true, true, true, true, false, false, false, false, false, false]) rfl (fun _ _ _ h => h) (fun _ hm => ⟨hm.blkI 0 rfl, hm.fact 0 rfl, trivial⟩) rfl ?_
          refine wa_take_off 8 rfl rfl rfl (by decide) (by kernel_rfl) (by kernel_rfl) (by kernel_rfl) (listed' := #[true, true, true, true, true, true, true, true, true, false, false, false, false, false]) rfl (fun _ _ _ h => h) (fun _ hm => ⟨hm.blkI 0 rfl, hm.fact 0 rfl, trivial⟩) rfl ?_
          refine wa_take_off 9 rfl rfl rfl (by decide) (by kernel_rfl) (by kernel_rfl) (by kernel_rfl) (listed' := #[true, true, true, true, true, true, true, true, true, true, false, false, false, false]) rfl (fun _ _ _ h => h) (fun _ hm => ⟨hm.blkI 0 rfl, hm.fact 0 rfl, trivial⟩) rfl ?_
          refine wa_take_off 10 rfl rfl rfl (by decide) (by kernel_rfl) (by kernel_rfl) (by kernel_rfl) (listed' := #[true, true, true, true, true, true, true, true, true, true, true, false, false, false]) rfl (fun _ _ _ h => h) (fun _ hm => ⟨hm.blkI 0 rfl, hm.fact 0 rfl, trivial⟩) rfl ?_
          refine wa_take_off 11 rfl rfl rfl (by decide) (by kernel_rfl) (by kernel_rfl) (by kernel_rfl) (listed' := #[true, true, true, true, true, true, true, true, true, true, true, true, false, false]) rfl (fun _ _ _ h => h) (fun _ hm => ⟨hm.blkI 0 rfl, hm.fact 0 rfl, trivial⟩) rfl ?_
          refine wa_take 12 rfl (by kernel_rfl) (by kernel_rfl) (by kernel_rfl) (listed' := #[true, true, true, true, true, true, true, true, true, true, true, true, true, false]) rfl (fun _ _ _ h => h) (fun _ hm => ⟨hm.blkI 0 rfl, hm.fact 0 rfl, trivial⟩) (ov_pick_f rfl rfl) rfl ?_
          refine wa_take 13 rfl (by kernel_rfl) (by kernel_rfl) (by kernel_rfl) (listed' := #[true, true, true, true, true, true, true, true, true, true, true, true, true, true]) rfl (fun _ _ _ h => h) (fun _ hm => ⟨hm.blkI 0 rfl, hm.fact 0 rfl, trivial⟩) (ov_assign rfl) rfl ?_
          refine wa_done (by kernel_rfl) ?_
          refine nx_then ?_
          refine gw_cond rfl (fun hh => by cases hh) (fun _ => ?_)
          refine gw_seq ?_
          refine gw_region ?_
          refine wl_ov (ov_field fo83_1 rfl rfl) rfl ?_
          refine wl_ov (ov_load sc3 rfl (fun _ hm => hm.blkI 0 rfl) rfl) rfl ?_
          refine wl_callw rfl cb99 rfl rfl (fun wx hm => (in_any _ _ _ wx)) ?_
          refine wl_ov (ov_un_not rfl) rfl ?_
          refine wl_ov (ov_move rfl) rfl ?_
          rcases Bool.eq_false_or_eq_true (!(inB bo (-50000) 4000)) with h4 | h4
          · refine wl_set 39 rfl (congrArg Value.bool h4) ?_
            refine wl_guard_off rfl rfl rfl (by decide) rfl ?_
            refine wl_guard_off rfl rfl rfl (by decide) rfl ?_
            refine wl_guard_off rfl rfl rfl (by decide) rfl ?_
            refine wl_guard_off rfl rfl rfl (by decide) rfl ?_
            refine wl_guard_off rfl rfl rfl (by decide) rfl ?_
            refine wl_guard_off rfl rfl rfl (by decide) rfl ?_
            refine wl_ov (ov_pick_t rfl rfl) rfl ?_
            refine wl_ov (ov_move rfl) rfl ?_
            refine wl_guard_off rfl rfl rfl (by decide) rfl ?_
            refine wl_guard_off rfl rfl rfl (by decide) rfl ?_
            refine wl_guard_off rfl rfl rfl (by decide) rfl ?_
            refine wl_ov (ov_pick_t rfl rfl) rfl ?_
            refine wl_ov (ov_assign rfl) rfl ?_
            refine wl_nil ?_
            refine nx_then ?_
            refine gw_cond rfl (fun _ => ?_) (fun hh => by cases hh)
            refine gw_seq ?_
            refine gw_region ?_
            refine wl_ov (ov_assign rfl) rfl ?_
            refine wl_nil ?_
            refine nx_then ?_
            refine gw_ret ?_
            refine nx_blk_ret ?_
            refine nx_blk_ret ?_
            refine nx_then_ret ?_
            refine nx_then_ret ?_
            refine nx_blk_ret ?_
            refine nx_then_ret ?_
            have hE : drE (prevOf l k) ⟨ke, bo, fm, tt⟩ = 1 := by unfold drE; simp [h2, hO, h4]
            refine nx_ret1 rfl rfl fun wx hm => ?_
            exact ⟨ret_int (by rw [hinv.2, hat, if_neg (by rw [hE]; decide), hE]), hm.g⟩
          · refine wl_set 39 rfl (congrArg Value.bool h4) ?_
            refine wl_guard_on rfl rfl rfl ?_
            refine wl_ov (ov_field fo83_2 rfl rfl) rfl ?_
            refine wl_guard_on rfl rfl rfl ?_
            refine wl_ov (ov_load sc3 rfl (fun _ hm => hm.blkI 0 rfl) rfl) rfl ?_
            refine wl_guard_on rfl rfl rfl ?_
            refine wl_ov (ov_field fo83_3 rfl rfl) rfl ?_
            refine wl_guard_on rfl rfl rfl ?_
            refine wl_ov (ov_load sc3 rfl (fun _ hm => hm.blkI 0 rfl) rfl) rfl ?_
            refine wl_guard_on rfl rfl rfl ?_
            refine wl_callw rfl cb99 rfl rfl (fun wx hm => (in_any _ _ _ wx)) ?_
            refine wl_guard_on rfl rfl rfl ?_
            refine wl_ov (ov_un_not rfl) rfl ?_
            refine wl_ov (ov_pick_f rfl rfl) rfl ?_
            refine wl_ov (ov_move rfl) rfl ?_
            rcases Bool.eq_false_or_eq_true (!(inB fm (-50000) tt)) with h5 | h5
            · refine wl_set 47 rfl (congrArg Value.bool h5) ?_
              refine wl_guard_off rfl rfl rfl (by decide) rfl ?_
              refine wl_guard_off rfl rfl rfl (by decide) rfl ?_
              refine wl_guard_off rfl rfl rfl (by decide) rfl ?_
              refine wl_ov (ov_pick_t rfl rfl) rfl ?_
              refine wl_ov (ov_assign rfl) rfl ?_
              refine wl_nil ?_
              refine nx_then ?_
              refine gw_cond rfl (fun _ => ?_) (fun hh => by cases hh)
              refine gw_seq ?_
              refine gw_region ?_
              refine wl_ov (ov_assign rfl) rfl ?_
              refine wl_nil ?_
              refine nx_then ?_
              refine gw_ret ?_
              refine nx_blk_ret ?_
              refine nx_blk_ret ?_
              refine nx_then_ret ?_
              refine nx_then_ret ?_
              refine nx_blk_ret ?_
              refine nx_then_ret ?_
              have hE : drE (prevOf l k) ⟨ke, bo, fm, tt⟩ = 1 := by unfold drE; simp [h2, hO, h4, h5]
              refine nx_ret1 rfl rfl fun wx hm => ?_
              exact ⟨ret_int (by rw [hinv.2, hat, if_neg (by rw [hE]; decide), hE]), hm.g⟩
            · refine wl_set 47 rfl (congrArg Value.bool h5) ?_
              refine wl_guard_on rfl rfl rfl ?_
              refine wl_ov (ov_field fo83_3 rfl rfl) rfl ?_
              refine wl_guard_on rfl rfl rfl ?_
              refine wl_ov (ov_load sc3 rfl (fun _ hm => hm.blkI 0 rfl) rfl) rfl ?_
              refine wl_guard_on rfl rfl rfl ?_
              refine wl_ov (ov_gtr rfl rfl) rfl ?_
              refine wl_ov (ov_pick_f rfl rfl) rfl ?_
              refine wl_ov (ov_assign rfl) rfl ?_
              refine wl_nil ?_
              refine nx_then ?_
              refine gw_cond rfl (fun hh => ?_) (fun hh => ?_)
              · have h6 : 50000 < tt := by simpa using hh
                clear hh
                refine gw_seq ?_
                refine gw_region ?_
                refine wl_ov (ov_assign rfl) rfl ?_
                refine wl_nil ?_
                refine nx_then ?_
                refine gw_ret ?_
                refine nx_blk_ret ?_
                refine nx_blk_ret ?_
                refine nx_then_ret ?_
                refine nx_then_ret ?_
                refine nx_blk_ret ?_
                refine nx_then_ret ?_
                have hE : drE (prevOf l k) ⟨ke, bo, fm, tt⟩ = 1 := by unfold drE; simp [h2, hO, h4, h5, h6]
                refine nx_ret1 rfl rfl fun wx hm => ?_
                exact ⟨ret_int (by rw [hinv.2, hat, if_neg (by rw [hE]; decide), hE]), hm.g⟩
              · have h6 : ¬ (50000 < tt) := by simpa using hh
                clear hh
                refine gw_skip ?_
                refine nx_blk_nrm ?_
                refine nx_blk_nrm ?_
                refine nx_then ?_
                refine gw_region ?_
                have hE : drE (prevOf l k) ⟨ke, bo, fm, tt⟩ = 0 := by unfold drE; simp [h2, hO, h4, h5, h6]
                refine wl_ov (ov_add rfl rfl (by omega) (by omega)) rfl ?_
                refine wl_ov (ov_move rfl) rfl ?_
                refine wl_nil ?_
                exact nx_round (k + 1) ⟨by omega, by rw [hinv.2, hat, if_pos hE]⟩ (by omega) ⟨rfl, rfl, rfl, (some_int (by omega)), trivial⟩ (fun _ hm => hm.pick [] [] [0] rfl rfl)
        · obtain ⟨y, hy⟩ : ∃ x, l[k - 1]? = some x := ⟨_, List.getElem?_eq_getElem (by omega)⟩
          obtain ⟨p0, p1, p2, p3⟩ := y
          refine gw_draw (fun wz => Blk wz g1 83 [.string ke, .int .i64 bo, .int .i64 fm, .int .i64 tt] ∧ (SlOld drEnc 4 83 w.heap.size none (some ⟨b, off, none⟩) n l) wz ∧ True) mixed ?_
          refine wa_take 0 rfl (by kernel_rfl) (by kernel_rfl) (by kernel_rfl) (listed' := #[true, false, false, false, false, false, false, false, false, false, false, false, false, false]) rfl (fun _ _ _ h => h) (fun _ hm => ⟨hm.blkI 0 rfl, hm.fact 0 rfl, trivial⟩) (ov_move rfl) rfl ?_
          refine wa_take 1 rfl (by kernel_rfl) (by kernel_rfl) (by kernel_rfl) (listed' := #[true, true, false, false, false, false, false, false, false, false, false, false, false, false]) rfl (fun _ _ _ h => h) (fun _ hm => ⟨hm.blkI 0 rfl, hm.fact 0 rfl, trivial⟩) (ov_gtr rfl rfl) rfl ?_
          refine wa_set 22 (v' := .bool true) rfl (congrArg Value.bool (decide_eq_true (by omega))) ?_
          refine wa_take 2 rfl (by kernel_rfl) (by kernel_rfl) (by kernel_rfl) (listed' := #[true, true, true, false, false, false, false, false, false, false, false, false, false, false]) rfl (fun _ _ _ h => h) (fun _ hm => ⟨hm.blkI 0 rfl, hm.fact 0 rfl, trivial⟩) (ov_move rfl) rfl ?_
          refine wa_take_on 3 rfl rfl rfl (by kernel_rfl) (by kernel_rfl) (by kernel_rfl) (listed' := #[true, true, true, true, false, false, false, false, false, false, false, false, false, false]) rfl (fun _ _ _ h => h) (fun _ hm => ⟨hm.blkI 0 rfl, hm.fact 0 rfl, trivial⟩) (ov_field fo83_0 rfl rfl) rfl ?_
          refine wa_take_on 4 rfl rfl rfl (by kernel_rfl) (by kernel_rfl) (by kernel_rfl) (listed' := #[true, true, true, true, true, false, false, false, false, false, false, false, false, false]) rfl (fun _ _ _ h => h) (fun _ hm => ⟨hm.blkI 0 rfl, hm.fact 0 rfl, trivial⟩) (ov_load sc9 rfl (fun _ hm => hm.1) rfl) rfl ?_
          refine wa_take_on 5 rfl rfl rfl (by kernel_rfl) (by kernel_rfl) (by kernel_rfl) (listed' := #[true, true, true, true, true, true, false, false, false, false, false, false, false, false]) rfl (fun _ _ _ h => h) (fun _ hm => ⟨hm.blkI 0 rfl, hm.fact 0 rfl, trivial⟩) (ov_move rfl) rfl ?_
          refine wa_take_on 6 rfl rfl rfl (by kernel_rfl) (by kernel_rfl) (by kernel_rfl) (listed' := #[true, true, true, true, true, true, true, false, false, false, false, false, false, false]) rfl (fun _ _ _ h => h) (fun _ hm => ⟨hm.blkI 0 rfl, hm.fact 0 rfl, trivial⟩) (ov_move rfl) rfl ?_
          refine wa_take_on 7 rfl rfl rfl (by kernel_rfl) (by kernel_rfl) (by kernel_rfl) (listed' := #[true, true, true, true, true, true, true, true, false, false, false, false, false, false]) rfl (fun _ _ _ h => h) (fun _ hm => ⟨hm.blkI 0 rfl, hm.fact 0 rfl, trivial⟩) (ov_sub rfl rfl (by omega) (by omega)) rfl ?_
          refine wa_set 28 (v' := .int .i64 ((k - 1 : Nat) : Int)) rfl (congrArg (Value.int .i64) (by omega)) ?_
          refine wa_take_on 8 rfl rfl rfl (by kernel_rfl) (by kernel_rfl) (by kernel_rfl) (listed' := #[true, true, true, true, true, true, true, true, true, false, false, false, false, false]) rfl (fun _ _ _ h => h) (fun _ hm => ⟨hm.blkI 0 rfl, hm.fact 0 rfl, trivial⟩) (ov_index (j := k - 1) es73 rfl rfl (by omega)) rfl ?_
          refine wa_take_on 9 rfl rfl rfl (by kernel_rfl) (by kernel_rfl) (by kernel_rfl) (listed' := #[true, true, true, true, true, true, true, true, true, true, false, false, false, false]) rfl (fun _ _ _ h => h) (fun _ hm => ⟨hm.blkI 0 rfl, hm.fact 0 rfl, trivial⟩) (ov_field fo83_0 rfl rfl) rfl ?_
          refine wa_take_on 10 rfl rfl rfl (by kernel_rfl) (by kernel_rfl) (by kernel_rfl) (listed' := #[true, true, true, true, true, true, true, true, true, true, true, false, false, false]) rfl (fun _ _ _ h => h) (fun _ hm => ⟨hm.blkI 0 rfl, hm.fact 0 rfl, trivial⟩) (ov_elem1 (k := 0) sc9 rfl (fun _ hm => (hm.2.1).1) hy rfl rfl) rfl ?_
          refine wa_take_on 11 rfl rfl rfl (by kernel_rfl) (by kernel_rfl) (by kernel_rfl) (listed' := #[true, true, true, true, true, true, true, true, true, true, true, true, false, false]) rfl (fun _ _ _ h => h) (fun _ hm => ⟨hm.blkI 0 rfl, hm.fact 0 rfl, trivial⟩) (ov_sleq rfl rfl) rfl ?_
          refine wa_take 12 rfl (by kernel_rfl) (by kernel_rfl) (by kernel_rfl) (listed' := #[true, true, true, true, true, true, true, true, true, true, true, true, true, false]) rfl (fun _ _ _ h => h) (fun _ hm => ⟨hm.blkI 0 rfl, hm.fact 0 rfl, trivial⟩) (ov_pick_t rfl rfl) rfl ?_
          refine wa_take 13 rfl (by kernel_rfl) (by kernel_rfl) (by kernel_rfl) (listed' := #[true, true, true, true, true, true, true, true, true, true, true, true, true, true]) rfl (fun _ _ _ h => h) (fun _ hm => ⟨hm.blkI 0 rfl, hm.fact 0 rfl, trivial⟩) (ov_assign rfl) rfl ?_
          refine wa_done (by kernel_rfl) ?_
          refine nx_then ?_
          refine gw_cond rfl (fun hh => ?_) (fun hh => ?_)
          · have h9 : (Op.bytesLess ke.toList p0.toList || ke.toList == p0.toList) = true := by simpa using hh
            clear hh
            refine gw_seq ?_
            refine gw_region ?_
            have hO : leD (prevOf l k) ⟨ke, bo, fm, tt⟩ = true := by rw [prevOf_pos hk0 hy]; exact h9
            refine wl_ov (ov_assign rfl) rfl ?_
            refine wl_nil ?_
            refine nx_then ?_
            refine gw_ret ?_
            refine nx_blk_ret ?_
            refine nx_blk_ret ?_
            refine nx_then_ret ?_
            refine nx_then_ret ?_
            refine nx_blk_ret ?_
            refine nx_then_ret ?_
            have hE : drE (prevOf l k) ⟨ke, bo, fm, tt⟩ = 7 := by unfold drE; simp [h2, hO]
            refine nx_ret1 rfl rfl fun wx hm => ?_
            exact ⟨ret_int (by rw [hinv.2, hat, if_neg (by rw [hE]; decide), hE]), hm.g⟩
          · have h9 : (Op.bytesLess ke.toList p0.toList || ke.toList == p0.toList) = false := by simpa using hh
            clear hh
            refine gw_seq ?_
            refine gw_region ?_
            have hO : leD (prevOf l k) ⟨ke, bo, fm, tt⟩ = false := by rw [prevOf_pos hk0 hy]; exact h9
            refine wl_ov (ov_field fo83_1 rfl rfl) rfl ?_
            refine wl_ov (ov_load sc3 rfl (fun _ hm => hm.blkI 0 rfl) rfl) rfl ?_
            refine wl_callw rfl cb99 rfl rfl (fun wx hm => (in_any _ _ _ wx)) ?_
            refine wl_ov (ov_un_not rfl) rfl ?_
            refine wl_ov (ov_move rfl) rfl ?_
            rcases Bool.eq_false_or_eq_true (!(inB bo (-50000) 4000)) with h4 | h4
            · refine wl_set 39 rfl (congrArg Value.bool h4) ?_
              refine wl_guard_off rfl rfl rfl (by decide) rfl ?_
              refine wl_guard_off rfl rfl rfl (by decide) rfl ?_
              refine wl_guard_off rfl rfl rfl (by decide) rfl ?_
              refine wl_guard_off rfl rfl rfl (by decide) rfl ?_
              refine wl_guard_off rfl rfl rfl (by decide) rfl ?_
              refine wl_guard_off rfl rfl rfl (by decide) rfl ?_
              refine wl_ov (ov_pick_t rfl rfl) rfl ?_
              refine wl_ov (ov_move rfl) rfl ?_
              refine wl_guard_off rfl rfl rfl (by decide) rfl ?_
              refine wl_guard_off rfl rfl rfl (by decide) rfl ?_
              refine wl_guard_off rfl rfl rfl (by decide) rfl ?_
              refine wl_ov (ov_pick_t rfl rfl) rfl ?_
              refine wl_ov (ov_assign rfl) rfl ?_
              refine wl_nil ?_
              refine nx_then ?_
              refine gw_cond rfl (fun _ => ?_) (fun hh => by cases hh)
              refine gw_seq ?_
              refine gw_region ?_
              refine wl_ov (ov_assign rfl) rfl ?_
              refine wl_nil ?_
              refine nx_then ?_
              refine gw_ret ?_
              refine nx_blk_ret ?_
              refine nx_blk_ret ?_
              refine nx_then_ret ?_
              refine nx_then_ret ?_
              refine nx_blk_ret ?_
              refine nx_then_ret ?_
              have hE : drE (prevOf l k) ⟨ke, bo, fm, tt⟩ = 1 := by unfold drE; simp [h2, hO, h4]
              refine nx_ret1 rfl rfl fun wx hm => ?_
              exact ⟨ret_int (by rw [hinv.2, hat, if_neg (by rw [hE]; decide), hE]), hm.g⟩
            · refine wl_set 39 rfl (congrArg Value.bool h4) ?_
              refine wl_guard_on rfl rfl rfl ?_
              refine wl_ov (ov_field fo83_2 rfl rfl) rfl ?_
              refine wl_guard_on rfl rfl rfl ?_
              refine wl_ov (ov_load sc3 rfl (fun _ hm => hm.blkI 0 rfl) rfl) rfl ?_
              refine wl_guard_on rfl rfl rfl ?_
              refine wl_ov (ov_field fo83_3 rfl rfl) rfl ?_
              refine wl_guard_on rfl rfl rfl ?_
              refine wl_ov (ov_load sc3 rfl (fun _ hm => hm.blkI 0 rfl) rfl) rfl ?_
              refine wl_guard_on rfl rfl rfl ?_
              refine wl_callw rfl cb99 rfl rfl (fun wx hm => (in_any _ _ _ wx)) ?_
              refine wl_guard_on rfl rfl rfl ?_
              refine wl_ov (ov_un_not rfl) rfl ?_
              refine wl_ov (ov_pick_f rfl rfl) rfl ?_
              refine wl_ov (ov_move rfl) rfl ?_
              rcases Bool.eq_false_or_eq_true (!(inB fm (-50000) tt)) with h5 | h5
              · refine wl_set 47 rfl (congrArg Value.bool h5) ?_
                refine wl_guard_off rfl rfl rfl (by decide) rfl ?_
                refine wl_guard_off rfl rfl rfl (by decide) rfl ?_
                refine wl_guard_off rfl rfl rfl (by decide) rfl ?_
                refine wl_ov (ov_pick_t rfl rfl) rfl ?_
                refine wl_ov (ov_assign rfl) rfl ?_
                refine wl_nil ?_
                refine nx_then ?_
                refine gw_cond rfl (fun _ => ?_) (fun hh => by cases hh)
                refine gw_seq ?_
                refine gw_region ?_
                refine wl_ov (ov_assign rfl) rfl ?_
                refine wl_nil ?_
                refine nx_then ?_
                refine gw_ret ?_
                refine nx_blk_ret ?_
                refine nx_blk_ret ?_
                refine nx_then_ret ?_
                refine nx_then_ret ?_
                refine nx_blk_ret ?_
                refine nx_then_ret ?_
                have hE : drE (prevOf l k) ⟨ke, bo, fm, tt⟩ = 1 := by unfold drE; simp [h2, hO, h4, h5]
                refine nx_ret1 rfl rfl fun wx hm => ?_
                exact ⟨ret_int (by rw [hinv.2, hat, if_neg (by rw [hE]; decide), hE]), hm.g⟩
              · refine wl_set 47 rfl (congrArg Value.bool h5) ?_
                refine wl_guard_on rfl rfl rfl ?_
                refine wl_ov (ov_field fo83_3 rfl rfl) rfl ?_
                refine wl_guard_on rfl rfl rfl ?_
                refine wl_ov (ov_load sc3 rfl (fun _ hm => hm.blkI 0 rfl) rfl) rfl ?_
                refine wl_guard_on rfl rfl rfl ?_
                refine wl_ov (ov_gtr rfl rfl) rfl ?_
                refine wl_ov (ov_pick_f rfl rfl) rfl ?_
                refine wl_ov (ov_assign rfl) rfl ?_
                refine wl_nil ?_
                refine nx_then ?_
                refine gw_cond rfl (fun hh => ?_) (fun hh => ?_)
                · have h6 : 50000 < tt := by simpa using hh
                  clear hh
                  refine gw_seq ?_
                  refine gw_region ?_
                  refine wl_ov (ov_assign rfl) rfl ?_
                  refine wl_nil ?_
                  refine nx_then ?_
                  refine gw_ret ?_
                  refine nx_blk_ret ?_
                  refine nx_blk_ret ?_
                  refine nx_then_ret ?_
                  refine nx_then_ret ?_
                  refine nx_blk_ret ?_
                  refine nx_then_ret ?_
                  have hE : drE (prevOf l k) ⟨ke, bo, fm, tt⟩ = 1 := by unfold drE; simp [h2, hO, h4, h5, h6]
                  refine nx_ret1 rfl rfl fun wx hm => ?_
                  exact ⟨ret_int (by rw [hinv.2, hat, if_neg (by rw [hE]; decide), hE]), hm.g⟩
                · have h6 : ¬ (50000 < tt) := by simpa using hh
                  clear hh
                  refine gw_skip ?_
                  refine nx_blk_nrm ?_
                  refine nx_blk_nrm ?_
                  refine nx_then ?_
                  refine gw_region ?_
                  have hE : drE (prevOf l k) ⟨ke, bo, fm, tt⟩ = 0 := by unfold drE; simp [h2, hO, h4, h5, h6]
                  refine wl_ov (ov_add rfl rfl (by omega) (by omega)) rfl ?_
                  refine wl_ov (ov_move rfl) rfl ?_
                  refine wl_nil ?_
                  exact nx_round (k + 1) ⟨by omega, by rw [hinv.2, hat, if_pos hE]⟩ (by omega) ⟨rfl, rfl, rfl, (some_int (by omega)), trivial⟩ (fun _ hm => hm.pick [] [] [0] rfl rfl)
    · have hk : ¬ (((k : Nat) : Int) < ((n : Nat) : Int)) := by simpa using hh
      clear hh
      refine gw_exit ?_
      refine nx_then_exit ?_
      refine nx_then_exit ?_
      refine nx_blk_here ?_
      refine nx_then ?_
      refine gw_seq ?_
      refine gw_region ?_
      refine wl_ov (ov_assign rfl) rfl ?_
      refine wl_nil ?_
      refine nx_then ?_
      refine gw_ret ?_
      refine nx_ret1 rfl rfl fun wx hm => ?_
      exact ⟨ret_int (by rw [hinv.2, scanE_end _ _ _ _ (by omega)]), hm.g⟩

set_option maxRecDepth 100000 in
set_option maxHeartbeats 1000000 in
theorem driversFault_any (l : List Dr) (A : Option Addr) (n c : Nat) (w : World) (hl : SlT drEnc 4 83 w A n l) (hok : ∀ b ∈ l, DrOk b) (hn : n ≤ 1000000) :
    Calls Tryd.prog 46 #[.slice A n c] w (GotE w (driversE l)) := by
  refine gw_enter ⟨46, w, none, []⟩ Tryd.func46 rfl Tryd.ntmps46 rfl (mem0 (X := [SlOld drEnc 4 83 w.heap.size none A n l]) (allF_cons hl.old allF_nil) (allL_cons SlOld.lasts allL_nil)) ?_
  refine gw_seq ?_
  refine gw_region ?_
  have hlen := hl.len
  refine wl_ov (ov_assign rfl) rfl ?_
  refine wl_nil ?_
  refine nx_then ?_
  refine gw_seq ?_
  refine gw_seq ?_
  refine gw_region ?_
  refine wl_ov (ov_move rfl) rfl ?_
  refine wl_ov (ov_len es73 rfl) rfl ?_
  refine wl_ov (ov_gtr rfl rfl) rfl ?_
  refine wl_nil ?_
  refine nx_then ?_
  refine gw_cond rfl (fun hh => ?_) (fun hh => ?_)
  · have h1 : 500 < ((n : Nat) : Int) := by simpa using hh
    clear hh
    refine gw_seq ?_
    refine gw_region ?_
    refine wl_ov (ov_assign rfl) rfl ?_
    refine wl_nil ?_
    refine nx_then ?_
    refine gw_ret ?_
    refine nx_then_ret ?_
    refine nx_ret1 rfl rfl fun wx hm => ?_
    exact ⟨ret_int (by unfold driversE; rw [if_pos (by omega)]), hm.g⟩
  · have h1 : ¬ (500 < ((n : Nat) : Int)) := by simpa using hh
    clear hh
    refine gw_skip ?_
    refine nx_then ?_
    refine gw_seq ?_
    refine gw_region ?_
    refine wl_ov (ov_assign rfl) rfl ?_
    refine wl_nil ?_
    refine nx_then ?_
    refine gw_seq ?_
    refine gw_seq ?_
    refine gw_region ?_
    refine wl_ov (ov_move rfl) rfl ?_
    refine wl_ov (ov_len es73 rfl) rfl ?_
    refine wl_ov (ov_move rfl) rfl ?_
    refine wl_nil ?_
    refine nx_then ?_
    refine gw_block ?_
    refine gw_loop (γ := Nat) (fun (k : Nat) => k ≤ n ∧ driversE l = scanE drE (prevOf l k) (l.drop k)) (fun (k : Nat) => [(3, .string (prevD l k)), (9, .slice A n c), (10, .int .i64 ((n : Nat) : Int)), (11, .int .i64 ((k : Nat) : Int))]) (fun (k : Nat) => fun _ => True) (fun (k : Nat) => []) (fun (k : Nat) => []) (fun (k : Nat) => [SlOld drEnc 4 83 w.heap.size none A n l]) (fun (k : Nat) => n - k) 0 ⟨Nat.zero_le _, by unfold driversE; rw [if_neg (by omega)]; rfl⟩ ⟨rfl, rfl, rfl, rfl, trivial⟩ (fun _ hm => hm.pick [] [] [0] rfl rfl) ?_
    intro k hinv
    replace hinv : k ≤ n ∧ driversE l = scanE drE (prevOf l k) (l.drop k) := hinv
    refine gw_seq ?_
    refine gw_region ?_
    refine wl_ov (ov_lss rfl rfl) rfl ?_
    refine wl_nil ?_
    refine nx_then ?_
    refine gw_seq ?_
    refine gw_cond rfl (fun hh => ?_) (fun hh => ?_)
    · have hk : ((k : Nat) : Int) < ((n : Nat) : Int) := by simpa using hh
      clear hh
      refine gw_skip ?_
      refine nx_then ?_
      refine gw_seq ?_
      refine gw_block ?_
      refine gw_seq ?_
      refine gw_region ?_
      obtain ⟨b, off, hA, _, _⟩ := hl.get (by omega)
      subst hA
      obtain ⟨x, hx⟩ : ∃ x, l[k]? = some x := ⟨_, List.getElem?_eq_getElem (by omega)⟩
      obtain ⟨ke, bo, fm, tt⟩ := x
      have hat := scanE_at drE l k _ hx
      have hk1 : ke.size ≤ 1000000 := hok _ (List.mem_of_getElem? hx)
      refine wl_ov (ov_index (j := k) es73 rfl rfl (by omega)) rfl ?_
      refine wl_ov (ov_elem rz83 rfl (fun _ hm => (hm.fact 0 rfl).1) hx rfl rfl) rfl ?_
      refine wl_alloc zc83 rfl fun g1 => ?_
      refine wl_stores (cs' := [.string ke, .int .i64 bo, .int .i64 fm, .int .i64 tt]) 0 rz83 rfl rfl rfl rfl rfl rfl rfl rfl ?_
      refine wl_nil ?_
      refine nx_then ?_
      refine gw_seq ?_
      refine gw_block ?_
      refine gw_seq ?_
      refine gw_region ?_
      refine wl_ov (ov_field fo83_0 rfl rfl) rfl ?_
      refine wl_ov (ov_load sc9 rfl (fun _ hm => hm.blkI 0 rfl) rfl) rfl ?_
      refine wl_callv rfl cb102 rfl rfl (fun wx hm => (key_any _ wx (by omega))) ?_
      refine wl_ov (ov_un_not rfl) rfl ?_
      refine wl_ov (ov_assign rfl) rfl ?_
      refine wl_nil ?_
      refine nx_then ?_
      refine gw_cond rfl (fun hh => ?_) (fun hh => ?_)
      · have h2 : (keyB ke) = false := by simpa using hh
        clear hh
        refine gw_seq ?_
        refine gw_region ?_
        refine wl_ov (ov_assign rfl) rfl ?_
        refine wl_nil ?_
        refine nx_then ?_
        refine gw_ret ?_
        refine nx_blk_ret ?_
        refine nx_then_ret ?_
        refine nx_blk_ret ?_
        refine nx_then_ret ?_
        refine nx_then_ret ?_
        refine nx_blk_ret ?_
        refine nx_then_ret ?_
        have hE : drE (prevOf l k) ⟨ke, bo, fm, tt⟩ = 5 := by unfold drE; simp [h2]
        refine nx_ret1 rfl rfl fun wx hm => ?_
        exact ⟨ret_int (by rw [hinv.2, hat, if_neg (by rw [hE]; decide), hE]), hm.g⟩
      · have h2 : (keyB ke) = true := by simpa using hh
        clear hh
        refine gw_seq ?_
        refine gw_region ?_
        refine wl_ov (ov_field fo83_0 rfl rfl) rfl ?_
        refine wl_ov (ov_load sc9 rfl (fun _ hm => hm.blkI 0 rfl) rfl) rfl ?_
        refine wl_ov (ov_move rfl) rfl ?_
        refine wl_ov (ov_sleq rfl rfl) rfl ?_
        refine wl_ov (ov_assign rfl) rfl ?_
        refine wl_nil ?_
        refine nx_then ?_
        refine gw_cond rfl (fun hh => ?_) (fun hh => ?_)
        · have h9 : (Op.bytesLess ke.toList (prevD l k).toList || ke.toList == (prevD l k).toList) = true := by simpa using hh
          clear hh
          refine gw_seq ?_
          refine gw_region ?_
          have hO : leD (prevOf l k) ⟨ke, bo, fm, tt⟩ = true := (prevD_le (b := ⟨ke, bo, fm, tt⟩) (by simpa using h2)).symm.trans h9
          refine wl_ov (ov_assign rfl) rfl ?_
          refine wl_nil ?_
          refine nx_then ?_
          refine gw_ret ?_
          refine nx_blk_ret ?_
          refine nx_then_ret ?_
          refine nx_blk_ret ?_
          refine nx_then_ret ?_
          refine nx_then_ret ?_
          refine nx_blk_ret ?_
          refine nx_then_ret ?_
          have hE : drE (prevOf l k) ⟨ke, bo, fm, tt⟩ = 7 := by unfold drE; simp [h2, hO]
          refine nx_ret1 rfl rfl fun wx hm => ?_
          exact ⟨ret_int (by rw [hinv.2, hat, if_neg (by rw [hE]; decide), hE]), hm.g⟩
        · have h9 : (Op.bytesLess ke.toList (prevD l k).toList || ke.toList == (prevD l k).toList) = false := by simpa using hh
          clear hh
          refine gw_seq ?_
          refine gw_region ?_
          have hO : leD (prevOf l k) ⟨ke, bo, fm, tt⟩ = false := (prevD_le (b := ⟨ke, bo, fm, tt⟩) (by simpa using h2)).symm.trans h9
          refine wl_ov (ov_field fo83_1 rfl rfl) rfl ?_
          refine wl_ov (ov_load sc3 rfl (fun _ hm => hm.blkI 0 rfl) rfl) rfl ?_
          refine wl_callw rfl cb101 rfl rfl (fun wx hm => (rin_any _ _ _ wx)) ?_
          refine wl_ov (ov_un_not rfl) rfl ?_
          refine wl_ov (ov_move rfl) rfl ?_
          rcases Bool.eq_false_or_eq_true (!(inB bo (-50000) 4000)) with h4 | h4
          · refine wl_set 30 rfl (congrArg Value.bool h4) ?_
            refine wl_guard_off rfl rfl rfl (by decide) rfl ?_
            refine wl_guard_off rfl rfl rfl (by decide) rfl ?_
            refine wl_guard_off rfl rfl rfl (by decide) rfl ?_
            refine wl_guard_off rfl rfl rfl (by decide) rfl ?_
            refine wl_guard_off rfl rfl rfl (by decide) rfl ?_
            refine wl_guard_off rfl rfl rfl (by decide) rfl ?_
            refine wl_ov (ov_pick_t rfl rfl) rfl ?_
            refine wl_ov (ov_move rfl) rfl ?_
            refine wl_guard_off rfl rfl rfl (by decide) rfl ?_
            refine wl_guard_off rfl rfl rfl (by decide) rfl ?_
            refine wl_guard_off rfl rfl rfl (by decide) rfl ?_
            refine wl_ov (ov_pick_t rfl rfl) rfl ?_
            refine wl_ov (ov_assign rfl) rfl ?_
            refine wl_nil ?_
            refine nx_then ?_
            refine gw_cond rfl (fun _ => ?_) (fun hh => by cases hh)
            refine gw_seq ?_
            refine gw_region ?_
            refine wl_ov (ov_assign rfl) rfl ?_
            refine wl_nil ?_
            refine nx_then ?_
            refine gw_ret ?_
            refine nx_blk_ret ?_
            refine nx_then_ret ?_
            refine nx_blk_ret ?_
            refine nx_then_ret ?_
            refine nx_then_ret ?_
            refine nx_blk_ret ?_
            refine nx_then_ret ?_
            have hE : drE (prevOf l k) ⟨ke, bo, fm, tt⟩ = 1 := by unfold drE; simp [h2, hO, h4]
            refine nx_ret1 rfl rfl fun wx hm => ?_
            exact ⟨ret_int (by rw [hinv.2, hat, if_neg (by rw [hE]; decide), hE]), hm.g⟩
          · refine wl_set 30 rfl (congrArg Value.bool h4) ?_
            refine wl_guard_on rfl rfl rfl ?_
            refine wl_ov (ov_field fo83_2 rfl rfl) rfl ?_
            refine wl_guard_on rfl rfl rfl ?_
            refine wl_ov (ov_load sc3 rfl (fun _ hm => hm.blkI 0 rfl) rfl) rfl ?_
            refine wl_guard_on rfl rfl rfl ?_
            refine wl_ov (ov_field fo83_3 rfl rfl) rfl ?_
            refine wl_guard_on rfl rfl rfl ?_
            refine wl_ov (ov_load sc3 rfl (fun _ hm => hm.blkI 0 rfl) rfl) rfl ?_
            refine wl_guard_on rfl rfl rfl ?_
            refine wl_callw rfl cb101 rfl rfl (fun wx hm => (rin_any _ _ _ wx)) ?_
            refine wl_guard_on rfl rfl rfl ?_
            refine wl_ov (ov_un_not rfl) rfl ?_
            refine wl_ov (ov_pick_f rfl rfl) rfl ?_
            refine wl_ov (ov_move rfl) rfl ?_
            rcases Bool.eq_false_or_eq_true (!(inB fm (-50000) tt)) with h5 | h5
            · refine wl_set 38 rfl (congrArg Value.bool h5) ?_
              refine wl_guard_off rfl rfl rfl (by decide) rfl ?_
              refine wl_guard_off rfl rfl rfl (by decide) rfl ?_
              refine wl_guard_off rfl rfl rfl (by decide) rfl ?_
              refine wl_ov (ov_pick_t rfl rfl) rfl ?_
              refine wl_ov (ov_assign rfl) rfl ?_
              refine wl_nil ?_
              refine nx_then ?_
              refine gw_cond rfl (fun _ => ?_) (fun hh => by cases hh)
              refine gw_seq ?_
              refine gw_region ?_
              refine wl_ov (ov_assign rfl) rfl ?_
              refine wl_nil ?_
              refine nx_then ?_
              refine gw_ret ?_
              refine nx_blk_ret ?_
              refine nx_then_ret ?_
              refine nx_blk_ret ?_
              refine nx_then_ret ?_
              refine nx_then_ret ?_
              refine nx_blk_ret ?_
              refine nx_then_ret ?_
              have hE : drE (prevOf l k) ⟨ke, bo, fm, tt⟩ = 1 := by unfold drE; simp [h2, hO, h4, h5]
              refine nx_ret1 rfl rfl fun wx hm => ?_
              exact ⟨ret_int (by rw [hinv.2, hat, if_neg (by rw [hE]; decide), hE]), hm.g⟩
            · refine wl_set 38 rfl (congrArg Value.bool h5) ?_
              refine wl_guard_on rfl rfl rfl ?_
              refine wl_ov (ov_field fo83_3 rfl rfl) rfl ?_
              refine wl_guard_on rfl rfl rfl ?_
              refine wl_ov (ov_load sc3 rfl (fun _ hm => hm.blkI 0 rfl) rfl) rfl ?_
              refine wl_guard_on rfl rfl rfl ?_
              refine wl_ov (ov_gtr rfl rfl) rfl ?_
              refine wl_ov (ov_pick_f rfl rfl) rfl ?_
              refine wl_ov (ov_assign rfl) rfl ?_
              refine wl_nil ?_
              refine nx_then ?_
              refine gw_cond rfl (fun hh => ?_) (fun hh => ?_)
              · have h6 : 50000 < tt := by simpa using hh
                clear hh
                refine gw_seq ?_
                refine gw_region ?_
                refine wl_ov (ov_assign rfl) rfl ?_
                refine wl_nil ?_
                refine nx_then ?_
                refine gw_ret ?_
                refine nx_blk_ret ?_
                refine nx_then_ret ?_
                refine nx_blk_ret ?_
                refine nx_then_ret ?_
                refine nx_then_ret ?_
                refine nx_blk_ret ?_
                refine nx_then_ret ?_
                have hE : drE (prevOf l k) ⟨ke, bo, fm, tt⟩ = 1 := by unfold drE; simp [h2, hO, h4, h5, h6]
                refine nx_ret1 rfl rfl fun wx hm => ?_
                exact ⟨ret_int (by rw [hinv.2, hat, if_neg (by rw [hE]; decide), hE]), hm.g⟩
              · have h6 : ¬ (50000 < tt) := by simpa using hh
                clear hh
                refine gw_skip ?_
                refine nx_blk_nrm ?_
                refine nx_then ?_
                refine gw_region ?_
                have hE : drE (prevOf l k) ⟨ke, bo, fm, tt⟩ = 0 := by unfold drE; simp [h2, hO, h4, h5, h6]
                refine wl_ov (ov_field fo83_0 rfl rfl) rfl ?_
                refine wl_ov (ov_load sc9 rfl (fun _ hm => hm.blkI 0 rfl) rfl) rfl ?_
                refine wl_ov (ov_assign rfl) rfl ?_
                refine wl_nil ?_
                refine nx_blk_nrm ?_
                refine nx_then ?_
                refine gw_region ?_
                refine wl_ov (ov_add rfl rfl (by omega) (by omega)) rfl ?_
                refine wl_ov (ov_move rfl) rfl ?_
                refine wl_nil ?_
                exact nx_round (k + 1) ⟨by omega, by rw [hinv.2, hat, if_pos hE]⟩ (by omega) ⟨(congrArg (fun z => some (Value.string z)) (prevD_succ hx).symm), rfl, rfl, (some_int (by omega)), trivial⟩ (fun _ hm => hm.pick [] [] [0] rfl rfl)
    · have hk : ¬ (((k : Nat) : Int) < ((n : Nat) : Int)) := by simpa using hh
      clear hh
      refine gw_exit ?_
      refine nx_then_exit ?_
      refine nx_then_exit ?_
      refine nx_blk_here ?_
      refine nx_then ?_
      refine gw_seq ?_
      refine gw_region ?_
      refine wl_ov (ov_assign rfl) rfl ?_
      refine wl_nil ?_
      refine nx_then ?_
      refine gw_ret ?_
      refine nx_ret1 rfl rfl fun wx hm => ?_
      exact ⟨ret_int (by rw [hinv.2, scanE_end _ _ _ _ (by omega)]), hm.g⟩

set_option maxRecDepth 100000 in
set_option maxHeartbeats 1000000 in
theorem checkAges_any (l : List Ag) (A : Option Addr) (n c : Nat) (w : World) (hl : SlT agEnc 2 158 w A n l) (hok : ∀ b ∈ l, AgOk b) (hn : n ≤ 1000000) :
    Calls Tryd.prog 114 #[.slice A n c] w (GotE w (agesE l)) := by
  refine gw_enter ⟨40, w, none, []⟩ Tryd.func114 rfl Tryd.ntmps114 rfl (mem0 (X := [SlOld agEnc 2 158 w.heap.size none A n l]) (allF_cons hl.old allF_nil) (allL_cons SlOld.lasts allL_nil)) ?_
  refine gw_seq ?_
  refine gw_region ?_
  have hlen := hl.len
  refine wl_ov (ov_assign rfl) rfl ?_
  refine wl_nil ?_
  refine nx_then ?_
  refine gw_seq ?_
  refine gw_seq ?_
  refine gw_region ?_
  refine wl_ov (ov_move rfl) rfl ?_
  refine wl_ov (ov_len es75 rfl) rfl ?_
  refine wl_ov (ov_gtr rfl rfl) rfl ?_
  refine wl_nil ?_
  refine nx_then ?_
  refine gw_cond rfl (fun hh => ?_) (fun hh => ?_)
  · have h1 : 30 < ((n : Nat) : Int) := by simpa using hh
    clear hh
    refine gw_seq ?_
    refine gw_region ?_
    refine wl_ov (ov_assign rfl) rfl ?_
    refine wl_nil ?_
    refine nx_then ?_
    refine gw_ret ?_
    refine nx_then_ret ?_
    refine nx_ret1 rfl rfl fun wx hm => ?_
    exact ⟨ret_int (by unfold agesE; rw [if_pos (by omega)]), hm.g⟩
  · have h1 : ¬ (30 < ((n : Nat) : Int)) := by simpa using hh
    clear hh
    refine gw_skip ?_
    refine nx_then ?_
    refine gw_seq ?_
    refine gw_seq ?_
    refine gw_region ?_
    refine wl_ov (ov_move rfl) rfl ?_
    refine wl_ov (ov_len es75 rfl) rfl ?_
    refine wl_ov (ov_move rfl) rfl ?_
    refine wl_nil ?_
    refine nx_then ?_
    refine gw_block ?_
    refine gw_loop (γ := Nat) (fun (k : Nat) => k ≤ n ∧ agesE l = scanE agE (prevOf l k) (l.drop k)) (fun (k : Nat) => [(0, .slice A n c), (8, .slice A n c), (9, .int .i64 ((n : Nat) : Int)), (10, .int .i64 ((k : Nat) : Int))]) (fun (k : Nat) => fun _ => True) (fun (k : Nat) => []) (fun (k : Nat) => []) (fun (k : Nat) => [SlOld agEnc 2 158 w.heap.size none A n l]) (fun (k : Nat) => n - k) 0 ⟨Nat.zero_le _, by unfold agesE; rw [if_neg (by omega)]; rfl⟩ ⟨rfl, rfl, rfl, rfl, trivial⟩ (fun _ hm => hm.pick [] [] [0] rfl rfl) ?_
    intro k hinv
    replace hinv : k ≤ n ∧ agesE l = scanE agE (prevOf l k) (l.drop k) := hinv
    refine gw_seq ?_
    refine gw_region ?_
    refine wl_ov (ov_lss rfl rfl) rfl ?_
    refine wl_nil ?_
    refine nx_then ?_
    refine gw_seq ?_
    refine gw_cond rfl (fun hh => ?_) (fun hh => ?_)
    · have hk : ((k : Nat) : Int) < ((n : Nat) : Int) := by simpa using hh
      clear hh
      refine gw_skip ?_
      refine nx_then ?_
      refine gw_seq ?_
      refine gw_block ?_
      refine gw_seq ?_
      refine gw_region ?_
      obtain ⟨b, off, hA, _, _⟩ := hl.get (by omega)
      subst hA
      obtain ⟨x, hx⟩ : ∃ x, l[k]? = some x := ⟨_, List.getElem?_eq_getElem (by omega)⟩
      obtain ⟨cl, dy⟩ := x
      have hat := scanE_at agE l k _ hx
      have hk1 : cl.size ≤ 1000000 := hok _ (List.mem_of_getElem? hx)
      refine wl_ov (ov_move rfl) rfl ?_
      refine wl_ov (ov_index (j := k) es75 rfl rfl (by omega)) rfl ?_
      refine wl_ov (ov_elem rz158 rfl (fun _ hm => (hm.fact 0 rfl).1) hx rfl rfl) rfl ?_
      refine wl_alloc zc158 rfl fun g1 => ?_
      refine wl_ov (ov_assign rfl) rfl ?_
      refine wl_stores (cs' := [.string cl, .int .i64 dy]) 0 rz158 rfl rfl rfl rfl rfl rfl rfl rfl ?_
      refine wl_nil ?_
      refine nx_then ?_
      refine gw_block ?_
      refine gw_seq ?_
      refine gw_region ?_
      refine wl_ov (ov_field fo158_0 rfl rfl) rfl ?_
      refine wl_ov (ov_load sc9 rfl (fun _ hm => hm.blkI 0 rfl) rfl) rfl ?_
      refine wl_callw rfl cb115 rfl rfl (fun wx hm => (isKey_any _ wx (by omega))) ?_
      refine wl_ov (ov_un_not rfl) rfl ?_
      refine wl_ov (ov_assign rfl) rfl ?_
      refine wl_nil ?_
      refine nx_then ?_
      refine gw_cond rfl (fun hh => ?_) (fun hh => ?_)
      · have h2 : (keyB cl) = false := by simpa using hh
        clear hh
        refine gw_seq ?_
        refine gw_region ?_
        refine wl_ov (ov_assign rfl) rfl ?_
        refine wl_nil ?_
        refine nx_then ?_
        refine gw_ret ?_
        refine nx_blk_ret ?_
        refine nx_blk_ret ?_
        refine nx_then_ret ?_
        refine nx_then_ret ?_
        refine nx_blk_ret ?_
        refine nx_then_ret ?_
        have hE : agE (prevOf l k) ⟨cl, dy⟩ = 5 := by unfold agE; simp [h2]
        refine nx_ret1 rfl rfl fun wx hm => ?_
        exact ⟨ret_int (by rw [hinv.2, hat, if_neg (by rw [hE]; decide), hE]), hm.g⟩
      · have h2 : (keyB cl) = true := by simpa using hh
        clear hh
        refine gw_seq ?_
        by_cases hk0 : k = 0
        · have hO : leG (prevOf l k) ⟨cl, dy⟩ = false := by rw [prevOf_zero hk0]; rfl
          refine gw_draw (fun wz => Blk wz g1 158 [.string cl, .int .i64 dy] ∧ (SlOld agEnc 2 158 w.heap.size none (some ⟨b, off, none⟩) n l) wz ∧ True) mixed ?_
          refine wa_take 0 rfl (by kernel_rfl) (by kernel_rfl) (by kernel_rfl) (listed' := #[true, false, false, false, false, false, false, false, false, false, false, false, false, false]) rfl (fun _ _ _ h => h) (fun _ hm => ⟨hm.blkI 0 rfl, hm.fact 0 rfl, trivial⟩) (ov_move rfl) rfl ?_
          refine wa_take 1 rfl (by kernel_rfl) (by kernel_rfl) (by kernel_rfl) (listed' := #[true, true, false, false, false, false, false, false, false, false, false, false, false, false]) rfl (fun _ _ _ h => h) (fun _ hm => ⟨hm.blkI 0 rfl, hm.fact 0 rfl, trivial⟩) (ov_gtr rfl rfl) rfl ?_
          refine wa_set 22 (v' := .bool false) rfl (congrArg Value.bool (decide_eq_false (by omega))) ?_
          refine wa_take 2 rfl (by kernel_rfl) (by kernel_rfl) (by kernel_rfl) (listed' := #[true, true, true, false, false, false, false, false, false, false, false, false, false, false]) rfl (fun _ _ _ h => h) (fun _ hm => ⟨hm.blkI 0 rfl, hm.fact 0 rfl, trivial⟩) (ov_move rfl) rfl ?_
          refine wa_take_off 3 rfl rfl rfl (by decide) (by kernel_rfl) (by kernel_rfl) (by kernel_rfl) (listed' := #[true, true, true, true, false, false, false, false, false, false, false, false, false, false]) rfl (fun _ _ _ h => h) (fun _ hm => ⟨hm.blkI 0 rfl, hm.fact 0 rfl, trivial⟩) rfl ?_
          refine wa_take_off 4 rfl rfl rfl (by decide) (by kernel_rfl) (by kernel_rfl) (by kernel_rfl) (listed' := #[true, true, true, true, true, false, false, false, false, false, false, false, false, false]) rfl (fun _ _ _ h => h) (fun _ hm => ⟨hm.blkI 0 rfl, hm.fact 0 rfl, trivial⟩) rfl ?_
          refine wa_take_off 5 rfl rfl rfl (by decide) (by kernel_rfl) (by kernel_rfl) (by kernel_rfl) (listed' := #[true, true, true, true, true, true, false, false, false, false, false, false, false, false]) rfl (fun _ _ _ h => h) (fun _ hm => ⟨hm.blkI 0 rfl, hm.fact 0 rfl, trivial⟩) rfl ?_
          refine wa_take_off 6 rfl rfl rfl (by decide) (by kernel_rfl) (by kernel_rfl) (by kernel_rfl) (listed' := #[true, true, true, true, true, true, true, false, false, false, false, false, false, false]) rfl (fun _ _ _ h => h) (fun _ hm => ⟨hm.blkI 0 rfl, hm.fact 0 rfl, trivial⟩) rfl ?_
          refine wa_take_off 7 rfl rfl rfl (by decide) (by kernel_rfl) (by kernel_rfl) (by kernel_rfl) (listed' := #[true, true, true, true, true, true, true, true, false, false, false, false, false, false]) rfl (fun _ _ _ h => h) (fun _ hm => ⟨hm.blkI 0 rfl, hm.fact 0 rfl, trivial⟩) rfl ?_
          refine wa_take_off 8 rfl rfl rfl (by decide) (by kernel_rfl) (by kernel_rfl) (by kernel_rfl) (listed' := #[true, true, true, true, true, true, true, true, true, false, false, false, false, false]) rfl (fun _ _ _ h => h) (fun _ hm => ⟨hm.blkI 0 rfl, hm.fact 0 rfl, trivial⟩) rfl ?_
          refine wa_take_off 9 rfl rfl rfl (by decide) (by kernel_rfl) (by kernel_rfl) (by kernel_rfl) (listed' := #[true, true, true, true, true, true, true, true, true, true, false, false, false, false]) rfl (fun _ _ _ h => h) (fun _ hm => ⟨hm.blkI 0 rfl, hm.fact 0 rfl, trivial⟩) rfl ?_
          refine wa_take_off 10 rfl rfl rfl (by decide) (by kernel_rfl) (by kernel_rfl) (by kernel_rfl) (listed' := #[true, true, true, true, true, true, true, true, true, true, true, false, false, false]) rfl (fun _ _ _ h => h) (fun _ hm => ⟨hm.blkI 0 rfl, hm.fact 0 rfl, trivial⟩) rfl ?_
          refine wa_take_off 11 rfl rfl rfl (by decide) (by kernel_rfl) (by kernel_rfl) (by kernel_rfl) (listed' := #[true, true, true, true, true, true, true, true, true, true, true, true, false, false]) rfl (fun _ _ _ h => h) (fun _ hm => ⟨hm.blkI 0 rfl, hm.fact 0 rfl, trivial⟩) rfl ?_
          refine wa_take 12 rfl (by kernel_rfl) (by kernel_rfl) (by kernel_rfl) (listed' := #[true, true, true, true, true, true, true, true, true, true, true, true, true, false]) rfl (fun _ _ _ h => h) (fun _ hm => ⟨hm.blkI 0 rfl, hm.fact 0 rfl, trivial⟩) (ov_pick_f rfl rfl) rfl ?_
          refine wa_take 13 rfl (by kernel_rfl) (by kernel_rfl) (by kernel_rfl) (listed' := #[true, true, true, true, true, true, true, true, true, true, true, true, true, true]) rfl (fun _ _ _ h => h) (fun _ hm => ⟨hm.blkI 0 rfl, hm.fact 0 rfl, trivial⟩) (ov_assign rfl) rfl ?_
          refine wa_done (by kernel_rfl) ?_
          refine nx_then ?_
          refine gw_cond rfl (fun hh => by cases hh) (fun _ => ?_)
          refine gw_seq ?_
          refine gw_region ?_
          refine wl_ov (ov_field fo158_1 rfl rfl) rfl ?_
          refine wl_ov (ov_load sc3 rfl (fun _ hm => hm.blkI 0 rfl) rfl) rfl ?_
          refine wl_callw rfl cb99 rfl rfl (fun wx hm => (in_any _ _ _ wx)) ?_
          refine wl_ov (ov_un_not rfl) rfl ?_
          refine wl_ov (ov_assign rfl) rfl ?_
          refine wl_nil ?_
          refine nx_then ?_
          refine gw_cond rfl (fun hh => ?_) (fun hh => ?_)
          · have h4 : (inB dy 0 50000) = false := by simpa using hh
            clear hh
            refine gw_seq ?_
            refine gw_region ?_
            refine wl_ov (ov_assign rfl) rfl ?_
            refine wl_nil ?_
            refine nx_then ?_
            refine gw_ret ?_
            refine nx_blk_ret ?_
            refine nx_blk_ret ?_
            refine nx_then_ret ?_
            refine nx_then_ret ?_
            refine nx_blk_ret ?_
            refine nx_then_ret ?_
            have hE : agE (prevOf l k) ⟨cl, dy⟩ = 1 := by unfold agE; simp [h2, hO, h4]
            refine nx_ret1 rfl rfl fun wx hm => ?_
            exact ⟨ret_int (by rw [hinv.2, hat, if_neg (by rw [hE]; decide), hE]), hm.g⟩
          · have h4 : (inB dy 0 50000) = true := by simpa using hh
            clear hh
            refine gw_skip ?_
            refine nx_blk_nrm ?_
            refine nx_blk_nrm ?_
            refine nx_then ?_
            refine gw_region ?_
            have hE : agE (prevOf l k) ⟨cl, dy⟩ = 0 := by unfold agE; simp [h2, hO, h4]
            refine wl_ov (ov_add rfl rfl (by omega) (by omega)) rfl ?_
            refine wl_ov (ov_move rfl) rfl ?_
            refine wl_nil ?_
            exact nx_round (k + 1) ⟨by omega, by rw [hinv.2, hat, if_pos hE]⟩ (by omega) ⟨rfl, rfl, rfl, (some_int (by omega)), trivial⟩ (fun _ hm => hm.pick [] [] [0] rfl rfl)
        · obtain ⟨y, hy⟩ : ∃ x, l[k - 1]? = some x := ⟨_, List.getElem?_eq_getElem (by omega)⟩
          obtain ⟨p0, p1⟩ := y
          refine gw_draw (fun wz => Blk wz g1 158 [.string cl, .int .i64 dy] ∧ (SlOld agEnc 2 158 w.heap.size none (some ⟨b, off, none⟩) n l) wz ∧ True) mixed ?_
          refine wa_take 0 rfl (by kernel_rfl) (by kernel_rfl) (by kernel_rfl) (listed' := #[true, false, false, false, false, false, false, false, false, false, false, false, false, false]) rfl (fun _ _ _ h => h) (fun _ hm => ⟨hm.blkI 0 rfl, hm.fact 0 rfl, trivial⟩) (ov_move rfl) rfl ?_
          refine wa_take 1 rfl (by kernel_rfl) (by kernel_rfl) (by kernel_rfl) (listed' := #[true, true, false, false, false, false, false, false, false, false, false, false, false, false]) rfl (fun _ _ _ h => h) (fun _ hm => ⟨hm.blkI 0 rfl, hm.fact 0 rfl, trivial⟩) (ov_gtr rfl rfl) rfl ?_
          refine wa_set 22 (v' := .bool true) rfl (congrArg Value.bool (decide_eq_true (by omega))) ?_
          refine wa_take 2 rfl (by kernel_rfl) (by kernel_rfl) (by kernel_rfl) (listed' := #[true, true, true, false, false, false, false, false, false, false, false, false, false, false]) rfl (fun _ _ _ h => h) (fun _ hm => ⟨hm.blkI 0 rfl, hm.fact 0 rfl, trivial⟩) (ov_move rfl) rfl ?_
          refine wa_take_on 3 rfl rfl rfl (by kernel_rfl) (by kernel_rfl) (by kernel_rfl) (listed' := #[true, true, true, true, false, false, false, false, false, false, false, false, false, false]) rfl (fun _ _ _ h => h) (fun _ hm => ⟨hm.blkI 0 rfl, hm.fact 0 rfl, trivial⟩) (ov_field fo158_0 rfl rfl) rfl ?_
          refine wa_take_on 4 rfl rfl rfl (by kernel_rfl) (by kernel_rfl) (by kernel_rfl) (listed' := #[true, true, true, true, true, false, false, false, false, false, false, false, false, false]) rfl (fun _ _ _ h => h) (fun _ hm => ⟨hm.blkI 0 rfl, hm.fact 0 rfl, trivial⟩) (ov_load sc9 rfl (fun _ hm => hm.1) rfl) rfl ?_
          refine wa_take_on 5 rfl rfl rfl (by kernel_rfl) (by kernel_rfl) (by kernel_rfl) (listed' := #[true, true, true, true, true, true, false, false, false, false, false, false, false, false]) rfl (fun _ _ _ h => h) (fun _ hm => ⟨hm.blkI 0 rfl, hm.fact 0 rfl, trivial⟩) (ov_move rfl) rfl ?_
          refine wa_take_on 6 rfl rfl rfl (by kernel_rfl) (by kernel_rfl) (by kernel_rfl) (listed' := #[true, true, true, true, true, true, true, false, false, false, false, false, false, false]) rfl (fun _ _ _ h => h) (fun _ hm => ⟨hm.blkI 0 rfl, hm.fact 0 rfl, trivial⟩) (ov_move rfl) rfl ?_
          refine wa_take_on 7 rfl rfl rfl (by kernel_rfl) (by kernel_rfl) (by kernel_rfl) (listed' := #[true, true, true, true, true, true, true, true, false, false, false, false, false, false]) rfl (fun _ _ _ h => h) (fun _ hm => ⟨hm.blkI 0 rfl, hm.fact 0 rfl, trivial⟩) (ov_sub rfl rfl (by omega) (by omega)) rfl ?_
          refine wa_set 28 (v' := .int .i64 ((k - 1 : Nat) : Int)) rfl (congrArg (Value.int .i64) (by omega)) ?_
          refine wa_take_on 8 rfl rfl rfl (by kernel_rfl) (by kernel_rfl) (by kernel_rfl) (listed' := #[true, true, true, true, true, true, true, true, true, false, false, false, false, false]) rfl (fun _ _ _ h => h) (fun _ hm => ⟨hm.blkI 0 rfl, hm.fact 0 rfl, trivial⟩) (ov_index (j := k - 1) es75 rfl rfl (by omega)) rfl ?_
          refine wa_take_on 9 rfl rfl rfl (by kernel_rfl) (by kernel_rfl) (by kernel_rfl) (listed' := #[true, true, true, true, true, true, true, true, true, true, false, false, false, false]) rfl (fun _ _ _ h => h) (fun _ hm => ⟨hm.blkI 0 rfl, hm.fact 0 rfl, trivial⟩) (ov_field fo158_0 rfl rfl) rfl ?_
          refine wa_take_on 10 rfl rfl rfl (by kernel_rfl) (by kernel_rfl) (by kernel_rfl) (listed' := #[true, true, true, true, true, true, true, true, true, true, true, false, false, false]) rfl (fun _ _ _ h => h) (fun _ hm => ⟨hm.blkI 0 rfl, hm.fact 0 rfl, trivial⟩) (ov_elem1 (k := 0) sc9 rfl (fun _ hm => (hm.2.1).1) hy rfl rfl) rfl ?_
          refine wa_take_on 11 rfl rfl rfl (by kernel_rfl) (by kernel_rfl) (by kernel_rfl) (listed' := #[true, true, true, true, true, true, true, true, true, true, true, true, false, false]) rfl (fun _ _ _ h => h) (fun _ hm => ⟨hm.blkI 0 rfl, hm.fact 0 rfl, trivial⟩) (ov_sleq rfl rfl) rfl ?_
          refine wa_take 12 rfl (by kernel_rfl) (by kernel_rfl) (by kernel_rfl) (listed' := #[true, true, true, true, true, true, true, true, true, true, true, true, true, false]) rfl (fun _ _ _ h => h) (fun _ hm => ⟨hm.blkI 0 rfl, hm.fact 0 rfl, trivial⟩) (ov_pick_t rfl rfl) rfl ?_
          refine wa_take 13 rfl (by kernel_rfl) (by kernel_rfl) (by kernel_rfl) (listed' := #[true, true, true, true, true, true, true, true, true, true, true, true, true, true]) rfl (fun _ _ _ h => h) (fun _ hm => ⟨hm.blkI 0 rfl, hm.fact 0 rfl, trivial⟩) (ov_assign rfl) rfl ?_
          refine wa_done (by kernel_rfl) ?_
          refine nx_then ?_
          refine gw_cond rfl (fun hh => ?_) (fun hh => ?_)
          · have h9 : (Op.bytesLess cl.toList p0.toList || cl.toList == p0.toList) = true := by simpa using hh
            clear hh
            refine gw_seq ?_
            refine gw_region ?_
            have hO : leG (prevOf l k) ⟨cl, dy⟩ = true := by rw [prevOf_pos hk0 hy]; exact h9
            refine wl_ov (ov_assign rfl) rfl ?_
            refine wl_nil ?_
            refine nx_then ?_
            refine gw_ret ?_
            refine nx_blk_ret ?_
            refine nx_blk_ret ?_
            refine nx_then_ret ?_
            refine nx_then_ret ?_
            refine nx_blk_ret ?_
            refine nx_then_ret ?_
            have hE : agE (prevOf l k) ⟨cl, dy⟩ = 7 := by unfold agE; simp [h2, hO]
            refine nx_ret1 rfl rfl fun wx hm => ?_
            exact ⟨ret_int (by rw [hinv.2, hat, if_neg (by rw [hE]; decide), hE]), hm.g⟩
          · have h9 : (Op.bytesLess cl.toList p0.toList || cl.toList == p0.toList) = false := by simpa using hh
            clear hh
            refine gw_seq ?_
            refine gw_region ?_
            have hO : leG (prevOf l k) ⟨cl, dy⟩ = false := by rw [prevOf_pos hk0 hy]; exact h9
            refine wl_ov (ov_field fo158_1 rfl rfl) rfl ?_
            refine wl_ov (ov_load sc3 rfl (fun _ hm => hm.blkI 0 rfl) rfl) rfl ?_
            refine wl_callw rfl cb99 rfl rfl (fun wx hm => (in_any _ _ _ wx)) ?_
            refine wl_ov (ov_un_not rfl) rfl ?_
            refine wl_ov (ov_assign rfl) rfl ?_
            refine wl_nil ?_
            refine nx_then ?_
            refine gw_cond rfl (fun hh => ?_) (fun hh => ?_)
            · have h4 : (inB dy 0 50000) = false := by simpa using hh
              clear hh
              refine gw_seq ?_
              refine gw_region ?_
              refine wl_ov (ov_assign rfl) rfl ?_
              refine wl_nil ?_
              refine nx_then ?_
              refine gw_ret ?_
              refine nx_blk_ret ?_
              refine nx_blk_ret ?_
              refine nx_then_ret ?_
              refine nx_then_ret ?_
              refine nx_blk_ret ?_
              refine nx_then_ret ?_
              have hE : agE (prevOf l k) ⟨cl, dy⟩ = 1 := by unfold agE; simp [h2, hO, h4]
              refine nx_ret1 rfl rfl fun wx hm => ?_
              exact ⟨ret_int (by rw [hinv.2, hat, if_neg (by rw [hE]; decide), hE]), hm.g⟩
            · have h4 : (inB dy 0 50000) = true := by simpa using hh
              clear hh
              refine gw_skip ?_
              refine nx_blk_nrm ?_
              refine nx_blk_nrm ?_
              refine nx_then ?_
              refine gw_region ?_
              have hE : agE (prevOf l k) ⟨cl, dy⟩ = 0 := by unfold agE; simp [h2, hO, h4]
              refine wl_ov (ov_add rfl rfl (by omega) (by omega)) rfl ?_
              refine wl_ov (ov_move rfl) rfl ?_
              refine wl_nil ?_
              exact nx_round (k + 1) ⟨by omega, by rw [hinv.2, hat, if_pos hE]⟩ (by omega) ⟨rfl, rfl, rfl, (some_int (by omega)), trivial⟩ (fun _ hm => hm.pick [] [] [0] rfl rfl)
    · have hk : ¬ (((k : Nat) : Int) < ((n : Nat) : Int)) := by simpa using hh
      clear hh
      refine gw_exit ?_
      refine nx_then_exit ?_
      refine nx_then_exit ?_
      refine nx_blk_here ?_
      refine nx_then ?_
      refine gw_seq ?_
      refine gw_region ?_
      refine wl_ov (ov_assign rfl) rfl ?_
      refine wl_nil ?_
      refine nx_then ?_
      refine gw_ret ?_
      refine nx_ret1 rfl rfl fun wx hm => ?_
      exact ⟨ret_int (by rw [hinv.2, scanE_end _ _ _ _ (by omega)]), hm.g⟩

set_option maxRecDepth 100000 in
set_option maxHeartbeats 1000000 in
theorem agesFault_any (l : List Ag) (A : Option Addr) (n c : Nat) (w : World) (hl : SlT agEnc 2 158 w A n l) (hok : ∀ b ∈ l, AgOk b) (hn : n ≤ 1000000) :
    Calls Tryd.prog 50 #[.slice A n c] w (GotE w (agesE l)) := by
  refine gw_enter ⟨33, w, none, []⟩ Tryd.func50 rfl Tryd.ntmps50 rfl (mem0 (X := [SlOld agEnc 2 158 w.heap.size none A n l]) (allF_cons hl.old allF_nil) (allL_cons SlOld.lasts allL_nil)) ?_
  refine gw_seq ?_
  refine gw_region ?_
  have hlen := hl.len
  refine wl_ov (ov_assign rfl) rfl ?_
  refine wl_nil ?_
  refine nx_then ?_
  refine gw_seq ?_
  refine gw_seq ?_
  refine gw_region ?_
  refine wl_ov (ov_move rfl) rfl ?_
  refine wl_ov (ov_len es75 rfl) rfl ?_
  refine wl_ov (ov_gtr rfl rfl) rfl ?_
  refine wl_nil ?_
  refine nx_then ?_
  refine gw_cond rfl (fun hh => ?_) (fun hh => ?_)
  · have h1 : 30 < ((n : Nat) : Int) := by simpa using hh
    clear hh
    refine gw_seq ?_
    refine gw_region ?_
    refine wl_ov (ov_assign rfl) rfl ?_
    refine wl_nil ?_
    refine nx_then ?_
    refine gw_ret ?_
    refine nx_then_ret ?_
    refine nx_ret1 rfl rfl fun wx hm => ?_
    exact ⟨ret_int (by unfold agesE; rw [if_pos (by omega)]), hm.g⟩
  · have h1 : ¬ (30 < ((n : Nat) : Int)) := by simpa using hh
    clear hh
    refine gw_skip ?_
    refine nx_then ?_
    refine gw_seq ?_
    refine gw_region ?_
    refine wl_ov (ov_assign rfl) rfl ?_
    refine wl_nil ?_
    refine nx_then ?_
    refine gw_seq ?_
    refine gw_seq ?_
    refine gw_region ?_
    refine wl_ov (ov_move rfl) rfl ?_
    refine wl_ov (ov_len es75 rfl) rfl ?_
    refine wl_ov (ov_move rfl) rfl ?_
    refine wl_nil ?_
    refine nx_then ?_
    refine gw_block ?_
    refine gw_loop (γ := Nat) (fun (k : Nat) => k ≤ n ∧ agesE l = scanE agE (prevOf l k) (l.drop k)) (fun (k : Nat) => [(3, .string (prevG l k)), (9, .slice A n c), (10, .int .i64 ((n : Nat) : Int)), (11, .int .i64 ((k : Nat) : Int))]) (fun (k : Nat) => fun _ => True) (fun (k : Nat) => []) (fun (k : Nat) => []) (fun (k : Nat) => [SlOld agEnc 2 158 w.heap.size none A n l]) (fun (k : Nat) => n - k) 0 ⟨Nat.zero_le _, by unfold agesE; rw [if_neg (by omega)]; rfl⟩ ⟨rfl, rfl, rfl, rfl, trivial⟩ (fun _ hm => hm.pick [] [] [0] rfl rfl) ?_
    intro k hinv
    replace hinv : k ≤ n ∧ agesE l = scanE agE (prevOf l k) (l.drop k) := hinv
    refine gw_seq ?_
    refine gw_region ?_
    refine wl_ov (ov_lss rfl rfl) rfl ?_
    refine wl_nil ?_
    refine nx_then ?_
    refine gw_seq ?_
    refine gw_cond rfl (fun hh => ?_) (fun hh => ?_)
    · have hk : ((k : Nat) : Int) < ((n : Nat) : Int) := by simpa using hh
      clear hh
      refine gw_skip ?_
      refine nx_then ?_
      refine gw_seq ?_
      refine gw_block ?_
      refine gw_seq ?_
      refine gw_region ?_
      obtain ⟨b, off, hA, _, _⟩ := hl.get (by omega)
      subst hA
      obtain ⟨x, hx⟩ : ∃ x, l[k]? = some x := ⟨_, List.getElem?_eq_getElem (by omega)⟩
      obtain ⟨cl, dy⟩ := x
      have hat := scanE_at agE l k _ hx
      have hk1 : cl.size ≤ 1000000 := hok _ (List.mem_of_getElem? hx)
      refine wl_ov (ov_index (j := k) es75 rfl rfl (by omega)) rfl ?_
      refine wl_ov (ov_elem rz158 rfl (fun _ hm => (hm.fact 0 rfl).1) hx rfl rfl) rfl ?_
      refine wl_alloc zc158 rfl fun g1 => ?_
      refine wl_stores (cs' := [.string cl, .int .i64 dy]) 0 rz158 rfl rfl rfl rfl rfl rfl rfl rfl ?_
      refine wl_nil ?_
      refine nx_then ?_
      refine gw_seq ?_
      refine gw_block ?_
      refine gw_seq ?_
      refine gw_region ?_
      refine wl_ov (ov_field fo158_0 rfl rfl) rfl ?_
      refine wl_ov (ov_load sc9 rfl (fun _ hm => hm.blkI 0 rfl) rfl) rfl ?_
      refine wl_callv rfl cb102 rfl rfl (fun wx hm => (key_any _ wx (by omega))) ?_
      refine wl_ov (ov_un_not rfl) rfl ?_
      refine wl_ov (ov_assign rfl) rfl ?_
      refine wl_nil ?_
      refine nx_then ?_
      refine gw_cond rfl (fun hh => ?_) (fun hh => ?_)
      · have h2 : (keyB cl) = false := by simpa using hh
        clear hh
        refine gw_seq ?_
        refine gw_region ?_
        refine wl_ov (ov_assign rfl) rfl ?_
        refine wl_nil ?_
        refine nx_then ?_
        refine gw_ret ?_
        refine nx_blk_ret ?_
        refine nx_then_ret ?_
        refine nx_blk_ret ?_
        refine nx_then_ret ?_
        refine nx_then_ret ?_
        refine nx_blk_ret ?_
        refine nx_then_ret ?_
        have hE : agE (prevOf l k) ⟨cl, dy⟩ = 5 := by unfold agE; simp [h2]
        refine nx_ret1 rfl rfl fun wx hm => ?_
        exact ⟨ret_int (by rw [hinv.2, hat, if_neg (by rw [hE]; decide), hE]), hm.g⟩
      · have h2 : (keyB cl) = true := by simpa using hh
        clear hh
        refine gw_seq ?_
        refine gw_region ?_
        refine wl_ov (ov_field fo158_0 rfl rfl) rfl ?_
        refine wl_ov (ov_load sc9 rfl (fun _ hm => hm.blkI 0 rfl) rfl) rfl ?_
        refine wl_ov (ov_move rfl) rfl ?_
        refine wl_ov (ov_sleq rfl rfl) rfl ?_
        refine wl_ov (ov_assign rfl) rfl ?_
        refine wl_nil ?_
        refine nx_then ?_
        refine gw_cond rfl (fun hh => ?_) (fun hh => ?_)
        · have h9 : (Op.bytesLess cl.toList (prevG l k).toList || cl.toList == (prevG l k).toList) = true := by simpa using hh
          clear hh
          refine gw_seq ?_
          refine gw_region ?_
          have hO : leG (prevOf l k) ⟨cl, dy⟩ = true := (prevG_le (b := ⟨cl, dy⟩) (by simpa using h2)).symm.trans h9
          refine wl_ov (ov_assign rfl) rfl ?_
          refine wl_nil ?_
          refine nx_then ?_
          refine gw_ret ?_
          refine nx_blk_ret ?_
          refine nx_then_ret ?_
          refine nx_blk_ret ?_
          refine nx_then_ret ?_
          refine nx_then_ret ?_
          refine nx_blk_ret ?_
          refine nx_then_ret ?_
          have hE : agE (prevOf l k) ⟨cl, dy⟩ = 7 := by unfold agE; simp [h2, hO]
          refine nx_ret1 rfl rfl fun wx hm => ?_
          exact ⟨ret_int (by rw [hinv.2, hat, if_neg (by rw [hE]; decide), hE]), hm.g⟩
        · have h9 : (Op.bytesLess cl.toList (prevG l k).toList || cl.toList == (prevG l k).toList) = false := by simpa using hh
          clear hh
          refine gw_seq ?_
          refine gw_region ?_
          have hO : leG (prevOf l k) ⟨cl, dy⟩ = false := (prevG_le (b := ⟨cl, dy⟩) (by simpa using h2)).symm.trans h9
          refine wl_ov (ov_field fo158_1 rfl rfl) rfl ?_
          refine wl_ov (ov_load sc3 rfl (fun _ hm => hm.blkI 0 rfl) rfl) rfl ?_
          refine wl_callw rfl cb101 rfl rfl (fun wx hm => (rin_any _ _ _ wx)) ?_
          refine wl_ov (ov_un_not rfl) rfl ?_
          refine wl_ov (ov_assign rfl) rfl ?_
          refine wl_nil ?_
          refine nx_then ?_
          refine gw_cond rfl (fun hh => ?_) (fun hh => ?_)
          · have h4 : (inB dy 0 50000) = false := by simpa using hh
            clear hh
            refine gw_seq ?_
            refine gw_region ?_
            refine wl_ov (ov_assign rfl) rfl ?_
            refine wl_nil ?_
            refine nx_then ?_
            refine gw_ret ?_
            refine nx_blk_ret ?_
            refine nx_then_ret ?_
            refine nx_blk_ret ?_
            refine nx_then_ret ?_
            refine nx_then_ret ?_
            refine nx_blk_ret ?_
            refine nx_then_ret ?_
            have hE : agE (prevOf l k) ⟨cl, dy⟩ = 1 := by unfold agE; simp [h2, hO, h4]
            refine nx_ret1 rfl rfl fun wx hm => ?_
            exact ⟨ret_int (by rw [hinv.2, hat, if_neg (by rw [hE]; decide), hE]), hm.g⟩
          · have h4 : (inB dy 0 50000) = true := by simpa using hh
            clear hh
            refine gw_skip ?_
            refine nx_blk_nrm ?_
            refine nx_then ?_
            refine gw_region ?_
            have hE : agE (prevOf l k) ⟨cl, dy⟩ = 0 := by unfold agE; simp [h2, hO, h4]
            refine wl_ov (ov_field fo158_0 rfl rfl) rfl ?_
            refine wl_ov (ov_load sc9 rfl (fun _ hm => hm.blkI 0 rfl) rfl) rfl ?_
            refine wl_ov (ov_assign rfl) rfl ?_
            refine wl_nil ?_
            refine nx_blk_nrm ?_
            refine nx_then ?_
            refine gw_region ?_
            refine wl_ov (ov_add rfl rfl (by omega) (by omega)) rfl ?_
            refine wl_ov (ov_move rfl) rfl ?_
            refine wl_nil ?_
            exact nx_round (k + 1) ⟨by omega, by rw [hinv.2, hat, if_pos hE]⟩ (by omega) ⟨(congrArg (fun z => some (Value.string z)) (prevG_succ hx).symm), rfl, rfl, (some_int (by omega)), trivial⟩ (fun _ hm => hm.pick [] [] [0] rfl rfl)
    · have hk : ¬ (((k : Nat) : Int) < ((n : Nat) : Int)) := by simpa using hh
      clear hh
      refine gw_exit ?_
      refine nx_then_exit ?_
      refine nx_then_exit ?_
      refine nx_blk_here ?_
      refine nx_then ?_
      refine gw_seq ?_
      refine gw_region ?_
      refine wl_ov (ov_assign rfl) rfl ?_
      refine wl_nil ?_
      refine nx_then ?_
      refine gw_ret ?_
      refine nx_ret1 rfl rfl fun wx hm => ?_
      exact ⟨ret_int (by rw [hinv.2, scanE_end _ _ _ _ (by omega)]), hm.g⟩

set_option maxRecDepth 100000 in
set_option maxHeartbeats 400000 in
theorem keyFault_any (key : ByteArray) (w : World) (hk : key.size ≤ 1000000) : Calls Tryd.prog 51 #[.string key] w (GotE w (whenE (!keyB key) 5)) := by
  refine gw_enter ⟨7, w, none, []⟩ Tryd.func51 rfl Tryd.ntmps51 rfl (mem0 (X := []) allF_nil allL_nil) ?_
  refine gw_seq ?_
  refine gw_region ?_
  refine wl_ov (ov_assign rfl) rfl ?_
  refine wl_nil ?_
  refine nx_then ?_
  refine gw_seq ?_
  refine gw_region ?_
  refine wl_ov (ov_move rfl) rfl ?_
  refine wl_callv rfl cb102 rfl rfl (fun wx hm => (key_any _ wx (by omega))) ?_
  refine wl_ov (ov_un_not rfl) rfl ?_
  refine wl_callw rfl cb29 rfl rfl (fun wx hm => (rwhen_any _ _ wx)) ?_
  refine wl_ov (ov_assign rfl) rfl ?_
  refine wl_nil ?_
  refine nx_then ?_
  refine gw_ret ?_
  refine nx_ret1 rfl rfl fun wx hm => ?_
  exact ⟨rfl, hm.g⟩

end Go.Proofs.YtljnekobfjpfaaaDoor
/- The generator Hires. -/
namespace Go.Proofs.YtljnekobfjpfaaaDoor
open Go.RowKit

theorem mem_key {xs : List ByteArray} {v : ByteArray} (hv : v ∈ xs) (h : ∀ x ∈ xs, keyB x = true) : keyB v = true := h v hv
theorem legs_nil {w : World} : Legs [] w := fun _ h => by cases h

set_option maxRecDepth 100000 in
set_option maxHeartbeats 1000000 in
theorem ghires_any (q : Nat) (w : World) (B sb m : Nat) (hS : Strm 25 w B sb m) (hm : m ≤ 100000000) (hq : q ≤ 4) :
    Calls Tryd.prog 67 #[.pointer (some ⟨sb, 0, none⟩), .int .i64 ((q : Nat) : Int)] w (fun e w' => ∃ (A : Option Addr) (n c : Nat) (hs : List Hs), e = .returned (.slice A n c) ∧ SlT hsEnc 5 36 w' A n hs ∧ Legs hs w' ∧ (∀ h ∈ hs, HsOk h) ∧ n ≤ 5 ∧ n ≤ c ∧ Strm 25 w' B sb (m + 20000) ∧ w.grownBy w' (some sb)) := by
  refine gw_enter ⟨35, w, (some sb), [138]⟩ Tryd.func67 rfl Tryd.ntmps67 rfl (memS (X := []) hS allF_nil allL_nil) ?_
  refine gw_seq ?_
  refine gw_region ?_
  refine wl_nilOwn 36 5 ?_
  refine wl_ov (ov_assign rfl) rfl ?_
  refine wl_nil ?_
  refine nx_then ?_
  refine gw_seq ?_
  refine gw_region ?_
  refine wl_ov (ov_assign rfl) rfl ?_
  refine wl_nil ?_
  refine nx_then ?_
  refine gw_seq ?_
  refine gw_seq ?_
  refine gw_region ?_
  refine wl_buildSlice (e := 9) (cs := [.string ⟨#[104, 49]⟩, .string ⟨#[104, 50]⟩, .string ⟨#[104, 51]⟩, .string ⟨#[104, 52]⟩]) rfl (by kernel_rfl) rfl fun g1 => ?_
  refine wl_ov (ov_move rfl) rfl ?_
  refine wl_ov (ov_min rfl rfl) rfl ?_
  refine wl_set 10 (v' := .int .i64 ((q : Nat) : Int)) rfl (congrArg (Value.int .i64) (by omega)) ?_
  refine wl_ov (ov_sliceHi (hi := q) es103 rfl rfl rfl (by omega)) rfl ?_
  refine wl_ov (ov_len es103 rfl) rfl ?_
  refine wl_ov (ov_move rfl) rfl ?_
  refine wl_nil ?_
  refine nx_then ?_
  refine gw_block ?_
  refine gw_also (Y := fun wy => Legs [] wy) (Legs.lasts rfl) (fun wx hm => legs_nil) ?_
  refine gw_loop (γ := Nat × Value × List Hs × List Value) (fun (g : Nat × Value × List Hs × List Value) => g.1 ≤ q ∧ g.2.2.1.length = g.1 ∧ (∀ x ∈ g.2.2.1, HsOk x) ∧ g.2.2.2 = g.2.2.1.flatMap hsEnc) (fun (g : Nat × Value × List Hs × List Value) => [(0, .pointer (some ⟨sb, 0, none⟩)), (4, .slice none 0 0), (5, g.2.1), (11, .slice (some ⟨g1, 0, none⟩) q 4), (12, .int .i64 ((q : Nat) : Int)), (13, .int .i64 ((g.1 : Nat) : Int))]) (fun (g : Nat × Value × List Hs × List Value) => fun w => Strm 25 w B sb (m + 2000 * g.1)) (fun (g : Nat × Value × List Hs × List Value) => [(g1, 9, [.string ⟨#[104, 49]⟩, .string ⟨#[104, 50]⟩, .string ⟨#[104, 51]⟩, .string ⟨#[104, 52]⟩])]) (fun (g : Nat × Value × List Hs × List Value) => [⟨g.2.1, 36, 5, g.1, g.2.2.2⟩]) (fun (g : Nat × Value × List Hs × List Value) => [fun wy => Legs g.2.2.1 wy]) (fun (g : Nat × Value × List Hs × List Value) => q - g.1) (0, .slice none 0 0, [], []) ⟨Nat.zero_le _, rfl, (fun _ h => by cases h), rfl⟩ ⟨rfl, rfl, rfl, rfl, rfl, rfl, trivial⟩ (fun _ hm => (hm.more rfl (by first | omega | (dsimp only; omega))).pick [0] [0] [0] rfl rfl) ?_
  rintro ⟨k, v, hs, xs⟩ hinv
  replace hinv : k ≤ q ∧ hs.length = k ∧ (∀ x ∈ hs, HsOk x) ∧ xs = hs.flatMap hsEnc := hinv
  dsimp only
  refine gw_seq ?_
  refine gw_region ?_
  obtain ⟨hi0, hi2, hi3, rfl⟩ := hinv
  refine wl_ov (ov_lss rfl rfl) rfl ?_
  refine wl_nil ?_
  refine nx_then ?_
  refine gw_seq ?_
  refine gw_cond rfl (fun hh => ?_) (fun hh => ?_)
  · have hk : ((k : Nat) : Int) < ((q : Nat) : Int) := by simpa using hh
    clear hh
    refine gw_skip ?_
    refine nx_then ?_
    refine gw_seq ?_
    refine gw_block ?_
    refine gw_seq ?_
    refine gw_region ?_
    obtain ⟨nm, hx⟩ : ∃ x, ([⟨#[104, 49]⟩, ⟨#[104, 50]⟩, ⟨#[104, 51]⟩, ⟨#[104, 52]⟩] : List ByteArray)[k]? = some x := ⟨_, List.getElem?_eq_getElem (by simp; omega)⟩
    have hnm : nm.size ≤ 100 := mem_sz (List.mem_of_getElem? hx) (by decide)
    have hnk : keyB nm = true := mem_key (List.mem_of_getElem? hx) (by decide +kernel)
    refine wl_ov (ov_index (j := k) es103 rfl rfl (by omega)) rfl ?_
    refine wl_ov (ov_elem1 (k := 0) sc9 rfl (fun _ hm => (SlT.ofBlk (l := [⟨#[104, 49]⟩, ⟨#[104, 50]⟩, ⟨#[104, 51]⟩, ⟨#[104, 52]⟩]) stEnc1_len (hm.blkI 0 rfl))) hx rfl rfl) rfl ?_
    refine wl_ov (ov_assign rfl) rfl ?_
    refine wl_nil ?_
    refine nx_then ?_
    refine gw_region ?_
    refine wl_ov (ov_move rfl) rfl ?_
    refine wl_ov (ov_move rfl) rfl ?_
    refine wl_ov (ov_move rfl) rfl ?_
    refine wl_ov (ov_move rfl) rfl ?_
    refine wl_buildSlice (e := 3) (cs := [.int .i64 0, .int .i64 50, .int .i64 100, .int .i64 100, .int .i64 300, .int .i64 1000]) rfl (by kernel_rfl) rfl fun g2 => ?_
    refine wl_got (γ := Int) (val := fun v => .int .i64 v) (φ := fun v => v ∈ ([0, 50, 100, 100, 300, 1000] : List Int)) rfl cb15 rfl rfl rfl rfl (fun wx hm => (pick_any [0, 50, 100, 100, 300, 1000] _ _ _ wx B sb _ hm.k (by omega) (by simp) (by simp) (hm.blkI 0 rfl) (hm.neRow 0 rfl rfl))) fun v3 hv3 => ?_
    have bv3 : 0 ≤ v3 ∧ v3 ≤ 1000 := mem_rng hv3 (by decide)
    have bv30 := bv3.1
    have bv31 := bv3.2
    clear bv3
    refine wl_calls (γ := ByteArray × ByteArray × Int × Int × Option Addr × Nat × Nat × List Lg) (val := (fun (g : ByteArray × ByteArray × Int × Int × Option Addr × Nat × Nat × List Lg) => .agg #[.string g.1, .string g.2.1, .int .i64 g.2.2.1, .int .i64 g.2.2.2.1, .slice g.2.2.2.2.1 g.2.2.2.2.2.1 g.2.2.2.2.2.2.1])) (φ := (fun (g : ByteArray × ByteArray × Int × Int × Option Addr × Nat × Nat × List Lg) => HrOk g.1 g.2.1 g.2.2.2.2.2.2.2 ∧ g.2.2.2.2.2.1 ≤ 4)) (Y := (fun (g : ByteArray × ByteArray × Int × Int × Option Addr × Nat × Nat × List Lg) => fun wy => SlT lgEnc 9 138 wy g.2.2.2.2.1 g.2.2.2.2.2.1 g.2.2.2.2.2.2.2)) (m' := m + 2000 * k + 1 + 1500) rfl cb117 rfl rfl rfl rfl (fun wx hm => (rightHire_any nm v3 wx B sb _ hm.k (by omega) hnm hnk (by omega) (by omega)).mono fun _ _ ⟨k, d, f, t, A, n, c, l, he, hsl, hok, _, hn4, hS, hg⟩ => ⟨(k, d, f, t, A, n, c, l), he, ⟨hok, hn4⟩, hS, hg, hsl⟩) (fun _ => SlT.lasts2 rfl) ?_
    rintro ⟨key, dr, fr, tt, A1, n1, c1, l1⟩ hh
    dsimp only at hh ⊢
    refine wl_buildSlice (e := 36) (cs := [.string key, .string dr, .int .i64 fr, .int .i64 tt, .slice A1 n1 c1]) rfl (by kernel_rfl) rfl fun g4 => ?_
    refine wl_append (news := [.string key, .string dr, .int .i64 fr, .int .i64 tt, .slice A1 n1 c1]) 0 0 ap99 rfl rfl rfl rfl rfl rfl rfl (by omega) (by unfold maxLen; omega) rfl rfl fun v2 hv2 => ?_
    refine wl_also (Y := fun wy => Legs (hs ++ [⟨key, dr, fr, tt, A1, n1, c1, l1⟩]) wy) (Legs.lasts rfl) (fun wx hm => Legs.snoc (hm.fact 1 rfl) (hm.fact 0 rfl)) ?_
    refine wl_ov (ov_assign rfl) rfl ?_
    refine wl_nil ?_
    refine nx_blk_nrm ?_
    refine nx_then ?_
    refine gw_region ?_
    refine wl_ov (ov_add rfl rfl (by omega) (by omega)) rfl ?_
    refine wl_ov (ov_move rfl) rfl ?_
    refine wl_nil ?_
    exact nx_round (k + 1, v2, hs ++ [⟨key, dr, fr, tt, A1, n1, c1, l1⟩], hs.flatMap hsEnc ++ ([.string key, .string dr, .int .i64 fr, .int .i64 tt, .slice A1 n1 c1] : List Value)) ⟨by dsimp only; omega, by simp [hi2], hs_snoc hi3 hh.1 (show n1 ≤ 1000 by omega), by simp [hsEnc]⟩ (by dsimp only; omega) ⟨rfl, rfl, rfl, rfl, rfl, (some_int (by omega)), trivial⟩ (fun _ hm => (hm.more rfl (by first | omega | (dsimp only; omega))).pick [2] [0] [0] rfl rfl)
  · have hk : ¬ (((k : Nat) : Int) < ((q : Nat) : Int)) := by simpa using hh
    clear hh
    refine gw_exit ?_
    refine nx_then_exit ?_
    refine nx_then_exit ?_
    refine nx_blk_here ?_
    refine nx_then ?_
    refine gw_seq ?_
    refine gw_seq ?_
    refine gw_region ?_
    refine wl_ov (ov_move rfl) rfl ?_
    refine wl_got (γ := Bool) (val := fun v => .bool v) (φ := fun v => True) rfl cb23 rfl rfl rfl rfl (fun wx hm => ((flip_any _ wx B sb _ hm.k (by omega) (by omega) (by omega)).mono fun _ _ ⟨v, he, hS, hg⟩ => ⟨v, trivial, he, hS, hg⟩)) fun f5 _ => ?_
    refine wl_nil ?_
    refine nx_then ?_
    refine gw_cond rfl (fun hh => ?_) (fun hh => ?_)
    · have hf : f5 = true := by simpa using hh
      clear hh
      refine gw_region ?_
      refine wl_ov (ov_move rfl) rfl ?_
      refine wl_ov (ov_move rfl) rfl ?_
      refine wl_calls (γ := ByteArray × ByteArray × Int × Int × Option Addr × Nat × Nat × List Lg) (val := (fun (g : ByteArray × ByteArray × Int × Int × Option Addr × Nat × Nat × List Lg) => .agg #[.string g.1, .string g.2.1, .int .i64 g.2.2.1, .int .i64 g.2.2.2.1, .slice g.2.2.2.2.1 g.2.2.2.2.2.1 g.2.2.2.2.2.2.1])) (φ := (fun (g : ByteArray × ByteArray × Int × Int × Option Addr × Nat × Nat × List Lg) => HrOk g.1 g.2.1 g.2.2.2.2.2.2.2 ∧ g.2.2.2.2.2.1 ≤ 4)) (Y := (fun (g : ByteArray × ByteArray × Int × Int × Option Addr × Nat × Nat × List Lg) => fun wy => SlT lgEnc 9 138 wy g.2.2.2.2.1 g.2.2.2.2.2.1 g.2.2.2.2.2.2.2)) (m' := m + 2000 * k + 1 + 2000) rfl cb55 rfl rfl rfl rfl (fun wx hm => (ghire_any wx B sb _ hm.k (by omega)).mono fun _ _ ⟨k, d, f, t, A, n, c, l, he, hsl, hok, hn4, hS, hg⟩ => ⟨(k, d, f, t, A, n, c, l), he, ⟨hok, hn4⟩, hS, hg, hsl⟩) (fun _ => SlT.lasts2 rfl) ?_
      rintro ⟨key, dr, fr, tt, A1, n1, c1, l1⟩ hh
      dsimp only at hh ⊢
      refine wl_buildSlice (e := 36) (cs := [.string key, .string dr, .int .i64 fr, .int .i64 tt, .slice A1 n1 c1]) rfl (by kernel_rfl) rfl fun g6 => ?_
      refine wl_append (news := [.string key, .string dr, .int .i64 fr, .int .i64 tt, .slice A1 n1 c1]) 0 0 ap99 rfl rfl rfl rfl rfl rfl rfl (by omega) (by unfold maxLen; omega) rfl rfl fun v2 hv2 => ?_
      refine wl_also (Y := fun wy => Legs (hs ++ [⟨key, dr, fr, tt, A1, n1, c1, l1⟩]) wy) (Legs.lasts rfl) (fun wx hm => Legs.snoc (hm.fact 1 rfl) (hm.fact 0 rfl)) ?_
      refine wl_look (R := ∃ A cc, v2 = .slice A (k + 1) cc) (fun wx hm => own_slice (hm.ownI 0 rfl)) ?_
      rintro ⟨A, c, rfl⟩
      refine wl_ov (ov_assign rfl) rfl ?_
      refine wl_nil ?_
      refine nx_then ?_
      refine gw_seq ?_
      refine gw_region ?_
      refine wl_ov (ov_move rfl) rfl ?_
      refine wl_ov (ov_assign rfl) rfl ?_
      refine wl_nil ?_
      refine nx_then ?_
      refine gw_ret ?_
      have hxs : hs.flatMap hsEnc ++ ([.string key, .string dr, .int .i64 fr, .int .i64 tt, .slice A1 n1 c1] : List Value) = (hs ++ ([⟨key, dr, fr, tt, A1, n1, c1, l1⟩] : List Hs)).flatMap hsEnc := by simp [hsEnc]
      refine nx_ret1 rfl rfl fun wx hm => ?_
      exact ⟨A, k + 1, c, hs ++ [⟨key, dr, fr, tt, A1, n1, c1, l1⟩], rfl, SlT.ofOwn hs_len (hxs ▸ hm.ownI 0 rfl) (by simp [hi2]), (hm.fact 0 rfl), hs_snoc hi3 hh.1 (show n1 ≤ 1000 by omega), by omega, own_cap (hm.ownI 0 rfl), hm.k.more (by omega), hm.g⟩
    · have hf : f5 = false := by simpa using hh
      clear hh
      refine gw_skip ?_
      refine nx_then ?_
      refine gw_seq ?_
      refine gw_region ?_
      refine wl_look (R := ∃ A cc, v = .slice A k cc) (fun wx hm => own_slice (hm.ownI 0 rfl)) ?_
      rintro ⟨A, c, rfl⟩
      refine wl_ov (ov_move rfl) rfl ?_
      refine wl_ov (ov_assign rfl) rfl ?_
      refine wl_nil ?_
      refine nx_then ?_
      refine gw_ret ?_
      refine nx_ret1 rfl rfl fun wx hm => ?_
      exact ⟨A, k, c, hs, rfl, SlT.ofOwn hs_len (hm.ownI 0 rfl) hi2, (hm.fact 0 rfl), hi3, by omega, own_cap (hm.ownI 0 rfl), hm.k.more (by omega), hm.g⟩

end Go.Proofs.YtljnekobfjpfaaaDoor
/- With and Overdue over hires. -/
namespace Go.Proofs.YtljnekobfjpfaaaDoor
open Go.RowKit

theorem leg_times {h : Hr} (h0 : hireE h = 0) : ∀ g ∈ h.legs, (0 ≤ g.out.at_ ∧ g.out.at_ ≤ 5761439) ∧ (g.inn.at_ = -1 ∨ (g.out.at_ < g.inn.at_ ∧ g.inn.at_ ≤ 5761439)) := by
  obtain ⟨key, driver, fr, to_, l⟩ := h
  have hk := hireE_ok h0
  have hall := legs_all hk.2.2.2
  intro g hg
  obtain ⟨k, hkl, hk2⟩ := List.getElem_of_mem hg
  have hgk : l[k]? = some g := by rw [List.getElem?_eq_getElem hkl, hk2]
  have hle := firstE_all (hall k g hgk)
  have h2 := readingE_ok (hle _ (List.mem_cons_of_mem _ (List.mem_cons_self ..)))
  have h4 := hle _ (List.mem_cons_of_mem _ (List.mem_cons_of_mem _ (List.mem_cons_of_mem _ (List.mem_singleton.2 rfl))))
  refine ⟨h2.1, ?_⟩
  unfold legInE at h4
  by_cases hin : g.inn.at_ = -1
  · exact .inl hin
  · rw [if_neg hin] at h4
    have h6 := readingE_ok (firstE_all h4 _ (List.mem_cons_self ..))
    have h7 := of_decide_eq_false (whenE_ok (by decide) (firstE_all h4 _ (List.mem_cons_of_mem _ (List.mem_singleton.2 rfl))))
    exact .inr ⟨by omega, h6.1.2⟩
theorem last_times {h : Hr} (h0 : hireE h = 0) : ∀ g ∈ h.legs, (0 ≤ lastA g ∧ lastA g ≤ 5761439) ∧ lastA g < lastB g ∧ lastB g ≤ 5761440 := fun g hg => by
  have ht := leg_times h0 g hg
  unfold lastA lastB
  by_cases hi : g.inn.at_ = -1
  · rw [if_pos hi]; omega
  · rw [if_neg hi]; rcases ht.2 with h | h
    · exact absurd h hi
    · omega
theorem hiresE_ok {l : List Hs} (h : hiresE l = 0) : l.length ≤ 500 ∧ ∀ x ∈ l, hireE x.hr = 0 := by
  unfold hiresE at h
  split at h
  · cases h
  · refine ⟨by omega, fun x hx => ?_⟩
    obtain ⟨q, hq⟩ := scanE_all h x hx
    unfold hsE at hq
    by_cases h0 : hireE x.hr = 0
    · exact h0
    · rw [if_neg h0] at hq; exact absurd hq h0
def legAt (v : ByteArray) (mo : Int) (g : Lg) : Bool := (g.veh.toList == v.toList) && decide (lastA g ≤ mo) && decide (mo < lastB g)
def withV (v : ByteArray) (mo : Int) : List Hs → ByteArray × Bool
  | [] => (⟨#[]⟩, false)
  | h :: r => if h.legs.any (legAt v mo) then (h.key, true) else withV v mo r
theorem withV_at {l : List Hs} {v : ByteArray} {mo : Int} {k : Nat} {x : Hs} (h : l[k]? = some x) : withV v mo (l.drop k) = if x.legs.any (legAt v mo) then (x.key, true) else withV v mo (l.drop (k + 1)) := by
  obtain ⟨hk, rfl⟩ := List.getElem?_eq_some_iff.1 h
  rw [List.drop_eq_getElem_cons hk]; rfl
theorem any_at {α : Type} {p : α → Bool} {l : List α} {k : Nat} {x : α} (h : l[k]? = some x) : (l.drop k).any p = (p x || (l.drop (k + 1)).any p) := by
  obtain ⟨hk, rfl⟩ := List.getElem?_eq_some_iff.1 h
  rw [List.drop_eq_getElem_cons hk]; rfl
theorem legAt_in {v : ByteArray} {mo : Int} {g : Lg} (h : (g.veh.toList == v.toList) = true) : legAt v mo g = inB mo (lastA g) (lastB g - 1) := by
  unfold legAt inB
  rw [h, Bool.true_and]
  congr 1
  exact decide_eq_decide.2 (by omega)
def isOver (mo : Int) (h : Hs) : Bool := openB h.legs && decide (h.to_ ≤ mo)
def overL (mo : Int) (l : List Hs) : List ByteArray := (l.filter (isOver mo)).map Hs.key
theorem overL_take {l : List Hs} {mo : Int} {k : Nat} {x : Hs} (h : l[k]? = some x) : overL mo (l.take (k + 1)) = overL mo (l.take k) ++ (if isOver mo x then [x.key] else []) := by
  obtain ⟨hk, rfl⟩ := List.getElem?_eq_some_iff.1 h
  unfold overL
  rw [List.take_add_one, List.getElem?_eq_getElem hk, List.filter_append, List.map_append]
  congr 1
  simp only [Option.toList]
  cases hb : isOver mo l[k] <;> simp [List.filter, hb]
theorem overL_len (mo : Int) (l : List Hs) : (overL mo l).length ≤ l.length := by unfold overL; rw [List.length_map]; exact List.length_filter_le _ _
theorem some_b {a b : Bool} (h : a = b) : some (Value.bool a) = some (Value.bool b) := by rw [h]

def withE (hs : List Hs) (veh : ByteArray) (mo : Int) : Int := firstE [hiresE hs, whenE (!keyB veh) 5, momentE mo]
set_option maxRecDepth 100000 in
set_option maxHeartbeats 1000000 in
theorem with_any (hs : List Hs) (A : Option Addr) (n c : Nat) (veh : ByteArray) (mo : Int) (w : World) (hl : SlT hsEnc 5 36 w A n hs) (hg : Legs hs w) (hok : ∀ h ∈ hs, HsOk h) (hn : n ≤ 1000000) (hvz : veh.size ≤ 1000000) :
    Calls Tryd.prog 69 #[.slice A n c, .string veh, .int .i64 mo] w (fun e w' => e = .returned (.tuple #[.string (if withE hs veh mo = 0 then withV veh mo hs else (⟨#[]⟩, false)).1, .bool (if withE hs veh mo = 0 then withV veh mo hs else (⟨#[]⟩, false)).2, .int .i64 (withE hs veh mo)]) ∧ w.grownBy w' none) := by
  refine gw_enter ⟨63, w, none, []⟩ Tryd.func69 rfl Tryd.ntmps69 rfl (mem0 (X := [SlOld hsEnc 5 36 w.heap.size none A n hs, LegsOld w.heap.size none hs]) (allF_cons hl.old (allF_cons hg.old allF_nil)) (allL_cons SlOld.lasts (allL_cons LegsOld.lasts allL_nil))) ?_
  refine gw_seq ?_
  refine gw_region ?_
  have hlen := hl.len
  refine wl_ov (ov_assign rfl) rfl ?_
  refine wl_ov (ov_assign rfl) rfl ?_
  refine wl_ov (ov_assign rfl) rfl ?_
  refine wl_nil ?_
  refine nx_then ?_
  refine gw_seq ?_
  refine gw_seq ?_
  refine gw_region ?_
  refine wl_ov (ov_move rfl) rfl ?_
  refine wl_callv rfl cb82 rfl rfl (fun wx hm => (checkAll_any hs A n c wx (hm.fact 0 rfl).1 (fun h hh => ((hm.fact 1 rfl) h hh).1) hok (by omega))) ?_
  refine wl_ov (ov_move rfl) rfl ?_
  refine wl_callw rfl cb115 rfl rfl (fun wx hm => (isKey_any _ wx (by omega))) ?_
  refine wl_ov (ov_un_not rfl) rfl ?_
  refine wl_callw rfl cb98 rfl rfl (fun wx hm => (when_any _ _ wx)) ?_
  refine wl_ov (ov_move rfl) rfl ?_
  refine wl_callw rfl cb100 rfl rfl (fun wx hm => (moment_any _ wx)) ?_
  refine wl_buildSlice (e := 37) (cs := [.int .i64 (hiresE hs), .int .i64 (whenE (!(keyB veh)) 5), .int .i64 (momentE mo)]) rfl (by kernel_rfl) rfl fun g1 => ?_
  refine wl_callw rfl cb96 rfl rfl (fun wx hm => (first_any [hiresE hs, whenE (!(keyB veh)) 5, momentE mo] _ _ _ wx (hm.blkI 0 rfl) (by simp))) ?_
  refine wl_ov (ov_assign rfl) rfl ?_
  refine wl_nil ?_
  refine nx_then ?_
  refine gw_seq ?_
  refine gw_region ?_
  refine wl_ov (ov_move rfl) rfl ?_
  refine wl_ov (ov_neq rfl rfl) rfl ?_
  refine wl_nil ?_
  refine nx_then ?_
  refine gw_cond rfl (fun hh => ?_) (fun hh => ?_)
  · have hE : ¬ (firstE [hiresE hs, whenE (!(keyB veh)) 5, momentE mo] = 0) := by simpa using hh
    clear hh
    refine gw_seq ?_
    refine gw_region ?_
    refine wl_ov (ov_move rfl) rfl ?_
    refine wl_ov (ov_assign rfl) rfl ?_
    refine wl_ov (ov_assign rfl) rfl ?_
    refine wl_ov (ov_assign rfl) rfl ?_
    refine wl_nil ?_
    refine nx_then ?_
    refine gw_ret ?_
    refine nx_then_ret ?_
    refine nx_ret3 rfl rfl rfl rfl fun wx hm => ?_
    exact ⟨by rw [if_neg (show ¬ withE hs veh mo = 0 from hE)]; rfl, hm.g⟩
  · have hE : firstE [hiresE hs, whenE (!(keyB veh)) 5, momentE mo] = 0 := by simpa using hh
    clear hh
    refine gw_skip ?_
    refine nx_then ?_
    refine gw_seq ?_
    refine gw_seq ?_
    refine gw_region ?_
    have hz := firstE_all hE
    have hhr := hiresE_ok (hz (hiresE hs) (by simp))
    obtain ⟨WV, hWV⟩ : ∃ W, W = withV veh mo hs := ⟨_, rfl⟩
    refine wl_ov (ov_move rfl) rfl ?_
    refine wl_ov (ov_len es99 rfl) rfl ?_
    refine wl_ov (ov_move rfl) rfl ?_
    refine wl_nil ?_
    refine nx_then ?_
    refine gw_block ?_
    refine gw_loop (γ := Nat) (fun (k : Nat) => k ≤ n ∧ WV = withV veh mo (hs.drop k)) (fun (k : Nat) => [(1, .string veh), (2, .int .i64 mo), (28, .slice A n c), (29, .int .i64 ((n : Nat) : Int)), (30, .int .i64 ((k : Nat) : Int))]) (fun (k : Nat) => fun _ => True) (fun (k : Nat) => [(g1, 37, [.int .i64 (hiresE hs), .int .i64 (whenE (!(keyB veh)) 5), .int .i64 (momentE mo)])]) (fun (k : Nat) => []) (fun (k : Nat) => [SlOld hsEnc 5 36 w.heap.size none A n hs, LegsOld w.heap.size none hs]) (fun (k : Nat) => n - k) 0 ⟨Nat.zero_le _, hWV⟩ ⟨rfl, rfl, rfl, rfl, rfl, trivial⟩ (fun _ hm => hm.pick [0] [] [0, 1] rfl rfl) ?_
    intro k hinv
    replace hinv : k ≤ n ∧ WV = withV veh mo (hs.drop k) := hinv
    refine gw_seq ?_
    refine gw_region ?_
    refine wl_ov (ov_lss rfl rfl) rfl ?_
    refine wl_nil ?_
    refine nx_then ?_
    refine gw_seq ?_
    refine gw_cond rfl (fun hh => ?_) (fun hh => ?_)
    · have hk : ((k : Nat) : Int) < ((n : Nat) : Int) := by simpa using hh
      clear hh
      refine gw_skip ?_
      refine nx_then ?_
      refine gw_seq ?_
      refine gw_block ?_
      refine gw_seq ?_
      refine gw_region ?_
      obtain ⟨b, off, hA, _, _⟩ := hl.get (by omega)
      subst hA
      obtain ⟨x, hx⟩ : ∃ x, hs[k]? = some x := ⟨_, List.getElem?_eq_getElem (by omega)⟩
      obtain ⟨key, driver, fr, to_, Ah, nh, ch, lh⟩ := x
      have hat := withV_at (v := veh) (mo := mo) hx
      obtain ⟨hho, hhn⟩ := hok _ (List.mem_of_getElem? hx)
      have hho : HrOk key driver lh := hho
      have hhn : nh ≤ 1000 := hhn
      have hlt := last_times (hhr.2 _ (List.mem_of_getElem? hx))
      have hlt : ∀ g ∈ lh, (0 ≤ lastA g ∧ lastA g ≤ 5761439) ∧ lastA g < lastB g ∧ lastB g ≤ 5761440 := hlt
      have hout := hinv
      refine wl_also (Y := SlOld lgEnc 9 138 w.heap.size none Ah nh lh) (SlOld.lasts) (fun wx hm => (hm.fact 1 rfl) _ (List.mem_of_getElem? hx)) ?_
      refine wl_look (R := lh.length = nh) (fun wx hm => ((hm.fact 0 rfl)).1.len) ?_
      intro hlh
      refine wl_ov (ov_index (j := k) es99 rfl rfl (by omega)) rfl ?_
      refine wl_ov (ov_elem rz36 rfl (fun _ hm => (hm.fact 1 rfl).1) hx rfl rfl) rfl ?_
      refine wl_alloc zc36 rfl fun g2 => ?_
      refine wl_stores (cs' := [.string key, .string driver, .int .i64 fr, .int .i64 to_, .slice Ah nh ch]) 0 rz36 rfl rfl rfl rfl rfl rfl rfl rfl ?_
      refine wl_nil ?_
      refine nx_then ?_
      refine gw_seq ?_
      refine gw_region ?_
      refine wl_ov (ov_field fo36_3 rfl rfl) rfl ?_
      refine wl_ov (ov_load sc34 rfl (fun _ hm => hm.blkI 0 rfl) rfl) rfl ?_
      refine wl_ov (ov_len es34 rfl) rfl ?_
      refine wl_ov (ov_move rfl) rfl ?_
      refine wl_nil ?_
      refine nx_then ?_
      refine gw_block ?_
      refine gw_loop (γ := Nat) (fun (j : Nat) => j ≤ nh ∧ lh.any (legAt veh mo) = (lh.drop j).any (legAt veh mo)) (fun (j : Nat) => [(1, .string veh), (2, .int .i64 mo), (11, .pointer (some ⟨g2, 0, none⟩)), (28, .slice (some ⟨b, off, none⟩) n c), (29, .int .i64 ((n : Nat) : Int)), (30, .int .i64 ((k : Nat) : Int)), (35, .slice Ah nh ch), (36, .int .i64 ((nh : Nat) : Int)), (37, .int .i64 ((j : Nat) : Int))]) (fun (j : Nat) => fun _ => True) (fun (j : Nat) => [(g2, 36, [.string key, .string driver, .int .i64 fr, .int .i64 to_, .slice Ah nh ch]), (g1, 37, [.int .i64 (hiresE hs), .int .i64 (whenE (!(keyB veh)) 5), .int .i64 (momentE mo)])]) (fun (j : Nat) => []) (fun (j : Nat) => [SlOld lgEnc 9 138 w.heap.size none Ah nh lh, SlOld hsEnc 5 36 w.heap.size none (some ⟨b, off, none⟩) n hs, LegsOld w.heap.size none hs]) (fun (j : Nat) => nh - j) 0 ⟨Nat.zero_le _, rfl⟩ ⟨rfl, rfl, rfl, rfl, rfl, rfl, rfl, rfl, rfl, trivial⟩ (fun _ hm => hm.pick [0, 1] [] [0, 1, 2] rfl rfl) ?_
      intro j hinv
      replace hinv : j ≤ nh ∧ lh.any (legAt veh mo) = (lh.drop j).any (legAt veh mo) := hinv
      refine gw_seq ?_
      refine gw_region ?_
      have hin := hinv
      refine wl_ov (ov_lss rfl rfl) rfl ?_
      refine wl_nil ?_
      refine nx_then ?_
      refine gw_seq ?_
      refine gw_cond rfl (fun hh => ?_) (fun hh => ?_)
      · have hj : ((j : Nat) : Int) < ((nh : Nat) : Int) := by simpa using hh
        clear hh
        refine gw_skip ?_
        refine nx_then ?_
        refine gw_seq ?_
        refine gw_block ?_
        refine gw_seq ?_
        refine gw_region ?_
        refine wl_look (R := ∃ b off, Ah = some ⟨b, off, none⟩) (fun wx hm => by obtain ⟨b, off, h, _, _⟩ := SlT.get ((hm.fact 0 rfl)).1 (by omega : 0 < nh); exact ⟨b, off, h⟩) ?_
        rintro ⟨b2, o2, rfl⟩
        obtain ⟨y, hy⟩ : ∃ x, lh[j]? = some x := ⟨_, List.getElem?_eq_getElem (by omega)⟩
        obtain ⟨gv, ⟨oa, os, om, of⟩, ⟨ia, is_, im, if_⟩⟩ := y
        have han := any_at (p := legAt veh mo) hy
        have hlg := hlt _ (List.mem_of_getElem? hy)
        refine wl_ov (ov_index (j := j) es34 rfl rfl (by omega)) rfl ?_
        refine wl_ov (ov_elem rz138 rfl (fun _ hm => (hm.fact 0 rfl).1) hy rfl rfl) rfl ?_
        refine wl_alloc zc138 rfl fun g3 => ?_
        refine wl_stores (cs' := [.string gv, .int .i64 oa, .string os, .int .i64 om, .int .i64 of, .int .i64 ia, .string is_, .int .i64 im, .int .i64 if_]) 0 rz138 rfl rfl rfl rfl rfl rfl rfl rfl ?_
        refine wl_nil ?_
        refine nx_then ?_
        refine gw_seq ?_
        refine gw_region ?_
        refine wl_ov (ov_loads rz138 rfl (fun _ hm => hm.blkI 0 rfl) rfl rfl) rfl ?_
        refine wl_callv rfl cb126 rfl rfl (fun wx hm => (lasts_any gv oa os om of ia is_ im if_ wx)) ?_
        obtain ⟨P, hP⟩ : ∃ P, P = legAt veh mo ⟨gv, ⟨oa, os, om, of⟩, ⟨ia, is_, im, if_⟩⟩ := ⟨_, rfl⟩
        rw [← hP] at han
        refine wl_alloc zc28 rfl fun g4 => ?_
        refine wl_stores (cs' := [.int .i64 (lastA ⟨gv, ⟨oa, os, om, of⟩, ⟨ia, is_, im, if_⟩⟩), .int .i64 (lastB ⟨gv, ⟨oa, os, om, of⟩, ⟨ia, is_, im, if_⟩⟩)]) 0 rz28 rfl rfl rfl rfl rfl rfl rfl rfl ?_
        refine wl_nil ?_
        refine nx_then ?_
        refine gw_seq ?_
        refine gw_region ?_
        refine wl_ov (ov_field fo138_0 rfl rfl) rfl ?_
        refine wl_ov (ov_load sc9 rfl (fun _ hm => hm.blkI 1 rfl) rfl) rfl ?_
        refine wl_ov (ov_move rfl) rfl ?_
        refine wl_ov (ov_seql rfl rfl) rfl ?_
        refine wl_ov (ov_move rfl) rfl ?_
        rcases Bool.eq_false_or_eq_true (gv.toList == veh.toList) with h1 | h1
        · refine wl_set 47 rfl (congrArg Value.bool h1) ?_
          refine wl_guard_on rfl rfl rfl ?_
          refine wl_ov (ov_field fo28_0 rfl rfl) rfl ?_
          refine wl_guard_on rfl rfl rfl ?_
          refine wl_ov (ov_load sc3 rfl (fun _ hm => hm.blkI 0 rfl) rfl) rfl ?_
          refine wl_guard_on rfl rfl rfl ?_
          refine wl_ov (ov_move rfl) rfl ?_
          refine wl_guard_on rfl rfl rfl ?_
          refine wl_ov (ov_leq rfl rfl) rfl ?_
          refine wl_ov (ov_pick_t rfl rfl) rfl ?_
          refine wl_ov (ov_move rfl) rfl ?_
          rcases Bool.eq_false_or_eq_true (decide (lastA ⟨gv, ⟨oa, os, om, of⟩, ⟨ia, is_, im, if_⟩⟩ ≤ mo)) with h2 | h2
          · refine wl_set 53 rfl (congrArg Value.bool h2) ?_
            refine wl_guard_on rfl rfl rfl ?_
            refine wl_ov (ov_move rfl) rfl ?_
            refine wl_guard_on rfl rfl rfl ?_
            refine wl_ov (ov_field fo28_1 rfl rfl) rfl ?_
            refine wl_guard_on rfl rfl rfl ?_
            refine wl_ov (ov_load sc3 rfl (fun _ hm => hm.blkI 0 rfl) rfl) rfl ?_
            refine wl_guard_on rfl rfl rfl ?_
            refine wl_ov (ov_lss rfl rfl) rfl ?_
            refine wl_ov (ov_pick_t rfl rfl) rfl ?_
            refine wl_nil ?_
            refine nx_then ?_
            refine gw_cond rfl (fun hh => ?_) (fun hh => ?_)
            · have h3 : mo < lastB ⟨gv, ⟨oa, os, om, of⟩, ⟨ia, is_, im, if_⟩⟩ := by simpa using hh
              clear hh
              refine gw_seq ?_
              refine gw_region ?_
              refine wl_ov (ov_field fo36_0 rfl rfl) rfl ?_
              refine wl_ov (ov_load sc9 rfl (fun _ hm => hm.blkI 2 rfl) rfl) rfl ?_
              refine wl_ov (ov_assign rfl) rfl ?_
              refine wl_ov (ov_assign rfl) rfl ?_
              refine wl_ov (ov_assign rfl) rfl ?_
              refine wl_nil ?_
              refine nx_then ?_
              refine gw_ret ?_
              refine nx_blk_ret ?_
              refine nx_then_ret ?_
              refine nx_then_ret ?_
              refine nx_blk_ret ?_
              refine nx_blk_ret ?_
              refine nx_then_ret ?_
              refine nx_then_ret ?_
              refine nx_blk_ret ?_
              refine nx_then_ret ?_
              have hPt : P = true := by rw [hP]; unfold legAt; simp only [h1, h2]; simpa using h3
              have hW : WV = (key, true) := by rw [hout.2, hat, if_pos (show lh.any (legAt veh mo) = true by rw [hin.2, han, hPt]; rfl)]
              refine nx_ret3 rfl rfl rfl rfl fun wx hm => ?_
              exact ⟨by rw [if_pos (show withE hs veh mo = 0 from hE), ← hWV, hW]; rw [show withE hs veh mo = 0 from hE], hm.g⟩
            · have h3 : ¬ (mo < lastB ⟨gv, ⟨oa, os, om, of⟩, ⟨ia, is_, im, if_⟩⟩) := by simpa using hh
              clear hh
              refine gw_skip ?_
              refine nx_blk_nrm ?_
              refine nx_then ?_
              refine gw_region ?_
              refine wl_ov (ov_add rfl rfl (by omega) (by omega)) rfl ?_
              refine wl_ov (ov_move rfl) rfl ?_
              refine wl_nil ?_
              have hPf : P = false := by rw [hP]; unfold legAt; simp only [h1, h2]; simpa using h3
              exact nx_round (j + 1) ⟨by omega, by rw [hin.2, han, hPf]; rfl⟩ (by omega) ⟨rfl, rfl, rfl, rfl, rfl, rfl, rfl, rfl, (some_int (by omega)), trivial⟩ (fun _ hm => hm.pick [2, 3] [] [0, 1, 2] rfl rfl)
          · refine wl_set 53 rfl (congrArg Value.bool h2) ?_
            refine wl_guard_off rfl rfl rfl (by decide) rfl ?_
            refine wl_guard_off rfl rfl rfl (by decide) rfl ?_
            refine wl_guard_off rfl rfl rfl (by decide) rfl ?_
            refine wl_guard_off rfl rfl rfl (by decide) rfl ?_
            refine wl_ov (ov_pick_f rfl rfl) rfl ?_
            refine wl_nil ?_
            refine nx_then ?_
            refine gw_cond rfl (fun hh => by cases hh) (fun _ => ?_)
            refine gw_skip ?_
            refine nx_blk_nrm ?_
            refine nx_then ?_
            refine gw_region ?_
            refine wl_ov (ov_add rfl rfl (by omega) (by omega)) rfl ?_
            refine wl_ov (ov_move rfl) rfl ?_
            refine wl_nil ?_
            have hPf : P = false := by rw [hP]; unfold legAt; simp only [h1, h2]; rfl
            exact nx_round (j + 1) ⟨by omega, by rw [hin.2, han, hPf]; rfl⟩ (by omega) ⟨rfl, rfl, rfl, rfl, rfl, rfl, rfl, rfl, (some_int (by omega)), trivial⟩ (fun _ hm => hm.pick [2, 3] [] [0, 1, 2] rfl rfl)
        · refine wl_set 47 rfl (congrArg Value.bool h1) ?_
          refine wl_guard_off rfl rfl rfl (by decide) rfl ?_
          refine wl_guard_off rfl rfl rfl (by decide) rfl ?_
          refine wl_guard_off rfl rfl rfl (by decide) rfl ?_
          refine wl_guard_off rfl rfl rfl (by decide) rfl ?_
          refine wl_ov (ov_pick_f rfl rfl) rfl ?_
          refine wl_ov (ov_move rfl) rfl ?_
          refine wl_guard_off rfl rfl rfl (by decide) rfl ?_
          refine wl_guard_off rfl rfl rfl (by decide) rfl ?_
          refine wl_guard_off rfl rfl rfl (by decide) rfl ?_
          refine wl_guard_off rfl rfl rfl (by decide) rfl ?_
          refine wl_ov (ov_pick_f rfl rfl) rfl ?_
          refine wl_nil ?_
          refine nx_then ?_
          refine gw_cond rfl (fun hh => by cases hh) (fun _ => ?_)
          refine gw_skip ?_
          refine nx_blk_nrm ?_
          refine nx_then ?_
          refine gw_region ?_
          refine wl_ov (ov_add rfl rfl (by omega) (by omega)) rfl ?_
          refine wl_ov (ov_move rfl) rfl ?_
          refine wl_nil ?_
          have hPf : P = false := by rw [hP]; unfold legAt; simp only [h1]; rfl
          exact nx_round (j + 1) ⟨by omega, by rw [hin.2, han, hPf]; rfl⟩ (by omega) ⟨rfl, rfl, rfl, rfl, rfl, rfl, rfl, rfl, (some_int (by omega)), trivial⟩ (fun _ hm => hm.pick [2, 3] [] [0, 1, 2] rfl rfl)
      · have hj : ¬ (((j : Nat) : Int) < ((nh : Nat) : Int)) := by simpa using hh
        clear hh
        refine gw_exit ?_
        refine nx_then_exit ?_
        refine nx_then_exit ?_
        refine nx_blk_here ?_
        refine nx_blk_nrm ?_
        refine nx_then ?_
        refine gw_region ?_
        have hNo : lh.any (legAt veh mo) = false := by rw [hin.2, List.drop_eq_nil_of_le (by omega)]; rfl
        refine wl_ov (ov_add rfl rfl (by omega) (by omega)) rfl ?_
        refine wl_ov (ov_move rfl) rfl ?_
        refine wl_nil ?_
        exact nx_round (k + 1) ⟨by omega, by rw [hout.2, hat, if_neg (show ¬ lh.any (legAt veh mo) = true by rw [hNo]; decide)]⟩ (by omega) ⟨rfl, rfl, rfl, rfl, (some_int (by omega)), trivial⟩ (fun _ hm => hm.pick [1] [] [1, 2] rfl rfl)
    · have hk : ¬ (((k : Nat) : Int) < ((n : Nat) : Int)) := by simpa using hh
      clear hh
      refine gw_exit ?_
      refine nx_then_exit ?_
      refine nx_then_exit ?_
      refine nx_blk_here ?_
      refine nx_then ?_
      refine gw_seq ?_
      refine gw_region ?_
      refine wl_ov (ov_assign rfl) rfl ?_
      refine wl_ov (ov_assign rfl) rfl ?_
      refine wl_ov (ov_assign rfl) rfl ?_
      refine wl_nil ?_
      refine nx_then ?_
      refine gw_ret ?_
      have hW : WV = (⟨#[]⟩, false) := by rw [hinv.2, List.drop_eq_nil_of_le (by omega)]; rfl
      refine nx_ret3 rfl rfl rfl rfl fun wx hm => ?_
      exact ⟨by rw [if_pos (show withE hs veh mo = 0 from hE), ← hWV, hW]; rw [show withE hs veh mo = 0 from hE], hm.g⟩

set_option maxRecDepth 100000 in
set_option maxHeartbeats 1000000 in
theorem hireWith_any (hs : List Hs) (A : Option Addr) (n c : Nat) (veh : ByteArray) (mo : Int) (w : World) (hl : SlT hsEnc 5 36 w A n hs) (hg : Legs hs w) (hok : ∀ h ∈ hs, HsOk h) (hhr : hs.length ≤ 500 ∧ ∀ x ∈ hs, hireE x.hr = 0) :
    Calls Tryd.prog 74 #[.slice A n c, .string veh, .int .i64 mo] w (fun e w' => e = .returned (.tuple #[.string (withV veh mo hs).1, .bool (withV veh mo hs).2]) ∧ w.grownBy w' none) := by
  refine gw_enter ⟨45, w, none, []⟩ Tryd.func74 rfl Tryd.ntmps74 rfl (mem0 (X := [SlOld hsEnc 5 36 w.heap.size none A n hs, LegsOld w.heap.size none hs]) (allF_cons hl.old (allF_cons hg.old allF_nil)) (allL_cons SlOld.lasts (allL_cons LegsOld.lasts allL_nil))) ?_
  refine gw_seq ?_
  refine gw_region ?_
  have hlen := hl.len
  obtain ⟨WV, hWV⟩ : ∃ W, W = withV veh mo hs := ⟨_, rfl⟩
  refine wl_ov (ov_assign rfl) rfl ?_
  refine wl_ov (ov_assign rfl) rfl ?_
  refine wl_nil ?_
  refine nx_then ?_
  refine gw_seq ?_
  refine gw_seq ?_
  refine gw_region ?_
  refine wl_ov (ov_move rfl) rfl ?_
  refine wl_ov (ov_len es99 rfl) rfl ?_
  refine wl_ov (ov_move rfl) rfl ?_
  refine wl_nil ?_
  refine nx_then ?_
  refine gw_block ?_
  refine gw_loop (γ := Nat) (fun (k : Nat) => k ≤ n ∧ WV = withV veh mo (hs.drop k)) (fun (k : Nat) => [(1, .string veh), (2, .int .i64 mo), (13, .slice A n c), (14, .int .i64 ((n : Nat) : Int)), (15, .int .i64 ((k : Nat) : Int))]) (fun (k : Nat) => fun _ => True) (fun (k : Nat) => []) (fun (k : Nat) => []) (fun (k : Nat) => [SlOld hsEnc 5 36 w.heap.size none A n hs, LegsOld w.heap.size none hs]) (fun (k : Nat) => n - k) 0 ⟨Nat.zero_le _, hWV⟩ ⟨rfl, rfl, rfl, rfl, rfl, trivial⟩ (fun _ hm => hm.pick [] [] [0, 1] rfl rfl) ?_
  intro k hinv
  replace hinv : k ≤ n ∧ WV = withV veh mo (hs.drop k) := hinv
  refine gw_seq ?_
  refine gw_region ?_
  refine wl_ov (ov_lss rfl rfl) rfl ?_
  refine wl_nil ?_
  refine nx_then ?_
  refine gw_seq ?_
  refine gw_cond rfl (fun hh => ?_) (fun hh => ?_)
  · have hk : ((k : Nat) : Int) < ((n : Nat) : Int) := by simpa using hh
    clear hh
    refine gw_skip ?_
    refine nx_then ?_
    refine gw_seq ?_
    refine gw_block ?_
    refine gw_seq ?_
    refine gw_region ?_
    obtain ⟨b, off, hA, _, _⟩ := hl.get (by omega)
    subst hA
    obtain ⟨x, hx⟩ : ∃ x, hs[k]? = some x := ⟨_, List.getElem?_eq_getElem (by omega)⟩
    obtain ⟨key, driver, fr, to_, Ah, nh, ch, lh⟩ := x
    have hat := withV_at (v := veh) (mo := mo) hx
    obtain ⟨hho, hhn⟩ := hok _ (List.mem_of_getElem? hx)
    have hho : HrOk key driver lh := hho
    have hhn : nh ≤ 1000 := hhn
    have hlt := last_times (hhr.2 _ (List.mem_of_getElem? hx))
    have hlt : ∀ g ∈ lh, (0 ≤ lastA g ∧ lastA g ≤ 5761439) ∧ lastA g < lastB g ∧ lastB g ≤ 5761440 := hlt
    have hout := hinv
    refine wl_also (Y := SlOld lgEnc 9 138 w.heap.size none Ah nh lh) (SlOld.lasts) (fun wx hm => (hm.fact 1 rfl) _ (List.mem_of_getElem? hx)) ?_
    refine wl_look (R := lh.length = nh) (fun wx hm => ((hm.fact 0 rfl)).1.len) ?_
    intro hlh
    refine wl_ov (ov_index (j := k) es99 rfl rfl (by omega)) rfl ?_
    refine wl_ov (ov_elem rz36 rfl (fun _ hm => (hm.fact 1 rfl).1) hx rfl rfl) rfl ?_
    refine wl_alloc zc36 rfl fun g1 => ?_
    refine wl_stores (cs' := [.string key, .string driver, .int .i64 fr, .int .i64 to_, .slice Ah nh ch]) 0 rz36 rfl rfl rfl rfl rfl rfl rfl rfl ?_
    refine wl_nil ?_
    refine nx_then ?_
    refine gw_seq ?_
    refine gw_region ?_
    refine wl_ov (ov_field fo36_3 rfl rfl) rfl ?_
    refine wl_ov (ov_load sc34 rfl (fun _ hm => hm.blkI 0 rfl) rfl) rfl ?_
    refine wl_ov (ov_len es34 rfl) rfl ?_
    refine wl_ov (ov_move rfl) rfl ?_
    refine wl_nil ?_
    refine nx_then ?_
    refine gw_block ?_
    refine gw_loop (γ := Nat) (fun (j : Nat) => j ≤ nh ∧ lh.any (legAt veh mo) = (lh.drop j).any (legAt veh mo)) (fun (j : Nat) => [(1, .string veh), (2, .int .i64 mo), (9, .pointer (some ⟨g1, 0, none⟩)), (13, .slice (some ⟨b, off, none⟩) n c), (14, .int .i64 ((n : Nat) : Int)), (15, .int .i64 ((k : Nat) : Int)), (20, .slice Ah nh ch), (21, .int .i64 ((nh : Nat) : Int)), (22, .int .i64 ((j : Nat) : Int))]) (fun (j : Nat) => fun _ => True) (fun (j : Nat) => [(g1, 36, [.string key, .string driver, .int .i64 fr, .int .i64 to_, .slice Ah nh ch])]) (fun (j : Nat) => []) (fun (j : Nat) => [SlOld lgEnc 9 138 w.heap.size none Ah nh lh, SlOld hsEnc 5 36 w.heap.size none (some ⟨b, off, none⟩) n hs, LegsOld w.heap.size none hs]) (fun (j : Nat) => nh - j) 0 ⟨Nat.zero_le _, rfl⟩ ⟨rfl, rfl, rfl, rfl, rfl, rfl, rfl, rfl, rfl, trivial⟩ (fun _ hm => hm.pick [0] [] [0, 1, 2] rfl rfl) ?_
    intro j hinv
    replace hinv : j ≤ nh ∧ lh.any (legAt veh mo) = (lh.drop j).any (legAt veh mo) := hinv
    refine gw_seq ?_
    refine gw_region ?_
    have hin := hinv
    refine wl_ov (ov_lss rfl rfl) rfl ?_
    refine wl_nil ?_
    refine nx_then ?_
    refine gw_seq ?_
    refine gw_cond rfl (fun hh => ?_) (fun hh => ?_)
    · have hj : ((j : Nat) : Int) < ((nh : Nat) : Int) := by simpa using hh
      clear hh
      refine gw_skip ?_
      refine nx_then ?_
      refine gw_seq ?_
      refine gw_block ?_
      refine gw_seq ?_
      refine gw_region ?_
      refine wl_look (R := ∃ b off, Ah = some ⟨b, off, none⟩) (fun wx hm => by obtain ⟨b, off, h, _, _⟩ := SlT.get ((hm.fact 0 rfl)).1 (by omega : 0 < nh); exact ⟨b, off, h⟩) ?_
      rintro ⟨b2, o2, rfl⟩
      obtain ⟨y, hy⟩ : ∃ x, lh[j]? = some x := ⟨_, List.getElem?_eq_getElem (by omega)⟩
      obtain ⟨gv, ⟨oa, os, om, of⟩, ⟨ia, is_, im, if_⟩⟩ := y
      have han := any_at (p := legAt veh mo) hy
      have hlg := hlt _ (List.mem_of_getElem? hy)
      refine wl_ov (ov_index (j := j) es34 rfl rfl (by omega)) rfl ?_
      refine wl_ov (ov_elem rz138 rfl (fun _ hm => (hm.fact 0 rfl).1) hy rfl rfl) rfl ?_
      refine wl_alloc zc138 rfl fun g2 => ?_
      refine wl_stores (cs' := [.string gv, .int .i64 oa, .string os, .int .i64 om, .int .i64 of, .int .i64 ia, .string is_, .int .i64 im, .int .i64 if_]) 0 rz138 rfl rfl rfl rfl rfl rfl rfl rfl ?_
      refine wl_nil ?_
      refine nx_then ?_
      refine gw_seq ?_
      refine gw_region ?_
      refine wl_ov (ov_loads rz138 rfl (fun _ hm => hm.blkI 0 rfl) rfl rfl) rfl ?_
      refine wl_callv rfl cb128 rfl rfl (fun wx hm => (rlasts_any gv oa os om of ia is_ im if_ wx)) ?_
      obtain ⟨P, hP⟩ : ∃ P, P = legAt veh mo ⟨gv, ⟨oa, os, om, of⟩, ⟨ia, is_, im, if_⟩⟩ := ⟨_, rfl⟩
      rw [← hP] at han
      refine wl_alloc zc28 rfl fun g3 => ?_
      refine wl_stores (cs' := [.int .i64 (lastA ⟨gv, ⟨oa, os, om, of⟩, ⟨ia, is_, im, if_⟩⟩), .int .i64 (lastB ⟨gv, ⟨oa, os, om, of⟩, ⟨ia, is_, im, if_⟩⟩)]) 0 rz28 rfl rfl rfl rfl rfl rfl rfl rfl ?_
      refine wl_nil ?_
      refine nx_then ?_
      refine gw_seq ?_
      refine gw_region ?_
      refine wl_ov (ov_field fo138_0 rfl rfl) rfl ?_
      refine wl_ov (ov_load sc9 rfl (fun _ hm => hm.blkI 1 rfl) rfl) rfl ?_
      refine wl_ov (ov_move rfl) rfl ?_
      refine wl_ov (ov_seql rfl rfl) rfl ?_
      refine wl_ov (ov_move rfl) rfl ?_
      rcases Bool.eq_false_or_eq_true (gv.toList == veh.toList) with h1 | h1
      · refine wl_set 32 rfl (congrArg Value.bool h1) ?_
        refine wl_guard_on rfl rfl rfl ?_
        refine wl_ov (ov_move rfl) rfl ?_
        refine wl_guard_on rfl rfl rfl ?_
        refine wl_ov (ov_field fo28_0 rfl rfl) rfl ?_
        refine wl_guard_on rfl rfl rfl ?_
        refine wl_ov (ov_load sc3 rfl (fun _ hm => hm.blkI 0 rfl) rfl) rfl ?_
        refine wl_guard_on rfl rfl rfl ?_
        refine wl_ov (ov_field fo28_1 rfl rfl) rfl ?_
        refine wl_guard_on rfl rfl rfl ?_
        refine wl_ov (ov_load sc3 rfl (fun _ hm => hm.blkI 0 rfl) rfl) rfl ?_
        refine wl_guard_on rfl rfl rfl ?_
        refine wl_ov (ov_sub rfl rfl (by omega) (by omega)) rfl ?_
        refine wl_guard_on rfl rfl rfl ?_
        refine wl_callw rfl cb101 rfl rfl (fun wx hm => (rin_any _ _ _ wx)) ?_
        refine wl_ov (ov_pick_t rfl rfl) rfl ?_
        refine wl_nil ?_
        refine nx_then ?_
        refine gw_cond rfl (fun hh => ?_) (fun hh => ?_)
        · have h2 : (inB mo (lastA ⟨gv, ⟨oa, os, om, of⟩, ⟨ia, is_, im, if_⟩⟩) ((lastB ⟨gv, ⟨oa, os, om, of⟩, ⟨ia, is_, im, if_⟩⟩) - 1)) = true := by simpa using hh
          clear hh
          refine gw_seq ?_
          refine gw_region ?_
          refine wl_ov (ov_field fo36_0 rfl rfl) rfl ?_
          refine wl_ov (ov_load sc9 rfl (fun _ hm => hm.blkI 2 rfl) rfl) rfl ?_
          refine wl_ov (ov_assign rfl) rfl ?_
          refine wl_ov (ov_assign rfl) rfl ?_
          refine wl_nil ?_
          refine nx_then ?_
          refine gw_ret ?_
          refine nx_blk_ret ?_
          refine nx_then_ret ?_
          refine nx_then_ret ?_
          refine nx_blk_ret ?_
          refine nx_blk_ret ?_
          refine nx_then_ret ?_
          refine nx_then_ret ?_
          refine nx_blk_ret ?_
          refine nx_then_ret ?_
          have hPt : P = true := by rw [hP]; rw [legAt_in h1]; exact h2
          have hW : WV = (key, true) := by rw [hout.2, hat, if_pos (show lh.any (legAt veh mo) = true by rw [hin.2, han, hPt]; rfl)]
          refine nx_ret2 rfl rfl rfl fun wx hm => ?_
          exact ⟨by rw [← hWV, hW], hm.g⟩
        · have h2 : (inB mo (lastA ⟨gv, ⟨oa, os, om, of⟩, ⟨ia, is_, im, if_⟩⟩) ((lastB ⟨gv, ⟨oa, os, om, of⟩, ⟨ia, is_, im, if_⟩⟩) - 1)) = false := by simpa using hh
          clear hh
          refine gw_skip ?_
          refine nx_blk_nrm ?_
          refine nx_then ?_
          refine gw_region ?_
          refine wl_ov (ov_add rfl rfl (by omega) (by omega)) rfl ?_
          refine wl_ov (ov_move rfl) rfl ?_
          refine wl_nil ?_
          have hPf : P = false := by rw [hP]; rw [legAt_in h1]; exact h2
          exact nx_round (j + 1) ⟨by omega, by rw [hin.2, han, hPf]; rfl⟩ (by omega) ⟨rfl, rfl, rfl, rfl, rfl, rfl, rfl, rfl, (some_int (by omega)), trivial⟩ (fun _ hm => hm.pick [2] [] [0, 1, 2] rfl rfl)
      · refine wl_set 32 rfl (congrArg Value.bool h1) ?_
        refine wl_guard_off rfl rfl rfl (by decide) rfl ?_
        refine wl_guard_off rfl rfl rfl (by decide) rfl ?_
        refine wl_guard_off rfl rfl rfl (by decide) rfl ?_
        refine wl_guard_off rfl rfl rfl (by decide) rfl ?_
        refine wl_guard_off rfl rfl rfl (by decide) rfl ?_
        refine wl_guard_off rfl rfl rfl (by decide) rfl ?_
        refine wl_guard_off rfl rfl rfl (by decide) rfl ?_
        refine wl_ov (ov_pick_f rfl rfl) rfl ?_
        refine wl_nil ?_
        refine nx_then ?_
        refine gw_cond rfl (fun hh => by cases hh) (fun _ => ?_)
        refine gw_skip ?_
        refine nx_blk_nrm ?_
        refine nx_then ?_
        refine gw_region ?_
        refine wl_ov (ov_add rfl rfl (by omega) (by omega)) rfl ?_
        refine wl_ov (ov_move rfl) rfl ?_
        refine wl_nil ?_
        have hPf : P = false := by rw [hP]; unfold legAt; simp only [h1]; rfl
        exact nx_round (j + 1) ⟨by omega, by rw [hin.2, han, hPf]; rfl⟩ (by omega) ⟨rfl, rfl, rfl, rfl, rfl, rfl, rfl, rfl, (some_int (by omega)), trivial⟩ (fun _ hm => hm.pick [2] [] [0, 1, 2] rfl rfl)
    · have hj : ¬ (((j : Nat) : Int) < ((nh : Nat) : Int)) := by simpa using hh
      clear hh
      refine gw_exit ?_
      refine nx_then_exit ?_
      refine nx_then_exit ?_
      refine nx_blk_here ?_
      refine nx_blk_nrm ?_
      refine nx_then ?_
      refine gw_region ?_
      have hNo : lh.any (legAt veh mo) = false := by rw [hin.2, List.drop_eq_nil_of_le (by omega)]; rfl
      refine wl_ov (ov_add rfl rfl (by omega) (by omega)) rfl ?_
      refine wl_ov (ov_move rfl) rfl ?_
      refine wl_nil ?_
      exact nx_round (k + 1) ⟨by omega, by rw [hout.2, hat, if_neg (show ¬ lh.any (legAt veh mo) = true by rw [hNo]; decide)]⟩ (by omega) ⟨rfl, rfl, rfl, rfl, (some_int (by omega)), trivial⟩ (fun _ hm => hm.pick [] [] [1, 2] rfl rfl)
  · have hk : ¬ (((k : Nat) : Int) < ((n : Nat) : Int)) := by simpa using hh
    clear hh
    refine gw_exit ?_
    refine nx_then_exit ?_
    refine nx_then_exit ?_
    refine nx_blk_here ?_
    refine nx_then ?_
    refine gw_seq ?_
    refine gw_region ?_
    refine wl_ov (ov_assign rfl) rfl ?_
    refine wl_ov (ov_assign rfl) rfl ?_
    refine wl_nil ?_
    refine nx_then ?_
    refine gw_ret ?_
    have hW : WV = (⟨#[]⟩, false) := by rw [hinv.2, List.drop_eq_nil_of_le (by omega)]; rfl
    refine nx_ret2 rfl rfl rfl fun wx hm => ?_
    exact ⟨by rw [← hWV, hW], hm.g⟩

end Go.Proofs.YtljnekobfjpfaaaDoor
/- Overdue over hires; slices.Equal at strings. -/
namespace Go.Proofs.YtljnekobfjpfaaaDoor
open Go.RowKit

theorem ap103 : appB Tryd.prog 103 = some (9, 1, 16) := by kernel_rfl
def overE (hs : List Hs) (mo : Int) : Int := firstE [hiresE hs, momentE mo]
def overOr (E mo : Int) (hs : List Hs) : List ByteArray := if E = 0 then overL mo hs else []
set_option maxRecDepth 100000 in
set_option maxHeartbeats 1000000 in
theorem overdue_any (hs : List Hs) (A : Option Addr) (n c : Nat) (mo : Int) (w : World) (hl : SlT hsEnc 5 36 w A n hs) (hg : Legs hs w) (hok : ∀ h ∈ hs, HsOk h) (hn : n ≤ 1000000) :
    Calls Tryd.prog 70 #[.slice A n c, .int .i64 mo] w (fun e w' => ∃ A2 n2 c2, e = .returned (.tuple #[.slice A2 n2 c2, .int .i64 (overE hs mo)]) ∧ w.grownBy w' none ∧ SlT stEnc1 1 9 w' A2 n2 (overOr (overE hs mo) mo hs)) := by
  refine gw_enter ⟨41, w, none, []⟩ Tryd.func70 rfl Tryd.ntmps70 rfl (mem0 (X := [SlOld hsEnc 5 36 w.heap.size none A n hs, LegsOld w.heap.size none hs]) (allF_cons hl.old (allF_cons hg.old allF_nil)) (allL_cons SlOld.lasts (allL_cons LegsOld.lasts allL_nil))) ?_
  refine gw_seq ?_
  refine gw_region ?_
  have hlen := hl.len
  refine wl_ov (ov_assign rfl) rfl ?_
  refine wl_ov (ov_assign rfl) rfl ?_
  refine wl_nil ?_
  refine nx_then ?_
  refine gw_seq ?_
  refine gw_seq ?_
  refine gw_region ?_
  refine wl_ov (ov_move rfl) rfl ?_
  refine wl_callv rfl cb82 rfl rfl (fun wx hm => (checkAll_any hs A n c wx (hm.fact 0 rfl).1 (fun h hh => ((hm.fact 1 rfl) h hh).1) hok (by omega))) ?_
  refine wl_ov (ov_move rfl) rfl ?_
  refine wl_callw rfl cb100 rfl rfl (fun wx hm => (moment_any _ wx)) ?_
  refine wl_buildSlice (e := 37) (cs := [.int .i64 (hiresE hs), .int .i64 (momentE mo)]) rfl (by kernel_rfl) rfl fun g1 => ?_
  refine wl_callw rfl cb96 rfl rfl (fun wx hm => (first_any [hiresE hs, momentE mo] _ _ _ wx (hm.blkI 0 rfl) (by simp))) ?_
  refine wl_ov (ov_assign rfl) rfl ?_
  refine wl_nil ?_
  refine nx_then ?_
  refine gw_seq ?_
  refine gw_region ?_
  refine wl_ov (ov_move rfl) rfl ?_
  refine wl_ov (ov_neq rfl rfl) rfl ?_
  refine wl_nil ?_
  refine nx_then ?_
  refine gw_cond rfl (fun hh => ?_) (fun hh => ?_)
  · have hE : ¬ (firstE [hiresE hs, momentE mo] = 0) := by simpa using hh
    clear hh
    refine gw_seq ?_
    refine gw_region ?_
    refine wl_ov (ov_move rfl) rfl ?_
    refine wl_ov (ov_assign rfl) rfl ?_
    refine wl_ov (ov_assign rfl) rfl ?_
    refine wl_nil ?_
    refine nx_then ?_
    refine gw_ret ?_
    refine nx_then_ret ?_
    refine nx_ret2 rfl rfl rfl fun wx hm => ?_
    refine ⟨none, 0, 0, rfl, hm.g, ?_⟩
    rw [show overOr (overE hs mo) mo hs = [] from if_neg hE]
    exact SlT.nil_ _ _
  · have hE : firstE [hiresE hs, momentE mo] = 0 := by simpa using hh
    clear hh
    refine gw_skip ?_
    refine nx_then ?_
    refine gw_seq ?_
    refine gw_region ?_
    have hz := firstE_all hE
    have hhr := hiresE_ok (hz (hiresE hs) (by simp))
    have hn5 := hhr.1
    refine wl_nilOwn 9 1 ?_
    refine wl_ov (ov_assign rfl) rfl ?_
    refine wl_nil ?_
    refine nx_then ?_
    refine gw_seq ?_
    refine gw_seq ?_
    refine gw_region ?_
    refine wl_ov (ov_move rfl) rfl ?_
    refine wl_ov (ov_len es99 rfl) rfl ?_
    refine wl_ov (ov_move rfl) rfl ?_
    refine wl_nil ?_
    refine nx_then ?_
    refine gw_block ?_
    refine gw_loop (γ := Nat × Nat × Value × List Value) (fun (g : Nat × Nat × Value × List Value) => g.1 ≤ n ∧ g.2.1 = (overL mo (hs.take g.1)).length ∧ g.2.2.2 = (overL mo (hs.take g.1)).flatMap stEnc1) (fun (g : Nat × Nat × Value × List Value) => [(1, .int .i64 mo), (4, .slice none 0 0), (5, .int .i64 0), (7, g.2.2.1), (19, .slice A n c), (20, .int .i64 ((n : Nat) : Int)), (21, .int .i64 ((g.1 : Nat) : Int))]) (fun (g : Nat × Nat × Value × List Value) => fun _ => True) (fun (g : Nat × Nat × Value × List Value) => [(g1, 37, [.int .i64 (hiresE hs), .int .i64 (momentE mo)])]) (fun (g : Nat × Nat × Value × List Value) => [⟨g.2.2.1, 9, 1, g.2.1, g.2.2.2⟩]) (fun (g : Nat × Nat × Value × List Value) => [SlOld hsEnc 5 36 w.heap.size none A n hs, LegsOld w.heap.size none hs]) (fun (g : Nat × Nat × Value × List Value) => n - g.1) (0, 0, .slice none 0 0, []) ⟨Nat.zero_le _, rfl, rfl⟩ ⟨rfl, rfl, rfl, rfl, rfl, rfl, rfl, trivial⟩ (fun _ hm => hm.pick [0] [0] [0, 1] rfl rfl) ?_
    rintro ⟨k, j, v, xs⟩ hinv
    replace hinv : k ≤ n ∧ j = (overL mo (hs.take k)).length ∧ xs = (overL mo (hs.take k)).flatMap stEnc1 := hinv
    dsimp only
    refine gw_seq ?_
    refine gw_region ?_
    obtain ⟨hi0, hi1, rfl⟩ := hinv
    refine wl_ov (ov_lss rfl rfl) rfl ?_
    refine wl_nil ?_
    refine nx_then ?_
    refine gw_seq ?_
    refine gw_cond rfl (fun hh => ?_) (fun hh => ?_)
    · have hk : ((k : Nat) : Int) < ((n : Nat) : Int) := by simpa using hh
      clear hh
      refine gw_skip ?_
      refine nx_then ?_
      refine gw_seq ?_
      refine gw_block ?_
      refine gw_seq ?_
      refine gw_region ?_
      obtain ⟨b, off, hA, _, _⟩ := hl.get (by omega)
      subst hA
      obtain ⟨x, hx⟩ : ∃ x, hs[k]? = some x := ⟨_, List.getElem?_eq_getElem (by omega)⟩
      obtain ⟨key, driver, fr, to_, Ah, nh, ch, lh⟩ := x
      obtain ⟨hho, hhn⟩ := hok _ (List.mem_of_getElem? hx)
      have hho : HrOk key driver lh := hho
      have hhn : nh ≤ 1000 := hhn
      have hat := overL_take (mo := mo) hx
      have hjl := overL_len mo (hs.take k)
      rw [List.length_take] at hjl
      have hh0 : hireE ⟨key, driver, fr, to_, lh⟩ = 0 := hhr.2 _ (List.mem_of_getElem? hx)
      refine wl_also (Y := SlOld lgEnc 9 138 w.heap.size none Ah nh lh) (SlOld.lasts) (fun wx hm => (hm.fact 1 rfl) _ (List.mem_of_getElem? hx)) ?_
      refine wl_look (R := lh.length = nh) (fun wx hm => ((hm.fact 0 rfl)).1.len) ?_
      intro hlh
      have hl0 : 0 < lh.length := (hireE_legs hh0).1
      refine wl_ov (ov_index (j := k) es99 rfl rfl (by omega)) rfl ?_
      refine wl_ov (ov_elem rz36 rfl (fun _ hm => (hm.fact 1 rfl).1) hx rfl rfl) rfl ?_
      refine wl_alloc zc36 rfl fun g2 => ?_
      refine wl_stores (cs' := [.string key, .string driver, .int .i64 fr, .int .i64 to_, .slice Ah nh ch]) 0 rz36 rfl rfl rfl rfl rfl rfl rfl rfl ?_
      refine wl_nil ?_
      refine nx_then ?_
      refine gw_seq ?_
      refine gw_region ?_
      refine wl_ov (ov_loads rz36 rfl (fun _ hm => hm.blkI 0 rfl) rfl rfl) rfl ?_
      refine wl_callv rfl cb127 rfl rfl (fun wx hm => (open_any key driver fr to_ lh Ah nh ch wx (hm.fact 0 rfl).1 (by omega) (by omega))) ?_
      obtain ⟨P, hP⟩ : ∃ P, P = isOver mo ⟨key, driver, fr, to_, Ah, nh, ch, lh⟩ := ⟨_, rfl⟩
      rw [← hP] at hat
      refine wl_ov (ov_move rfl) rfl ?_
      rcases Bool.eq_false_or_eq_true (openB lh) with h1 | h1
      · refine wl_set 27 rfl (congrArg Value.bool h1) ?_
        refine wl_guard_on rfl rfl rfl ?_
        refine wl_ov (ov_field fo36_2 rfl rfl) rfl ?_
        refine wl_guard_on rfl rfl rfl ?_
        refine wl_ov (ov_field fo28_1 rfl rfl) rfl ?_
        refine wl_guard_on rfl rfl rfl ?_
        refine wl_ov (ov_load sc3 rfl (fun _ hm => hm.blkI 0 rfl) rfl) rfl ?_
        refine wl_guard_on rfl rfl rfl ?_
        refine wl_ov (ov_move rfl) rfl ?_
        refine wl_guard_on rfl rfl rfl ?_
        refine wl_ov (ov_leq rfl rfl) rfl ?_
        refine wl_ov (ov_pick_t rfl rfl) rfl ?_
        refine wl_nil ?_
        refine nx_then ?_
        refine gw_cond rfl (fun hh => ?_) (fun hh => ?_)
        · have h2 : to_ ≤ mo := by simpa using hh
          clear hh
          refine gw_region ?_
          refine wl_ov (ov_move rfl) rfl ?_
          refine wl_ov (ov_field fo36_0 rfl rfl) rfl ?_
          refine wl_ov (ov_load sc9 rfl (fun _ hm => hm.blkI 0 rfl) rfl) rfl ?_
          refine wl_buildSlice (e := 9) (cs := [.string key]) rfl (by kernel_rfl) rfl fun g3 => ?_
          refine wl_append (news := [.string key]) 0 0 ap103 rfl rfl rfl rfl rfl rfl rfl (by omega) (by unfold maxLen; omega) rfl rfl fun v2 hv2 => ?_
          refine wl_ov (ov_assign rfl) rfl ?_
          refine wl_nil ?_
          refine nx_blk_nrm ?_
          refine nx_then ?_
          refine gw_region ?_
          refine wl_ov (ov_add rfl rfl (by omega) (by omega)) rfl ?_
          refine wl_ov (ov_move rfl) rfl ?_
          refine wl_nil ?_
          have hPt : P = true := by rw [hP]; unfold isOver; rw [h1]; simpa using h2
          rw [hPt, if_pos rfl] at hat
          exact nx_round (k + 1, j + 1, v2, (overL mo (hs.take k)).flatMap stEnc1 ++ ([.string key] : List Value)) ⟨by dsimp only; omega, by dsimp only; rw [hat, List.length_append, hi1]; rfl, by dsimp only; rw [hat]; simp [stEnc1]⟩ (by dsimp only; omega) ⟨rfl, rfl, rfl, rfl, rfl, rfl, (some_int (by omega)), trivial⟩ (fun _ hm => hm.pick [2] [0] [1, 2] rfl rfl)
        · have h2 : ¬ (to_ ≤ mo) := by simpa using hh
          clear hh
          refine gw_skip ?_
          refine nx_blk_nrm ?_
          refine nx_then ?_
          refine gw_region ?_
          refine wl_ov (ov_add rfl rfl (by omega) (by omega)) rfl ?_
          refine wl_ov (ov_move rfl) rfl ?_
          refine wl_nil ?_
          have hPf : P = false := by rw [hP]; unfold isOver; rw [h1]; simpa using h2
          rw [hPf, if_neg (by decide), List.append_nil] at hat
          exact nx_round (k + 1, j, v, (overL mo (hs.take k)).flatMap stEnc1) ⟨by dsimp only; omega, by dsimp only; rw [hat]; exact hi1, by dsimp only; rw [hat]⟩ (by dsimp only; omega) ⟨rfl, rfl, rfl, rfl, rfl, rfl, (some_int (by omega)), trivial⟩ (fun _ hm => hm.pick [1] [0] [1, 2] rfl rfl)
      · refine wl_set 27 rfl (congrArg Value.bool h1) ?_
        refine wl_guard_off rfl rfl rfl (by decide) rfl ?_
        refine wl_guard_off rfl rfl rfl (by decide) rfl ?_
        refine wl_guard_off rfl rfl rfl (by decide) rfl ?_
        refine wl_guard_off rfl rfl rfl (by decide) rfl ?_
        refine wl_guard_off rfl rfl rfl (by decide) rfl ?_
        refine wl_ov (ov_pick_f rfl rfl) rfl ?_
        refine wl_nil ?_
        refine nx_then ?_
        refine gw_cond rfl (fun hh => by cases hh) (fun _ => ?_)
        refine gw_skip ?_
        refine nx_blk_nrm ?_
        refine nx_then ?_
        refine gw_region ?_
        refine wl_ov (ov_add rfl rfl (by omega) (by omega)) rfl ?_
        refine wl_ov (ov_move rfl) rfl ?_
        refine wl_nil ?_
        have hPf : P = false := by rw [hP]; unfold isOver; rw [h1]; rfl
        rw [hPf, if_neg (by decide), List.append_nil] at hat
        exact nx_round (k + 1, j, v, (overL mo (hs.take k)).flatMap stEnc1) ⟨by dsimp only; omega, by dsimp only; rw [hat]; exact hi1, by dsimp only; rw [hat]⟩ (by dsimp only; omega) ⟨rfl, rfl, rfl, rfl, rfl, rfl, (some_int (by omega)), trivial⟩ (fun _ hm => hm.pick [1] [0] [1, 2] rfl rfl)
    · have hk : ¬ (((k : Nat) : Int) < ((n : Nat) : Int)) := by simpa using hh
      clear hh
      refine gw_exit ?_
      refine nx_then_exit ?_
      refine nx_then_exit ?_
      refine nx_blk_here ?_
      refine nx_then ?_
      refine gw_seq ?_
      refine gw_region ?_
      have hk2 : hs.take k = hs := List.take_of_length_le (by omega)
      rw [hk2] at hi1 ⊢
      refine wl_look (R := ∃ A cc, v = .slice A j cc) (fun wx hm => own_slice (hm.ownI 0 rfl)) ?_
      rintro ⟨A2, c2, rfl⟩
      refine wl_ov (ov_move rfl) rfl ?_
      refine wl_ov (ov_assign rfl) rfl ?_
      refine wl_ov (ov_assign rfl) rfl ?_
      refine wl_nil ?_
      refine nx_then ?_
      refine gw_ret ?_
      refine nx_ret2 rfl rfl rfl fun wx hm => ?_
      refine ⟨A2, j, c2, by rw [show overE hs mo = 0 from hE], hm.g, ?_⟩
      rw [show overOr (overE hs mo) mo hs = overL mo hs from if_pos hE]
      exact SlT.ofOwn stEnc1_len (hm.ownI 0 rfl) hi1.symm

set_option maxRecDepth 100000 in
set_option maxHeartbeats 1000000 in
theorem overdueOf_any (hs : List Hs) (A : Option Addr) (n c : Nat) (mo : Int) (w : World) (hl : SlT hsEnc 5 36 w A n hs) (hg : Legs hs w) (hok : ∀ h ∈ hs, HsOk h) (hhr : hs.length ≤ 500 ∧ ∀ x ∈ hs, hireE x.hr = 0) :
    Calls Tryd.prog 73 #[.slice A n c, .int .i64 mo] w (fun e w' => ∃ A2 n2 c2, e = .returned (.slice A2 n2 c2) ∧ w.grownBy w' none ∧ SlT stEnc1 1 9 w' A2 n2 (overL mo hs)) := by
  refine gw_enter ⟨30, w, none, []⟩ Tryd.func73 rfl Tryd.ntmps73 rfl (mem0 (X := [SlOld hsEnc 5 36 w.heap.size none A n hs, LegsOld w.heap.size none hs]) (allF_cons hl.old (allF_cons hg.old allF_nil)) (allL_cons SlOld.lasts (allL_cons LegsOld.lasts allL_nil))) ?_
  refine gw_seq ?_
  refine gw_region ?_
  have hlen := hl.len
  have hn5 := hhr.1
  refine wl_nilOwn 9 1 ?_
  refine wl_ov (ov_assign rfl) rfl ?_
  refine wl_nil ?_
  refine nx_then ?_
  refine gw_seq ?_
  refine gw_region ?_
  refine wl_ov (ov_assign rfl) rfl ?_
  refine wl_nil ?_
  refine nx_then ?_
  refine gw_seq ?_
  refine gw_seq ?_
  refine gw_region ?_
  refine wl_ov (ov_move rfl) rfl ?_
  refine wl_ov (ov_len es99 rfl) rfl ?_
  refine wl_ov (ov_move rfl) rfl ?_
  refine wl_nil ?_
  refine nx_then ?_
  refine gw_block ?_
  refine gw_loop (γ := Nat × Nat × Value × List Value) (fun (g : Nat × Nat × Value × List Value) => g.1 ≤ n ∧ g.2.1 = (overL mo (hs.take g.1)).length ∧ g.2.2.2 = (overL mo (hs.take g.1)).flatMap stEnc1) (fun (g : Nat × Nat × Value × List Value) => [(1, .int .i64 mo), (4, .slice none 0 0), (5, g.2.2.1), (8, .slice A n c), (9, .int .i64 ((n : Nat) : Int)), (10, .int .i64 ((g.1 : Nat) : Int))]) (fun (g : Nat × Nat × Value × List Value) => fun _ => True) (fun (g : Nat × Nat × Value × List Value) => []) (fun (g : Nat × Nat × Value × List Value) => [⟨g.2.2.1, 9, 1, g.2.1, g.2.2.2⟩]) (fun (g : Nat × Nat × Value × List Value) => [SlOld hsEnc 5 36 w.heap.size none A n hs, LegsOld w.heap.size none hs]) (fun (g : Nat × Nat × Value × List Value) => n - g.1) (0, 0, .slice none 0 0, []) ⟨Nat.zero_le _, rfl, rfl⟩ ⟨rfl, rfl, rfl, rfl, rfl, rfl, trivial⟩ (fun _ hm => hm.pick [] [0] [0, 1] rfl rfl) ?_
  rintro ⟨k, j, v, xs⟩ hinv
  replace hinv : k ≤ n ∧ j = (overL mo (hs.take k)).length ∧ xs = (overL mo (hs.take k)).flatMap stEnc1 := hinv
  dsimp only
  refine gw_seq ?_
  refine gw_region ?_
  obtain ⟨hi0, hi1, rfl⟩ := hinv
  refine wl_ov (ov_lss rfl rfl) rfl ?_
  refine wl_nil ?_
  refine nx_then ?_
  refine gw_seq ?_
  refine gw_cond rfl (fun hh => ?_) (fun hh => ?_)
  · have hk : ((k : Nat) : Int) < ((n : Nat) : Int) := by simpa using hh
    clear hh
    refine gw_skip ?_
    refine nx_then ?_
    refine gw_seq ?_
    refine gw_block ?_
    refine gw_seq ?_
    refine gw_region ?_
    obtain ⟨b, off, hA, _, _⟩ := hl.get (by omega)
    subst hA
    obtain ⟨x, hx⟩ : ∃ x, hs[k]? = some x := ⟨_, List.getElem?_eq_getElem (by omega)⟩
    obtain ⟨key, driver, fr, to_, Ah, nh, ch, lh⟩ := x
    obtain ⟨hho, hhn⟩ := hok _ (List.mem_of_getElem? hx)
    have hho : HrOk key driver lh := hho
    have hhn : nh ≤ 1000 := hhn
    have hat := overL_take (mo := mo) hx
    have hjl := overL_len mo (hs.take k)
    rw [List.length_take] at hjl
    have hh0 : hireE ⟨key, driver, fr, to_, lh⟩ = 0 := hhr.2 _ (List.mem_of_getElem? hx)
    refine wl_also (Y := SlOld lgEnc 9 138 w.heap.size none Ah nh lh) (SlOld.lasts) (fun wx hm => (hm.fact 1 rfl) _ (List.mem_of_getElem? hx)) ?_
    refine wl_look (R := lh.length = nh) (fun wx hm => ((hm.fact 0 rfl)).1.len) ?_
    intro hlh
    have hl0 : 0 < lh.length := (hireE_legs hh0).1
    refine wl_ov (ov_index (j := k) es99 rfl rfl (by omega)) rfl ?_
    refine wl_ov (ov_elem rz36 rfl (fun _ hm => (hm.fact 1 rfl).1) hx rfl rfl) rfl ?_
    refine wl_alloc zc36 rfl fun g1 => ?_
    refine wl_stores (cs' := [.string key, .string driver, .int .i64 fr, .int .i64 to_, .slice Ah nh ch]) 0 rz36 rfl rfl rfl rfl rfl rfl rfl rfl ?_
    refine wl_nil ?_
    refine nx_then ?_
    refine gw_seq ?_
    refine gw_region ?_
    refine wl_ov (ov_loads rz36 rfl (fun _ hm => hm.blkI 0 rfl) rfl rfl) rfl ?_
    refine wl_callv rfl cb66 rfl rfl (fun wx hm => (isOpen_any key driver fr to_ lh Ah nh ch wx (hm.fact 0 rfl).1 (by omega))) ?_
    obtain ⟨P, hP⟩ : ∃ P, P = isOver mo ⟨key, driver, fr, to_, Ah, nh, ch, lh⟩ := ⟨_, rfl⟩
    rw [← hP] at hat
    refine wl_ov (ov_move rfl) rfl ?_
    rcases Bool.eq_false_or_eq_true (openB lh) with h1 | h1
    · refine wl_set 16 rfl (congrArg Value.bool h1) ?_
      refine wl_guard_on rfl rfl rfl ?_
      refine wl_ov (ov_field fo36_2 rfl rfl) rfl ?_
      refine wl_guard_on rfl rfl rfl ?_
      refine wl_ov (ov_field fo28_1 rfl rfl) rfl ?_
      refine wl_guard_on rfl rfl rfl ?_
      refine wl_ov (ov_load sc3 rfl (fun _ hm => hm.blkI 0 rfl) rfl) rfl ?_
      refine wl_guard_on rfl rfl rfl ?_
      refine wl_ov (ov_move rfl) rfl ?_
      refine wl_guard_on rfl rfl rfl ?_
      refine wl_ov (ov_leq rfl rfl) rfl ?_
      refine wl_ov (ov_pick_t rfl rfl) rfl ?_
      refine wl_nil ?_
      refine nx_then ?_
      refine gw_cond rfl (fun hh => ?_) (fun hh => ?_)
      · have h2 : to_ ≤ mo := by simpa using hh
        clear hh
        refine gw_region ?_
        refine wl_ov (ov_move rfl) rfl ?_
        refine wl_ov (ov_field fo36_0 rfl rfl) rfl ?_
        refine wl_ov (ov_load sc9 rfl (fun _ hm => hm.blkI 0 rfl) rfl) rfl ?_
        refine wl_buildSlice (e := 9) (cs := [.string key]) rfl (by kernel_rfl) rfl fun g2 => ?_
        refine wl_append (news := [.string key]) 0 0 ap103 rfl rfl rfl rfl rfl rfl rfl (by omega) (by unfold maxLen; omega) rfl rfl fun v2 hv2 => ?_
        refine wl_ov (ov_assign rfl) rfl ?_
        refine wl_nil ?_
        refine nx_blk_nrm ?_
        refine nx_then ?_
        refine gw_region ?_
        refine wl_ov (ov_add rfl rfl (by omega) (by omega)) rfl ?_
        refine wl_ov (ov_move rfl) rfl ?_
        refine wl_nil ?_
        have hPt : P = true := by rw [hP]; unfold isOver; rw [h1]; simpa using h2
        rw [hPt, if_pos rfl] at hat
        exact nx_round (k + 1, j + 1, v2, (overL mo (hs.take k)).flatMap stEnc1 ++ ([.string key] : List Value)) ⟨by dsimp only; omega, by dsimp only; rw [hat, List.length_append, hi1]; rfl, by dsimp only; rw [hat]; simp [stEnc1]⟩ (by dsimp only; omega) ⟨rfl, rfl, rfl, rfl, rfl, (some_int (by omega)), trivial⟩ (fun _ hm => hm.pick [] [0] [1, 2] rfl rfl)
      · have h2 : ¬ (to_ ≤ mo) := by simpa using hh
        clear hh
        refine gw_skip ?_
        refine nx_blk_nrm ?_
        refine nx_then ?_
        refine gw_region ?_
        refine wl_ov (ov_add rfl rfl (by omega) (by omega)) rfl ?_
        refine wl_ov (ov_move rfl) rfl ?_
        refine wl_nil ?_
        have hPf : P = false := by rw [hP]; unfold isOver; rw [h1]; simpa using h2
        rw [hPf, if_neg (by decide), List.append_nil] at hat
        exact nx_round (k + 1, j, v, (overL mo (hs.take k)).flatMap stEnc1) ⟨by dsimp only; omega, by dsimp only; rw [hat]; exact hi1, by dsimp only; rw [hat]⟩ (by dsimp only; omega) ⟨rfl, rfl, rfl, rfl, rfl, (some_int (by omega)), trivial⟩ (fun _ hm => hm.pick [] [0] [1, 2] rfl rfl)
    · refine wl_set 16 rfl (congrArg Value.bool h1) ?_
      refine wl_guard_off rfl rfl rfl (by decide) rfl ?_
      refine wl_guard_off rfl rfl rfl (by decide) rfl ?_
      refine wl_guard_off rfl rfl rfl (by decide) rfl ?_
      refine wl_guard_off rfl rfl rfl (by decide) rfl ?_
      refine wl_guard_off rfl rfl rfl (by decide) rfl ?_
      refine wl_ov (ov_pick_f rfl rfl) rfl ?_
      refine wl_nil ?_
      refine nx_then ?_
      refine gw_cond rfl (fun hh => by cases hh) (fun _ => ?_)
      refine gw_skip ?_
      refine nx_blk_nrm ?_
      refine nx_then ?_
      refine gw_region ?_
      refine wl_ov (ov_add rfl rfl (by omega) (by omega)) rfl ?_
      refine wl_ov (ov_move rfl) rfl ?_
      refine wl_nil ?_
      have hPf : P = false := by rw [hP]; unfold isOver; rw [h1]; rfl
      rw [hPf, if_neg (by decide), List.append_nil] at hat
      exact nx_round (k + 1, j, v, (overL mo (hs.take k)).flatMap stEnc1) ⟨by dsimp only; omega, by dsimp only; rw [hat]; exact hi1, by dsimp only; rw [hat]⟩ (by dsimp only; omega) ⟨rfl, rfl, rfl, rfl, rfl, (some_int (by omega)), trivial⟩ (fun _ hm => hm.pick [] [0] [1, 2] rfl rfl)
  · have hk : ¬ (((k : Nat) : Int) < ((n : Nat) : Int)) := by simpa using hh
    clear hh
    refine gw_exit ?_
    refine nx_then_exit ?_
    refine nx_then_exit ?_
    refine nx_blk_here ?_
    refine nx_then ?_
    refine gw_seq ?_
    refine gw_region ?_
    have hk2 : hs.take k = hs := List.take_of_length_le (by omega)
    rw [hk2] at hi1 ⊢
    refine wl_look (R := ∃ A cc, v = .slice A j cc) (fun wx hm => own_slice (hm.ownI 0 rfl)) ?_
    rintro ⟨A2, c2, rfl⟩
    refine wl_ov (ov_move rfl) rfl ?_
    refine wl_ov (ov_assign rfl) rfl ?_
    refine wl_nil ?_
    refine nx_then ?_
    refine gw_ret ?_
    refine nx_ret1 rfl rfl fun wx hm => ?_
    exact ⟨A2, j, c2, rfl, hm.g, SlT.ofOwn stEnc1_len (hm.ownI 0 rfl) hi1.symm⟩

set_option maxRecDepth 100000 in
set_option maxHeartbeats 400000 in
theorem equal_strings_any (l : List ByteArray) (A1 A2 : Option Addr) (n c1 c2 : Nat) (w : World) (h1 : SlT stEnc1 1 9 w A1 n l) (h2 : SlT stEnc1 1 9 w A2 n l) (hn : n ≤ 1000000) :
    Calls Tryd.prog 72 #[.slice A1 n c1, .slice A2 n c2] w (fun e w' => e = .returned (.bool true) ∧ w.grownBy w' none) := by
  refine gw_enter ⟨26, w, none, []⟩ Tryd.func72 rfl Tryd.ntmps72 rfl (mem0 (X := [SlOld stEnc1 1 9 w.heap.size none A1 n l, SlOld stEnc1 1 9 w.heap.size none A2 n l]) (allF_cons h1.old (allF_cons h2.old allF_nil)) (allL_cons SlOld.lasts (allL_cons SlOld.lasts allL_nil))) ?_
  refine gw_seq ?_
  refine gw_region ?_
  have hlen := h1.len
  refine wl_ov (ov_assign rfl) rfl ?_
  refine wl_nil ?_
  refine nx_then ?_
  refine gw_seq ?_
  refine gw_seq ?_
  refine gw_region ?_
  refine wl_ov (ov_move rfl) rfl ?_
  refine wl_ov (ov_len es103 rfl) rfl ?_
  refine wl_ov (ov_move rfl) rfl ?_
  refine wl_ov (ov_len es103 rfl) rfl ?_
  refine wl_ov (ov_neq rfl rfl) rfl ?_
  refine wl_set 10 (v' := .bool false) rfl (congrArg Value.bool (by simp)) ?_
  refine wl_nil ?_
  refine nx_then ?_
  refine gw_cond rfl (fun hh => by cases hh) (fun _ => ?_)
  refine gw_skip ?_
  refine nx_then ?_
  refine gw_seq ?_
  refine gw_seq ?_
  refine gw_region ?_
  refine wl_ov (ov_move rfl) rfl ?_
  refine wl_ov (ov_len es103 rfl) rfl ?_
  refine wl_ov (ov_move rfl) rfl ?_
  refine wl_nil ?_
  refine nx_then ?_
  refine gw_block ?_
  refine gw_loop (γ := Nat) (fun (k : Nat) => k ≤ n) (fun (k : Nat) => [(0, .slice A1 n c1), (1, .slice A2 n c2), (12, .int .i64 ((n : Nat) : Int)), (13, .int .i64 ((k : Nat) : Int))]) (fun (k : Nat) => fun _ => True) (fun (k : Nat) => []) (fun (k : Nat) => []) (fun (k : Nat) => [SlOld stEnc1 1 9 w.heap.size none A1 n l, SlOld stEnc1 1 9 w.heap.size none A2 n l]) (fun (k : Nat) => n - k) 0 (Nat.zero_le _) ⟨rfl, rfl, rfl, rfl, trivial⟩ (fun _ hm => hm.pick [] [] [0, 1] rfl rfl) ?_
  intro k hinv
  replace hinv : k ≤ n := hinv
  refine gw_seq ?_
  refine gw_region ?_
  refine wl_ov (ov_lss rfl rfl) rfl ?_
  refine wl_nil ?_
  refine nx_then ?_
  refine gw_seq ?_
  refine gw_cond rfl (fun hh => ?_) (fun hh => ?_)
  · have hk : ((k : Nat) : Int) < ((n : Nat) : Int) := by simpa using hh
    clear hh
    refine gw_skip ?_
    refine nx_then ?_
    refine gw_seq ?_
    refine gw_block ?_
    refine gw_seq ?_
    refine gw_region ?_
    obtain ⟨b1, o1, hA, _, _⟩ := h1.get (by omega)
    subst hA
    obtain ⟨b2, o2, hA, _, _⟩ := h2.get (by omega)
    subst hA
    obtain ⟨x, hx⟩ : ∃ x, l[k]? = some x := ⟨_, List.getElem?_eq_getElem (by omega)⟩
    refine wl_ov (ov_move rfl) rfl ?_
    refine wl_ov (ov_assign rfl) rfl ?_
    refine wl_nil ?_
    refine nx_then ?_
    refine gw_seq ?_
    refine gw_draw (fun wz => (SlOld stEnc1 1 9 w.heap.size none (some ⟨b1, o1, none⟩) n l) wz ∧ (SlOld stEnc1 1 9 w.heap.size none (some ⟨b2, o2, none⟩) n l) wz ∧ True) mixed ?_
    refine wa_take 0 rfl (by kernel_rfl) (by kernel_rfl) (by kernel_rfl) (listed' := #[true, false, false, false, false, false, false, false, false]) rfl (fun _ _ _ h => h) (fun _ hm => ⟨hm.fact 0 rfl, hm.fact 1 rfl, trivial⟩) (ov_move rfl) rfl ?_
    refine wa_take 1 rfl (by kernel_rfl) (by kernel_rfl) (by kernel_rfl) (listed' := #[true, true, false, false, false, false, false, false, false]) rfl (fun _ _ _ h => h) (fun _ hm => ⟨hm.fact 0 rfl, hm.fact 1 rfl, trivial⟩) (ov_move rfl) rfl ?_
    refine wa_take 2 rfl (by kernel_rfl) (by kernel_rfl) (by kernel_rfl) (listed' := #[true, true, true, false, false, false, false, false, false]) rfl (fun _ _ _ h => h) (fun _ hm => ⟨hm.fact 0 rfl, hm.fact 1 rfl, trivial⟩) (ov_index (j := k) es103 rfl rfl (by omega)) rfl ?_
    refine wa_take 3 rfl (by kernel_rfl) (by kernel_rfl) (by kernel_rfl) (listed' := #[true, true, true, true, false, false, false, false, false]) rfl (fun _ _ _ h => h) (fun _ hm => ⟨hm.fact 0 rfl, hm.fact 1 rfl, trivial⟩) (ov_elem1 (k := 0) sc9 rfl (fun _ hm => (hm.1).1) hx rfl rfl) rfl ?_
    refine wa_take 4 rfl (by kernel_rfl) (by kernel_rfl) (by kernel_rfl) (listed' := #[true, true, true, true, true, false, false, false, false]) rfl (fun _ _ _ h => h) (fun _ hm => ⟨hm.fact 0 rfl, hm.fact 1 rfl, trivial⟩) (ov_move rfl) rfl ?_
    refine wa_take 5 rfl (by kernel_rfl) (by kernel_rfl) (by kernel_rfl) (listed' := #[true, true, true, true, true, true, false, false, false]) rfl (fun _ _ _ h => h) (fun _ hm => ⟨hm.fact 0 rfl, hm.fact 1 rfl, trivial⟩) (ov_move rfl) rfl ?_
    refine wa_take 6 rfl (by kernel_rfl) (by kernel_rfl) (by kernel_rfl) (listed' := #[true, true, true, true, true, true, true, false, false]) rfl (fun _ _ _ h => h) (fun _ hm => ⟨hm.fact 0 rfl, hm.fact 1 rfl, trivial⟩) (ov_index (j := k) es103 rfl rfl (by omega)) rfl ?_
    refine wa_take 7 rfl (by kernel_rfl) (by kernel_rfl) (by kernel_rfl) (listed' := #[true, true, true, true, true, true, true, true, false]) rfl (fun _ _ _ h => h) (fun _ hm => ⟨hm.fact 0 rfl, hm.fact 1 rfl, trivial⟩) (ov_elem1 (k := 0) sc9 rfl (fun _ hm => (hm.2.1).1) hx rfl rfl) rfl ?_
    refine wa_take 8 rfl (by kernel_rfl) (by kernel_rfl) (by kernel_rfl) (listed' := #[true, true, true, true, true, true, true, true, true]) rfl (fun _ _ _ h => h) (fun _ hm => ⟨hm.fact 0 rfl, hm.fact 1 rfl, trivial⟩) (ov_sneq rfl rfl) rfl ?_
    refine wa_set 24 (v' := .bool false) rfl (congrArg Value.bool (by simp)) ?_
    refine wa_done (by kernel_rfl) ?_
    refine nx_then ?_
    refine gw_cond rfl (fun hh => by cases hh) (fun _ => ?_)
    refine gw_skip ?_
    refine nx_blk_nrm ?_
    refine nx_then ?_
    refine gw_region ?_
    refine wl_ov (ov_add rfl rfl (by omega) (by omega)) rfl ?_
    refine wl_ov (ov_move rfl) rfl ?_
    refine wl_nil ?_
    exact nx_round (k + 1) (by omega) (by omega) ⟨rfl, rfl, rfl, (some_int (by omega)), trivial⟩ (fun _ hm => hm.pick [] [] [0, 1] rfl rfl)
  · have hk : ¬ (((k : Nat) : Int) < ((n : Nat) : Int)) := by simpa using hh
    clear hh
    refine gw_exit ?_
    refine nx_then_exit ?_
    refine nx_then_exit ?_
    refine nx_blk_here ?_
    refine nx_then ?_
    refine gw_seq ?_
    refine gw_region ?_
    refine wl_ov (ov_assign rfl) rfl ?_
    refine wl_nil ?_
    refine nx_then ?_
    refine gw_ret ?_
    refine nx_ret1 rfl rfl fun wx hm => ?_
    exact ⟨rfl, hm.g⟩

end Go.Proofs.YtljnekobfjpfaaaDoor
/- The walk of the law HiresAt. -/
namespace Go.Proofs.YtljnekobfjpfaaaDoor
open Go.RowKit

set_option maxRecDepth 100000 in
set_option maxHeartbeats 4000000 in
theorem at_walk (a0 : Option Addr) (len0 cap0 : Nat) (z0 : List Int) (w : World) (hR : RowIn w a0 len0 cap0 z0) :
    Calls Tryd.prog 8 #[.slice a0 len0 cap0] w fun e w' => e = .returned (.bool true) ∧ Below w.heap.size w w' := by
  refine gw_enter ⟨106, w, none, []⟩ Tryd.func8 rfl Tryd.ntmps8 rfl (mem0 (X := []) allF_nil allL_nil) ?_
  refine gw_seq ?_
  refine gw_region ?_
  refine wl_ov (ov_assign rfl) rfl ?_
  refine wl_nil ?_
  refine nx_then ?_
  refine gw_seq ?_
  refine gw_region ?_
  refine wl_ov (ov_move rfl) rfl ?_
  refine wl_ov (ov_build (cs := [.slice a0 len0 cap0, .int .i64 0]) rfl (by kernel_rfl)) rfl ?_
  refine wl_box rfl rfl rfl fun sb => ?_
  refine wl_ov (ov_assign rfl) rfl ?_
  refine wl_nil ?_
  refine nx_then ?_
  refine gw_seq ?_
  refine gw_region ?_
  refine wl_ov (ov_move rfl) rfl ?_
  refine wl_ov (ov_move rfl) rfl ?_
  refine wl_law [36, 138, 9] hR 0 rfl fun w1 B hg1 hsb => ?_
  refine wl_got (γ := Int) (val := fun v => .int .i64 v) (φ := fun v => 0 ≤ v ∧ (v ≤ 4 ∨ v = 0)) rfl cb68 rfl rfl rfl rfl (fun wx hm => (range_any _ _ wx B sb _ hm.k (by omega) (by omega) (by omega) (by omega) (by omega))) fun v1 hv1 => ?_
  obtain ⟨q, rfl⟩ := Int.eq_ofNat_of_zero_le hv1.1
  have hq4 : q ≤ 4 := by have := hv1.2; omega
  refine wl_calls (γ := Option Addr × Nat × Nat × List Hs) (val := (fun (g : Option Addr × Nat × Nat × List Hs) => .slice g.1 g.2.1 g.2.2.1)) (φ := (fun (g : Option Addr × Nat × Nat × List Hs) => (∀ h ∈ g.2.2.2, HsOk h) ∧ g.2.1 ≤ 5 ∧ g.2.1 ≤ g.2.2.1 ∧ g.2.2.2.length = g.2.1)) (Y := (fun (g : Option Addr × Nat × Nat × List Hs) => fun wy => SlT hsEnc 5 36 wy g.1 g.2.1 g.2.2.2 ∧ Legs g.2.2.2 wy)) (m' := 0 + 1 + 20000) rfl cb67 rfl rfl rfl rfl (fun wx hm => (ghires_any q wx B sb _ hm.k (by omega) hq4).mono fun _ _ ⟨A, n, c, hs, he, hsl, hlg, hok, hn5, hnc, hS, hg⟩ => ⟨(A, n, c, hs), he, ⟨hok, hn5, hnc, hsl.len⟩, hS, hg, ⟨hsl, hlg⟩⟩) (fun _ => (SlT.lasts2 rfl).and_ (Legs.lasts rfl)) ?_
  rintro ⟨A, n, c, hs⟩ hH
  dsimp only at hH ⊢
  obtain ⟨hok, hn5, hnc, hlen⟩ := hH
  refine wl_ov (ov_move rfl) rfl ?_
  refine wl_buildSlice (e := 9) (cs := [.string ⟨#[118, 49]⟩, .string ⟨#[118, 49]⟩, .string ⟨#[118, 50]⟩, .string ⟨#[118, 51]⟩, .string ⟨#[]⟩]) rfl (by kernel_rfl) rfl fun g2 => ?_
  refine wl_got (γ := ByteArray) (val := fun v => .string v) (φ := fun v => v ∈ ([⟨#[118, 49]⟩, ⟨#[118, 49]⟩, ⟨#[118, 50]⟩, ⟨#[118, 51]⟩, ⟨#[]⟩] : List ByteArray)) rfl cb12 rfl rfl rfl rfl (fun wx hm => (some_any [⟨#[118, 49]⟩, ⟨#[118, 49]⟩, ⟨#[118, 50]⟩, ⟨#[118, 51]⟩, ⟨#[]⟩] _ _ _ wx B sb _ hm.k (by omega) (by simp) (by simp) (hm.blkI 0 rfl) (hm.neRow 0 rfl rfl))) fun s3 hs3 => ?_
  have zs3 : s3.size ≤ 100 := mem_sz hs3 (by decide)
  refine wl_ov (ov_move rfl) rfl ?_
  refine wl_buildSlice (e := 3) (cs := [.int .i64 0, .int .i64 50, .int .i64 99, .int .i64 100, .int .i64 160, .int .i64 300, .int .i64 1000, .int .i64 1500, .int .i64 4000, .int .i64 (-1)]) rfl (by kernel_rfl) rfl fun g4 => ?_
  refine wl_got (γ := Int) (val := fun v => .int .i64 v) (φ := fun v => v ∈ ([0, 50, 99, 100, 160, 300, 1000, 1500, 4000, -1] : List Int)) rfl cb15 rfl rfl rfl rfl (fun wx hm => (pick_any [0, 50, 99, 100, 160, 300, 1000, 1500, 4000, -1] _ _ _ wx B sb _ hm.k (by omega) (by simp) (by simp) (hm.blkI 0 rfl) (hm.neRow 0 rfl rfl))) fun v5 hv5 => ?_
  have bv5 : -1 ≤ v5 ∧ v5 ≤ 4000 := mem_rng hv5 (by decide)
  have bv50 := bv5.1
  have bv51 := bv5.2
  clear bv5
  refine wl_ov (ov_assign rfl) rfl ?_
  refine wl_ov (ov_assign rfl) rfl ?_
  refine wl_ov (ov_assign rfl) rfl ?_
  refine wl_nil ?_
  refine nx_then ?_
  refine gw_seq ?_
  refine gw_region ?_
  refine wl_ov (ov_move rfl) rfl ?_
  refine wl_ov (ov_move rfl) rfl ?_
  refine wl_ov (ov_move rfl) rfl ?_
  obtain ⟨WV, hWV⟩ : ∃ W, W = (if withE hs s3 v5 = 0 then withV s3 v5 hs else (⟨#[]⟩, false)) := ⟨_, rfl⟩
  obtain ⟨OL, hOL⟩ : ∃ L, L = overOr (firstE [hiresE hs, momentE v5]) v5 hs := ⟨_, rfl⟩
  have hOLn : OL.length ≤ 5 := by
    rw [hOL]; unfold overOr; split
    · have := overL_len v5 hs; omega
    · simp
  refine wl_callv (v := .tuple #[.string WV.1, .bool WV.2, .int .i64 (firstE [hiresE hs, whenE (!keyB s3) 5, momentE v5])]) rfl cb69 rfl rfl (fun wx hm => (by rw [hWV]; exact with_any hs A n c s3 v5 wx (hm.fact 0 rfl).1 (hm.fact 0 rfl).2 hok (by omega) (by omega))) ?_
  refine wl_ov (ov_move rfl) rfl ?_
  refine wl_ov (ov_extract rfl rfl) rfl ?_
  refine wl_ov (ov_extract rfl rfl) rfl ?_
  refine wl_ov (ov_extract rfl rfl) rfl ?_
  refine wl_ov (ov_assign rfl) rfl ?_
  refine wl_ov (ov_assign rfl) rfl ?_
  refine wl_ov (ov_assign rfl) rfl ?_
  refine wl_nil ?_
  refine nx_then ?_
  refine gw_seq ?_
  refine gw_region ?_
  refine wl_ov (ov_move rfl) rfl ?_
  refine wl_ov (ov_move rfl) rfl ?_
  refine wl_callx (γ := Option Addr × Nat × Nat) (val := (fun (g : Option Addr × Nat × Nat) => .tuple #[.slice g.1 g.2.1 g.2.2, .int .i64 (firstE [hiresE hs, momentE v5])])) (φ := (fun (g : Option Addr × Nat × Nat) => OL.length = g.2.1)) (Y := (fun (g : Option Addr × Nat × Nat) => fun wy => SlT stEnc1 1 9 wy g.1 g.2.1 OL)) rfl cb70 rfl rfl (fun wx hm => (by rw [hOL]; exact (overdue_any hs A n c v5 wx (hm.fact 0 rfl).1 (hm.fact 0 rfl).2 hok (by omega)).mono fun _ _ ⟨A2, n2, c2, he, hg, hs⟩ => ⟨(A2, n2, c2), he, hs.len, hg, hs⟩)) (fun _ => SlT.lasts2 rfl) ?_
  rintro ⟨A2, n2, c2⟩ hn2
  dsimp only at hn2 ⊢
  refine wl_ov (ov_move rfl) rfl ?_
  refine wl_ov (ov_extract rfl rfl) rfl ?_
  refine wl_ov (ov_extract rfl rfl) rfl ?_
  refine wl_ov (ov_assign rfl) rfl ?_
  refine wl_ov (ov_assign rfl) rfl ?_
  refine wl_nil ?_
  refine nx_then ?_
  refine gw_seq ?_
  refine gw_region ?_
  refine wl_ov (ov_move rfl) rfl ?_
  refine wl_callv rfl cb71 rfl rfl (fun wx hm => (hiresFault_any hs A n c wx (hm.fact 1 rfl).1 (hm.fact 1 rfl).2 hok (by omega))) ?_
  refine wl_ov (ov_move rfl) rfl ?_
  refine wl_callv rfl cb51 rfl rfl (fun wx hm => (keyFault_any s3 wx (by omega))) ?_
  refine wl_ov (ov_move rfl) rfl ?_
  refine wl_callv rfl cb30 rfl rfl (fun wx hm => (momentFault_any v5 wx)) ?_
  refine wl_buildSlice (e := 37) (cs := [.int .i64 (hiresE hs), .int .i64 (whenE (!keyB s3) 5), .int .i64 (momentE v5)]) rfl (by kernel_rfl) rfl fun g6 => ?_
  refine wl_callw rfl cb27 rfl rfl (fun wx hm => (errs_any [hiresE hs, whenE (!keyB s3) 5, momentE v5] _ _ _ wx (hm.blkI 0 rfl) (by simp))) ?_
  refine wl_ov (ov_assign rfl) rfl ?_
  refine wl_nil ?_
  refine nx_then ?_
  refine gw_seq ?_
  refine gw_region ?_
  refine wl_ov (ov_move rfl) rfl ?_
  refine wl_callv rfl cb71 rfl rfl (fun wx hm => (hiresFault_any hs A n c wx (hm.fact 1 rfl).1 (hm.fact 1 rfl).2 hok (by omega))) ?_
  refine wl_ov (ov_move rfl) rfl ?_
  refine wl_callv rfl cb30 rfl rfl (fun wx hm => (momentFault_any v5 wx)) ?_
  refine wl_buildSlice (e := 37) (cs := [.int .i64 (hiresE hs), .int .i64 (momentE v5)]) rfl (by kernel_rfl) rfl fun g7 => ?_
  refine wl_callw rfl cb27 rfl rfl (fun wx hm => (errs_any [hiresE hs, momentE v5] _ _ _ wx (hm.blkI 0 rfl) (by simp))) ?_
  refine wl_ov (ov_assign rfl) rfl ?_
  refine wl_nil ?_
  refine nx_then ?_
  refine gw_seq ?_
  refine gw_seq ?_
  refine gw_region ?_
  refine wl_ov (ov_move rfl) rfl ?_
  refine wl_ov (ov_move rfl) rfl ?_
  refine wl_ov (ov_neq rfl rfl) rfl ?_
  refine wl_set 59 (v' := .bool false) rfl (congrArg Value.bool (by simp)) ?_
  refine wl_ov (ov_move rfl) rfl ?_
  refine wl_guard_on rfl rfl rfl ?_
  refine wl_ov (ov_move rfl) rfl ?_
  refine wl_guard_on rfl rfl rfl ?_
  refine wl_ov (ov_move rfl) rfl ?_
  refine wl_guard_on rfl rfl rfl ?_
  refine wl_ov (ov_neq rfl rfl) rfl ?_
  refine wl_set 63 (v' := .bool false) rfl (congrArg Value.bool (by simp)) ?_
  refine wl_ov (ov_pick_f rfl rfl) rfl ?_
  refine wl_ov (ov_move rfl) rfl ?_
  refine wl_guard_on rfl rfl rfl ?_
  refine wl_ov (ov_move rfl) rfl ?_
  refine wl_guard_on rfl rfl rfl ?_
  refine wl_ov (ov_neq rfl rfl) rfl ?_
  refine wl_guard_on rfl rfl rfl ?_
  refine wl_ov (ov_move rfl) rfl ?_
  rcases Bool.eq_false_or_eq_true (!decide (firstE [hiresE hs, momentE v5] = 0)) with hb | hb
  · refine wl_set 68 rfl (congrArg Value.bool hb) ?_
    have hEO : ¬ firstE [hiresE hs, momentE v5] = 0 := by simpa using hb
    have hn0 : n2 = 0 := by rw [← hn2, hOL]; unfold overOr; rw [if_neg hEO]; rfl
    refine wl_guard_on rfl rfl rfl ?_
    refine wl_ov (ov_move rfl) rfl ?_
    refine wl_guard_on rfl rfl rfl ?_
    refine wl_ov (ov_len es103 rfl) rfl ?_
    refine wl_guard_on rfl rfl rfl ?_
    refine wl_ov (ov_gtr rfl rfl) rfl ?_
    refine wl_set 71 (v' := .bool false) rfl (congrArg Value.bool (decide_eq_false (by omega))) ?_
    refine wl_guard_on rfl rfl rfl ?_
    refine wl_ov (ov_pick_t rfl rfl) rfl ?_
    refine wl_ov (ov_pick_f rfl rfl) rfl ?_
    refine wl_ov (ov_move rfl) rfl ?_
    refine wl_guard_on rfl rfl rfl ?_
    refine wl_ov (ov_move rfl) rfl ?_
    refine wl_guard_on rfl rfl rfl ?_
    refine wl_ov (ov_eql rfl rfl) rfl ?_
    refine wl_set 76 (v' := .bool false) rfl (congrArg Value.bool (decide_eq_false hEO)) ?_
    refine wl_guard_on rfl rfl rfl ?_
    refine wl_ov (ov_move rfl) rfl ?_
    refine wl_guard_off rfl rfl rfl (by decide) rfl ?_
    refine wl_guard_off rfl rfl rfl (by decide) rfl ?_
    refine wl_guard_off rfl rfl rfl (by decide) rfl ?_
    refine wl_guard_off rfl rfl rfl (by decide) rfl ?_
    refine wl_guard_off rfl rfl rfl (by decide) rfl ?_
    refine wl_guard_off rfl rfl rfl (by decide) rfl ?_
    refine wl_guard_on rfl rfl rfl ?_
    refine wl_ov (ov_pick_f rfl rfl) rfl ?_
    refine wl_ov (ov_pick_f rfl rfl) rfl ?_
    refine wl_nil ?_
    refine nx_then ?_
    refine gw_cond rfl (fun hh => by cases hh) (fun _ => ?_)
    refine gw_skip ?_
    refine nx_then ?_
    refine gw_seq ?_
    refine gw_region ?_
    refine wl_ov (ov_assign rfl) rfl ?_
    refine wl_ov (ov_assign rfl) rfl ?_
    refine wl_nil ?_
    refine nx_then ?_
    refine gw_seq ?_
    refine gw_seq ?_
    refine gw_region ?_
    refine wl_ov (ov_move rfl) rfl ?_
    refine wl_ov (ov_eql rfl rfl) rfl ?_
    refine wl_nil ?_
    refine nx_then ?_
    refine gw_cond rfl (fun hh => ?_) (fun hh => ?_)
    · have hEW : firstE [hiresE hs, whenE (!keyB s3) 5, momentE v5] = 0 := by simpa using hh
      clear hh
      refine gw_region ?_
      have hzw := firstE_all hEW
      have hhr := hiresE_ok (hzw (hiresE hs) (by simp))
      have hW2 : WV = withV s3 v5 hs := by rw [hWV]; exact if_pos (show withE hs s3 v5 = 0 from hEW)
      refine wl_ov (ov_move rfl) rfl ?_
      refine wl_ov (ov_move rfl) rfl ?_
      refine wl_ov (ov_move rfl) rfl ?_
      refine wl_callv rfl cb74 rfl rfl (fun wx hm => (hireWith_any hs A n c s3 v5 wx (hm.fact 1 rfl).1 (hm.fact 1 rfl).2 hok hhr)) ?_
      refine wl_ov (ov_move rfl) rfl ?_
      refine wl_ov (ov_extract rfl rfl) rfl ?_
      refine wl_ov (ov_extract rfl rfl) rfl ?_
      refine wl_ov (ov_assign rfl) rfl ?_
      refine wl_ov (ov_assign rfl) rfl ?_
      refine wl_nil ?_
      refine nx_then ?_
      refine gw_seq ?_
      refine gw_region ?_
      refine wl_ov (ov_move rfl) rfl ?_
      refine wl_ov (ov_move rfl) rfl ?_
      refine wl_ov (ov_seql rfl rfl) rfl ?_
      refine wl_set 97 (v' := .bool true) rfl (congrArg Value.bool (by rw [hW2]; simp)) ?_
      refine wl_ov (ov_move rfl) rfl ?_
      refine wl_guard_on rfl rfl rfl ?_
      refine wl_ov (ov_move rfl) rfl ?_
      refine wl_guard_on rfl rfl rfl ?_
      refine wl_ov (ov_move rfl) rfl ?_
      refine wl_guard_on rfl rfl rfl ?_
      refine wl_ov (ov_beql (by kernel_rfl) rfl rfl) rfl ?_
      refine wl_set 101 (v' := .bool true) rfl (congrArg Value.bool (by rw [hW2]; simp)) ?_
      refine wl_ov (ov_pick_t rfl rfl) rfl ?_
      refine wl_ov (ov_move rfl) rfl ?_
      refine wl_guard_on rfl rfl rfl ?_
      refine wl_callv rfl cb19 rfl rfl (fun wx hm => (hired_any wx)) ?_
      refine wl_ov (ov_pick_t rfl rfl) rfl ?_
      refine wl_ov (ov_assign rfl) rfl ?_
      refine wl_nil ?_
      refine nx_then ?_
      refine gw_ret ?_
      refine nx_ret1 rfl rfl fun wx hm => ?_
      exact ⟨rfl, law_end hg1 hsb hm.g⟩
    · have hEW : ¬ (firstE [hiresE hs, whenE (!keyB s3) 5, momentE v5] = 0) := by simpa using hh
      clear hh
      refine gw_skip ?_
      refine nx_then ?_
      refine gw_seq ?_
      refine gw_region ?_
      have hW2 : WV = (⟨#[]⟩, false) := by rw [hWV]; exact if_neg (show ¬ withE hs s3 v5 = 0 from hEW)
      refine wl_ov (ov_move rfl) rfl ?_
      refine wl_ov (ov_move rfl) rfl ?_
      refine wl_ov (ov_seql rfl rfl) rfl ?_
      refine wl_set 97 (v' := .bool true) rfl (congrArg Value.bool (by rw [hW2]; simp)) ?_
      refine wl_ov (ov_move rfl) rfl ?_
      refine wl_guard_on rfl rfl rfl ?_
      refine wl_ov (ov_move rfl) rfl ?_
      refine wl_guard_on rfl rfl rfl ?_
      refine wl_ov (ov_move rfl) rfl ?_
      refine wl_guard_on rfl rfl rfl ?_
      refine wl_ov (ov_beql (by kernel_rfl) rfl rfl) rfl ?_
      refine wl_set 101 (v' := .bool true) rfl (congrArg Value.bool (by rw [hW2]; rfl)) ?_
      refine wl_ov (ov_pick_t rfl rfl) rfl ?_
      refine wl_ov (ov_move rfl) rfl ?_
      refine wl_guard_on rfl rfl rfl ?_
      refine wl_callv rfl cb19 rfl rfl (fun wx hm => (hired_any wx)) ?_
      refine wl_ov (ov_pick_t rfl rfl) rfl ?_
      refine wl_ov (ov_assign rfl) rfl ?_
      refine wl_nil ?_
      refine nx_then ?_
      refine gw_ret ?_
      refine nx_ret1 rfl rfl fun wx hm => ?_
      exact ⟨rfl, law_end hg1 hsb hm.g⟩
  · refine wl_set 68 rfl (congrArg Value.bool hb) ?_
    have hEO : firstE [hiresE hs, momentE v5] = 0 := by simpa using hb
    have hzo := firstE_all hEO
    have hhr := hiresE_ok (hzo (hiresE hs) (by simp))
    refine wl_guard_off rfl rfl rfl (by decide) rfl ?_
    refine wl_guard_off rfl rfl rfl (by decide) rfl ?_
    refine wl_guard_off rfl rfl rfl (by decide) rfl ?_
    refine wl_guard_on rfl rfl rfl ?_
    refine wl_ov (ov_pick_f rfl rfl) rfl ?_
    refine wl_ov (ov_pick_f rfl rfl) rfl ?_
    refine wl_ov (ov_move rfl) rfl ?_
    refine wl_guard_on rfl rfl rfl ?_
    refine wl_ov (ov_move rfl) rfl ?_
    refine wl_guard_on rfl rfl rfl ?_
    refine wl_ov (ov_eql rfl rfl) rfl ?_
    refine wl_set 76 (v' := .bool true) rfl (congrArg Value.bool (decide_eq_true hEO)) ?_
    refine wl_guard_on rfl rfl rfl ?_
    refine wl_ov (ov_move rfl) rfl ?_
    refine wl_guard_on rfl rfl rfl ?_
    refine wl_ov (ov_move rfl) rfl ?_
    refine wl_guard_on rfl rfl rfl ?_
    refine wl_ov (ov_move rfl) rfl ?_
    refine wl_guard_on rfl rfl rfl ?_
    refine wl_ov (ov_move rfl) rfl ?_
    refine wl_guard_on rfl rfl rfl ?_
    refine wl_callx (γ := Option Addr × Nat × Nat) (val := (fun (g : Option Addr × Nat × Nat) => .slice g.1 g.2.1 g.2.2)) (φ := (fun (g : Option Addr × Nat × Nat) => (overL v5 hs).length = g.2.1)) (Y := (fun (g : Option Addr × Nat × Nat) => fun wy => SlT stEnc1 1 9 wy g.1 g.2.1 (overL v5 hs))) rfl cb73 rfl rfl (fun wx hm => (overdueOf_any hs A n c v5 wx (hm.fact 1 rfl).1 (hm.fact 1 rfl).2 hok hhr).mono fun _ _ ⟨A2, n2, c2, he, hg, hs⟩ => ⟨(A2, n2, c2), he, hs.len, hg, hs⟩) (fun _ => SlT.lasts2 rfl) ?_
    rintro ⟨A3, n3, c3⟩ hn3
    dsimp only at hn3 ⊢
    replace hn3 : n3 = n2 := by rw [← hn3, ← hn2, hOL]; unfold overOr; rw [if_pos hEO]
    refine wl_guard_on rfl rfl rfl ?_
    refine wl_callv (v := .bool true) rfl cb72 rfl rfl (fun wx hm => (by subst hn3; exact equal_strings_any (overL v5 hs) A2 A3 n3 c2 c3 wx (by have h := (hm.fact 1 rfl); rw [hOL, show overOr (firstE [hiresE hs, momentE v5]) v5 hs = overL v5 hs from if_pos hEO] at h; exact h) (hm.fact 0 rfl) (by omega))) ?_
    refine wl_guard_on rfl rfl rfl ?_
    refine wl_ov (ov_un_not rfl) rfl ?_
    refine wl_set 83 (v' := .bool false) rfl (congrArg Value.bool (by decide)) ?_
    refine wl_guard_on rfl rfl rfl ?_
    refine wl_ov (ov_pick_t rfl rfl) rfl ?_
    refine wl_ov (ov_pick_f rfl rfl) rfl ?_
    refine wl_nil ?_
    refine nx_then ?_
    refine gw_cond rfl (fun hh => by cases hh) (fun _ => ?_)
    refine gw_skip ?_
    refine nx_then ?_
    refine gw_seq ?_
    refine gw_region ?_
    refine wl_ov (ov_assign rfl) rfl ?_
    refine wl_ov (ov_assign rfl) rfl ?_
    refine wl_nil ?_
    refine nx_then ?_
    refine gw_seq ?_
    refine gw_seq ?_
    refine gw_region ?_
    refine wl_ov (ov_move rfl) rfl ?_
    refine wl_ov (ov_eql rfl rfl) rfl ?_
    refine wl_nil ?_
    refine nx_then ?_
    refine gw_cond rfl (fun hh => ?_) (fun hh => ?_)
    · have hEW : firstE [hiresE hs, whenE (!keyB s3) 5, momentE v5] = 0 := by simpa using hh
      clear hh
      refine gw_region ?_
      have hzw := firstE_all hEW
      have hhr := hiresE_ok (hzw (hiresE hs) (by simp))
      have hW2 : WV = withV s3 v5 hs := by rw [hWV]; exact if_pos (show withE hs s3 v5 = 0 from hEW)
      refine wl_ov (ov_move rfl) rfl ?_
      refine wl_ov (ov_move rfl) rfl ?_
      refine wl_ov (ov_move rfl) rfl ?_
      refine wl_callv rfl cb74 rfl rfl (fun wx hm => (hireWith_any hs A n c s3 v5 wx (hm.fact 2 rfl).1 (hm.fact 2 rfl).2 hok hhr)) ?_
      refine wl_ov (ov_move rfl) rfl ?_
      refine wl_ov (ov_extract rfl rfl) rfl ?_
      refine wl_ov (ov_extract rfl rfl) rfl ?_
      refine wl_ov (ov_assign rfl) rfl ?_
      refine wl_ov (ov_assign rfl) rfl ?_
      refine wl_nil ?_
      refine nx_then ?_
      refine gw_seq ?_
      refine gw_region ?_
      refine wl_ov (ov_move rfl) rfl ?_
      refine wl_ov (ov_move rfl) rfl ?_
      refine wl_ov (ov_seql rfl rfl) rfl ?_
      refine wl_set 97 (v' := .bool true) rfl (congrArg Value.bool (by rw [hW2]; simp)) ?_
      refine wl_ov (ov_move rfl) rfl ?_
      refine wl_guard_on rfl rfl rfl ?_
      refine wl_ov (ov_move rfl) rfl ?_
      refine wl_guard_on rfl rfl rfl ?_
      refine wl_ov (ov_move rfl) rfl ?_
      refine wl_guard_on rfl rfl rfl ?_
      refine wl_ov (ov_beql (by kernel_rfl) rfl rfl) rfl ?_
      refine wl_set 101 (v' := .bool true) rfl (congrArg Value.bool (by rw [hW2]; simp)) ?_
      refine wl_ov (ov_pick_t rfl rfl) rfl ?_
      refine wl_ov (ov_move rfl) rfl ?_
      refine wl_guard_on rfl rfl rfl ?_
      refine wl_callv rfl cb19 rfl rfl (fun wx hm => (hired_any wx)) ?_
      refine wl_ov (ov_pick_t rfl rfl) rfl ?_
      refine wl_ov (ov_assign rfl) rfl ?_
      refine wl_nil ?_
      refine nx_then ?_
      refine gw_ret ?_
      refine nx_ret1 rfl rfl fun wx hm => ?_
      exact ⟨rfl, law_end hg1 hsb hm.g⟩
    · have hEW : ¬ (firstE [hiresE hs, whenE (!keyB s3) 5, momentE v5] = 0) := by simpa using hh
      clear hh
      refine gw_skip ?_
      refine nx_then ?_
      refine gw_seq ?_
      refine gw_region ?_
      have hW2 : WV = (⟨#[]⟩, false) := by rw [hWV]; exact if_neg (show ¬ withE hs s3 v5 = 0 from hEW)
      refine wl_ov (ov_move rfl) rfl ?_
      refine wl_ov (ov_move rfl) rfl ?_
      refine wl_ov (ov_seql rfl rfl) rfl ?_
      refine wl_set 97 (v' := .bool true) rfl (congrArg Value.bool (by rw [hW2]; simp)) ?_
      refine wl_ov (ov_move rfl) rfl ?_
      refine wl_guard_on rfl rfl rfl ?_
      refine wl_ov (ov_move rfl) rfl ?_
      refine wl_guard_on rfl rfl rfl ?_
      refine wl_ov (ov_move rfl) rfl ?_
      refine wl_guard_on rfl rfl rfl ?_
      refine wl_ov (ov_beql (by kernel_rfl) rfl rfl) rfl ?_
      refine wl_set 101 (v' := .bool true) rfl (congrArg Value.bool (by rw [hW2]; rfl)) ?_
      refine wl_ov (ov_pick_t rfl rfl) rfl ?_
      refine wl_ov (ov_move rfl) rfl ?_
      refine wl_guard_on rfl rfl rfl ?_
      refine wl_callv rfl cb19 rfl rfl (fun wx hm => (hired_any wx)) ?_
      refine wl_ov (ov_pick_t rfl rfl) rfl ?_
      refine wl_ov (ov_assign rfl) rfl ?_
      refine wl_nil ?_
      refine nx_then ?_
      refine gw_ret ?_
      refine nx_ret1 rfl rfl fun wx hm => ?_
      exact ⟨rfl, law_end hg1 hsb hm.g⟩

end Go.Proofs.YtljnekobfjpfaaaDoor
