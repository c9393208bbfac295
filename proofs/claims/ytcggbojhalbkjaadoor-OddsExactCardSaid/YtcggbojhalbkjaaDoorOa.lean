/- The odds of a number of those who come: spread, over, Over, Spread, less. -/
import Derived.Test.YtcggbojhalbkjaaDoorSp
import Derived.Test.YtcggbojhalbkjaaDoorOp
import Derived.Test.YtcggbojhalbkjaaDoorSv
import Derived.Test.YtcggbojhalbkjaaDoorSz
import Derived.Test.YtcggbojhalbkjaaDoorTw
namespace Go.Proofs.YtcggbojhalbkjaaDoor
open Go.RowKit

def ntEnc (z : Nat) : List Value := [.int .i64 (z : Int)]
theorem nt_len (z : Nat) : (ntEnc z).length = 1 := rfl
def pcs (l : List Bk) : List Nat := l.map (fun b => b.odds.toNat)
def PcOk (l : List Bk) : Prop := ∀ b ∈ l, 0 ≤ b.odds ∧ b.odds ≤ 100
theorem pcs_le {l : List Bk} (h : PcOk l) : ∀ P ∈ pcs l, P ≤ 100 := fun P hP => by
  unfold pcs at hP
  obtain ⟨b, hb, rfl⟩ := List.mem_map.1 hP
  have := h b hb; omega
theorem pcs_len (l : List Bk) : (pcs l).length = l.length := by unfold pcs; simp
theorem pcs_at {l : List Bk} {i : Nat} {b : Bk} (h : l[i]? = some b) : (pcs l)[i]? = some b.odds.toNat := by unfold pcs; simp [h]
theorem pow_le (i : Nat) (h : i ≤ 9) : 1 ≤ 100 ^ i ∧ 100 ^ i ≤ 1000000000000000000 ∧ (i ≤ 8 → 100 ^ i ≤ 10000000000000000) := by
  match i with
  | 0 | 1 | 2 | 3 | 4 | 5 | 6 | 7 | 8 | 9 => exact ⟨by decide, by decide, fun _ => by first | decide | omega⟩
  | n + 10 => omega
theorem part_cast {x P y : Nat} (h : P ≤ 100) (hy : y = x * (100 - P)) : (x : Int) * (100 - (P : Int)) = (y : Int) := by
  rw [hy, Int.natCast_mul, Int.natCast_sub h]; rfl
theorem part_cast2 {x P y : Nat} (hy : y = x * P) : (x : Int) * (P : Int) = (y : Int) := by rw [hy, Int.natCast_mul]
theorem pow_cast (i : Nat) : (100 : Int) * ((100 ^ i : Nat) : Int) = ((100 ^ (i + 1) : Nat) : Int) := by rw [Nat.pow_succ, Int.natCast_mul, Int.mul_comm]; rfl

set_option maxRecDepth 100000 in
set_option maxHeartbeats 1000000 in
theorem spread_any (l : List Bk) (A : Option Addr) (n c : Nat) (w : World) (hl : SlT bkEnc 6 33 w A n l) (hpc : PcOk l) (hn : n ≤ 9) :
    Calls Tryd.prog 50 #[.slice A n c] w (fun e w' => ∃ A2 c2, e = .returned (.tuple #[.slice A2 (n + 1) c2, .int .i64 ((100 ^ n : Nat) : Int)]) ∧ SlT ntEnc 1 3 w' A2 (n + 1) (spreadP (pcs l)) ∧ w.grownBy w' none) := by
  refine gw_enter ⟨58, w, none, []⟩ Tryd.func50 rfl Tryd.ntmps50 rfl (mem0 (X := [SlOld bkEnc 6 33 w.heap.size none A n l]) (allF_cons hl.old allF_nil) (allL_cons SlOld.lasts allL_nil)) ?_
  refine gw_seq ?_
  refine gw_region ?_
  have hlen := hl.len
  obtain ⟨pl, hpl⟩ : ∃ p, p = pcs l := ⟨_, rfl⟩
  have hp100 : ∀ P ∈ pl, P ≤ 100 := by rw [hpl]; exact pcs_le hpc
  have hpn : pl.length = n := by rw [hpl, pcs_len, hlen]
  rw [← hpl]
  refine wl_ov (ov_assign rfl) rfl ?_
  refine wl_ov (ov_assign rfl) rfl ?_
  refine wl_nil ?_
  refine nx_then ?_
  refine gw_seq ?_
  refine gw_region ?_
  refine wl_buildSlice (e := 3) (cs := [.int .i64 1]) rfl (by kernel_rfl) rfl fun g1 => ?_
  refine wl_ov (ov_assign rfl) rfl ?_
  refine wl_ov (ov_assign rfl) rfl ?_
  refine wl_nil ?_
  refine nx_then ?_
  refine gw_seq ?_
  refine gw_seq ?_
  refine gw_region ?_
  refine wl_ov (ov_move rfl) rfl ?_
  refine wl_ov (ov_len es26 rfl) rfl ?_
  refine wl_ov (ov_move rfl) rfl ?_
  refine wl_nil ?_
  refine nx_then ?_
  refine gw_block ?_
  refine gw_toOwn (sz := 1) (n := 1) 0 [] rfl rfl rfl (by unfold maxLen; omega) ?_
  refine gw_loop (γ := Nat × Value) (fun (g : Nat × Value) => g.1 ≤ n) (fun (g : Nat × Value) => [(2, .slice none 0 0), (3, .int .i64 0), (4, g.2), (5, .int .i64 ((100 ^ g.1 : Nat) : Int)), (12, .slice A n c), (13, .int .i64 ((n : Nat) : Int)), (14, .int .i64 ((g.1 : Nat) : Int))]) (fun (g : Nat × Value) => fun _ => True) (fun (g : Nat × Value) => []) (fun (g : Nat × Value) => [⟨g.2, 3, 1, (g.1 + 1), (spreadP (pl.take g.1)).flatMap ntEnc⟩]) (fun (g : Nat × Value) => [SlOld bkEnc 6 33 w.heap.size none A n l]) (fun (g : Nat × Value) => n - g.1) (0, .slice (some ⟨g1, 0, none⟩) 1 1) (Nat.zero_le _) ⟨rfl, rfl, rfl, (some_int rfl), rfl, rfl, rfl, trivial⟩ (fun _ hm => hm.pick [] [0] [0] rfl rfl) ?_
  rintro ⟨i, v⟩ hinv
  replace hinv : i ≤ n := hinv
  dsimp only
  refine gw_seq ?_
  refine gw_region ?_
  refine wl_look (R := ∃ A cc, v = .slice A (i + 1) cc) (fun wx hm => own_slice (hm.ownI 0 rfl)) ?_
  rintro ⟨A2, c2, rfl⟩
  refine wl_ov (ov_lss rfl rfl) rfl ?_
  refine wl_nil ?_
  refine nx_then ?_
  refine gw_seq ?_
  refine gw_cond rfl (fun hh => ?_) (fun hh => ?_)
  · have hi : ((i : Nat) : Int) < ((n : Nat) : Int) := by simpa using hh
    clear hh
    refine gw_skip ?_
    refine nx_then ?_
    refine gw_seq ?_
    refine gw_block ?_
    refine gw_seq ?_
    refine gw_region ?_
    obtain ⟨b, off, hA, _, _⟩ := hl.get (by omega)
    subst hA
    obtain ⟨x, hx⟩ : ∃ x, l[i]? = some x := ⟨_, List.getElem?_eq_getElem (by omega)⟩
    have hpx := pcs_at hx
    rw [← hpl] at hpx
    have hod := hpc _ (List.mem_of_getElem? hx)
    obtain ⟨ke, cl, fr, tt, md, od⟩ := x
    obtain ⟨hod0, hod1⟩ : 0 ≤ od ∧ od ≤ 100 := hod
    obtain ⟨P, rfl⟩ := Int.eq_ofNat_of_zero_le hod0
    have hP : P ≤ 100 := by omega
    have hpx : pl[i]? = some P := hpx
    have hst := spreadP_take hpx
    have hDl := spreadP_len pl i (by omega)
    have hDs := spreadP_sum hp100 i (by omega)
    obtain ⟨D, hD⟩ : ∃ D, D = spreadP (pl.take i) := ⟨_, rfl⟩
    rw [← hD] at hst hDl hDs ⊢
    obtain ⟨hw1, hw2, hw3⟩ := pow_le i (by omega)
    have hw4 := hw3 (by omega)
    have hDb : ∀ y ∈ D, y ≤ 10000000000000000 := fun y hy => by have := mem_sum_le hy; omega
    have hDM : ∀ y ∈ D, y * P ≤ 1000000000000000000 := fun y hy => by
      have h1 := Nat.mul_le_mul (hDb y hy) hP
      omega
    refine wl_ov (ov_index (j := i) es26 rfl rfl (by omega)) rfl ?_
    refine wl_ov (ov_elem (vs := [.string ke, .string cl, .int .i64 fr, .int .i64 tt, .int .i64 md, .int .i64 ((P : Nat) : Int)]) rz33 rfl (fun _ hm => (hm.fact 0 rfl).1) hx rfl rfl) rfl ?_
    refine wl_alloc zc33 rfl fun g2 => ?_
    refine wl_stores (cs' := [.string ke, .string cl, .int .i64 fr, .int .i64 tt, .int .i64 md, .int .i64 ((P : Nat) : Int)]) 0 rz33 rfl rfl rfl rfl rfl rfl rfl rfl ?_
    refine wl_nil ?_
    refine nx_then ?_
    refine gw_seq ?_
    refine gw_region ?_
    refine wl_ov (ov_move rfl) rfl ?_
    refine wl_ov (ov_len es22 rfl) rfl ?_
    refine wl_ov (ov_add rfl rfl (by omega) (by omega)) rfl ?_
    refine wl_set 20 (v' := .int .i64 ((i + 2 : Nat) : Int)) rfl (congrArg (Value.int .i64) (by omega)) ?_
    refine wl_makeO (n := (i + 2)) (sz := 1) (e := 3) (by_ := 8) (z := .int .i64 0) (by kernel_rfl) (by kernel_rfl) rfl rfl (by omega) (by omega) (by omega) (by unfold maxLen; omega) (made_flat (enc := ntEnc) (x := 0) rfl rfl (by decide) (i + 2)) rfl fun g3 => ?_
    refine wl_look (R := ∃ g, A2 = some ⟨g, 0, none⟩) (fun wx hm => own_addr (hm.ownI 1 rfl) (by omega)) ?_
    rintro ⟨bD, rfl⟩
    refine wl_ov (ov_assign rfl) rfl ?_
    refine wl_nil ?_
    refine nx_then ?_
    refine gw_seq ?_
    refine gw_seq ?_
    refine gw_region ?_
    refine wl_ov (ov_move rfl) rfl ?_
    refine wl_ov (ov_len es22 rfl) rfl ?_
    refine wl_ov (ov_move rfl) rfl ?_
    refine wl_nil ?_
    refine nx_then ?_
    refine gw_block ?_
    refine gw_loop (γ := Nat × List Nat) (fun (g : Nat × List Nat) => g.1 ≤ i + 1 ∧ g.2.length = i + 2 ∧ g.2 = nextC P 0 (D.take g.1) ++ List.replicate (i + 1 - g.1) 0) (fun (g : Nat × List Nat) => [(2, .slice none 0 0), (3, .int .i64 0), (4, .slice (some ⟨bD, 0, none⟩) (i + 1) c2), (5, .int .i64 ((100 ^ i : Nat) : Int)), (7, .pointer (some ⟨g2, 0, none⟩)), (8, .slice (some ⟨g3, 0, none⟩) (i + 2) (i + 2)), (12, .slice (some ⟨b, off, none⟩) n c), (13, .int .i64 ((n : Nat) : Int)), (14, .int .i64 ((i : Nat) : Int)), (22, .slice (some ⟨bD, 0, none⟩) (i + 1) c2), (23, .int .i64 (((i + 1) : Nat) : Int)), (24, .int .i64 ((g.1 : Nat) : Int))]) (fun (g : Nat × List Nat) => fun _ => True) (fun (g : Nat × List Nat) => [(g2, 33, [.string ke, .string cl, .int .i64 fr, .int .i64 tt, .int .i64 md, .int .i64 ((P : Nat) : Int)])]) (fun (g : Nat × List Nat) => [⟨.slice (some ⟨g3, 0, none⟩) (i + 2) (i + 2), 3, 1, (i + 2), g.2.flatMap ntEnc⟩, ⟨.slice (some ⟨bD, 0, none⟩) (i + 1) c2, 3, 1, (i + 1), D.flatMap ntEnc⟩]) (fun (g : Nat × List Nat) => [SlOld bkEnc 6 33 w.heap.size none (some ⟨b, off, none⟩) n l]) (fun (g : Nat × List Nat) => i + 1 - g.1) (0, List.replicate (i + 2) 0) ⟨Nat.zero_le _, by simp, by simp [nextC, List.replicate_succ]⟩ ⟨rfl, rfl, rfl, rfl, rfl, rfl, rfl, rfl, rfl, rfl, rfl, rfl, trivial⟩ (fun _ hm => hm.pick [0] [0, 1] [0] rfl rfl) ?_
    rintro ⟨k, E⟩ hinv
    replace hinv : k ≤ i + 1 ∧ E.length = i + 2 ∧ E = nextC P 0 (D.take k) ++ List.replicate (i + 1 - k) 0 := hinv
    dsimp only
    refine gw_seq ?_
    refine gw_region ?_
    obtain ⟨hk0, hEl, hE⟩ := hinv
    refine wl_ov (ov_lss rfl rfl) rfl ?_
    refine wl_nil ?_
    refine nx_then ?_
    refine gw_seq ?_
    refine gw_cond rfl (fun hh => ?_) (fun hh => ?_)
    · have hk : ((k : Nat) : Int) < (((i + 1) : Nat) : Int) := by simpa using hh
      clear hh
      refine gw_skip ?_
      refine nx_then ?_
      refine gw_seq ?_
      refine gw_block ?_
      refine gw_seq ?_
      refine gw_region ?_
      obtain ⟨x, hxD⟩ : ∃ x, D[k]? = some x := ⟨_, List.getElem?_eq_getElem (by omega)⟩
      have hxb := hDb x (List.mem_of_getElem? hxD)
      obtain ⟨z0, hz0⟩ : ∃ z : Nat, z = 0 := ⟨_, rfl⟩
      obtain ⟨e0, he, heb, hz, hfin⟩ := next_at (x := x) (k := k) hz0 hDl (by omega) hxD hDM hE
      obtain ⟨y, hy⟩ : ∃ y, y = x * (100 - P) := ⟨_, rfl⟩
      obtain ⟨z, hzz⟩ : ∃ z, z = x * P := ⟨_, rfl⟩
      have hyb : y ≤ 1000000000000000000 := by
        have h1 := Nat.mul_le_mul hxb (show 100 - P ≤ 100 by omega)
        omega
      have hzb : z ≤ 1000000000000000000 := by
        have h1 := Nat.mul_le_mul hxb hP
        omega
      have hyc := part_cast hP hy
      have hzc := part_cast2 hzz
      rw [← hy] at hz hfin
      rw [← hzz] at hfin
      refine wl_ov (ov_move rfl) rfl ?_
      refine wl_ov (ov_index (j := k) es22 rfl rfl (by omega)) rfl ?_
      refine wl_ov (ov_elem1 (k := 0) (v := .int .i64 ((x : Nat) : Int)) sc3 rfl (fun _ hm => (SlT.ofOwn nt_len (hm.ownI 1 rfl) hDl)) hxD rfl rfl) rfl ?_
      refine wl_ov (ov_assign rfl) rfl ?_
      refine wl_ov (ov_assign rfl) rfl ?_
      refine wl_nil ?_
      refine nx_then ?_
      refine gw_seq ?_
      refine gw_draw (fun wz => Blk wz g2 33 [.string ke, .string cl, .int .i64 fr, .int .i64 tt, .int .i64 md, .int .i64 ((P : Nat) : Int)] ∧ (SlOld bkEnc 6 33 w.heap.size none (some ⟨b, off, none⟩) n l) wz ∧ True) mixed ?_
      refine wa_take 0 rfl (by kernel_rfl) (by kernel_rfl) (by kernel_rfl) (listed' := #[true, false, false, false, false, false, false, false, false, false, false, false]) rfl (fun _ _ _ h => h) (fun _ hm => ⟨hm.blkI 0 rfl, hm.fact 0 rfl, trivial⟩) (ov_move rfl) rfl ?_
      refine wa_take 1 rfl (by kernel_rfl) (by kernel_rfl) (by kernel_rfl) (listed' := #[true, true, false, false, false, false, false, false, false, false, false, false]) rfl (fun _ _ _ h => h) (fun _ hm => ⟨hm.blkI 0 rfl, hm.fact 0 rfl, trivial⟩) (ov_move rfl) rfl ?_
      refine wa_take 2 rfl (by kernel_rfl) (by kernel_rfl) (by kernel_rfl) (listed' := #[true, true, true, false, false, false, false, false, false, false, false, false]) rfl (fun _ _ _ h => h) (fun _ hm => ⟨hm.blkI 0 rfl, hm.fact 0 rfl, trivial⟩) (ov_index (j := k) es22 rfl rfl (by omega)) rfl ?_
      refine wa_take 4 rfl (by kernel_rfl) (by kernel_rfl) (by kernel_rfl) (listed' := #[true, true, true, false, true, false, false, false, false, false, false, false]) rfl (fun _ _ _ h => h) (fun _ hm => ⟨hm.blkI 0 rfl, hm.fact 0 rfl, trivial⟩) (ov_move rfl) rfl ?_
      refine wa_take 5 rfl (by kernel_rfl) (by kernel_rfl) (by kernel_rfl) (listed' := #[true, true, true, false, true, true, false, false, false, false, false, false]) rfl (fun _ _ _ h => h) (fun _ hm => ⟨hm.blkI 0 rfl, hm.fact 0 rfl, trivial⟩) (ov_field fo33_4 rfl rfl) rfl ?_
      refine wa_take 6 rfl (by kernel_rfl) (by kernel_rfl) (by kernel_rfl) (listed' := #[true, true, true, false, true, true, true, false, false, false, false, false]) rfl (fun _ _ _ h => h) (fun _ hm => ⟨hm.blkI 0 rfl, hm.fact 0 rfl, trivial⟩) (ov_load sc3 rfl (fun _ hm => hm.1) rfl) rfl ?_
      refine wa_take 7 rfl (by kernel_rfl) (by kernel_rfl) (by kernel_rfl) (listed' := #[true, true, true, false, true, true, true, true, false, false, false, false]) rfl (fun _ _ _ h => h) (fun _ hm => ⟨hm.blkI 0 rfl, hm.fact 0 rfl, trivial⟩) (ov_sub rfl rfl (by omega) (by omega)) rfl ?_
      refine wa_take 8 rfl (by kernel_rfl) (by kernel_rfl) (by kernel_rfl) (listed' := #[true, true, true, false, true, true, true, true, true, false, false, false]) rfl (fun _ _ _ h => h) (fun _ hm => ⟨hm.blkI 0 rfl, hm.fact 0 rfl, trivial⟩) (ov_mul rfl rfl (by rw [hyc]; omega) (by rw [hyc]; omega)) rfl ?_
      refine wa_set 37 (v' := .int .i64 ((y : Nat) : Int)) rfl (congrArg (Value.int .i64) hyc) ?_
      refine wa_all [3] (by kernel_rfl) rfl ⟨⟨_, rfl, ?_⟩, trivial⟩
      refine wl_ov (ov_elem1 (k := 0) (v := .int .i64 ((e0 : Nat) : Int)) sc3 rfl (fun _ hm => (SlT.ofOwn nt_len (hm.ownI 0 rfl) hEl)) he rfl rfl) rfl ?_
      refine wl_nil ?_
      refine nx_wa0 (listed' := #[true, true, true, true, true, true, true, true, true, false, false, false]) rfl (fun _ hm => ⟨hm.blkI 0 rfl, hm.fact 0 rfl, trivial⟩) ?_
      refine wa_take 9 rfl (by kernel_rfl) (by kernel_rfl) (by kernel_rfl) (listed' := #[true, true, true, true, true, true, true, true, true, true, false, false]) rfl (fun _ _ _ h => h) (fun _ hm => ⟨hm.blkI 0 rfl, hm.fact 0 rfl, trivial⟩) (ov_add rfl rfl (by omega) (by omega)) rfl ?_
      refine wa_set 38 (v' := .int .i64 ((e0 + y : Nat) : Int)) rfl (congrArg (Value.int .i64) (by omega)) ?_
      refine wa_take 10 rfl (by kernel_rfl) (by kernel_rfl) (by kernel_rfl) (listed' := #[true, true, true, true, true, true, true, true, true, true, true, false]) rfl (fun _ _ _ h => h) (fun _ hm => ⟨hm.blkI 0 rfl, hm.fact 0 rfl, trivial⟩) (ov_index (j := k) es22 rfl rfl (by omega)) rfl ?_
      refine wa_all [11] (by kernel_rfl) rfl ⟨⟨_, rfl, ?_⟩, trivial⟩
      refine wl_storeE (l := E) (j := k) (r := 0) (el := e0) (el' := (e0 + y)) 0 sc3 rfl rfl rfl rfl nt_len rfl he hEl (by decide) rfl rfl ?_
      refine wl_nil ?_
      refine nx_wa0 (listed' := #[true, true, true, true, true, true, true, true, true, true, true, true]) rfl (fun _ hm => ⟨hm.blkI 0 rfl, hm.fact 0 rfl, trivial⟩) ?_
      refine wa_done (by kernel_rfl) ?_
      refine nx_then ?_
      refine gw_draw (fun wz => Blk wz g2 33 [.string ke, .string cl, .int .i64 fr, .int .i64 tt, .int .i64 md, .int .i64 ((P : Nat) : Int)] ∧ (SlOld bkEnc 6 33 w.heap.size none (some ⟨b, off, none⟩) n l) wz ∧ True) mixed ?_
      refine wa_take 0 rfl (by kernel_rfl) (by kernel_rfl) (by kernel_rfl) (listed' := #[true, false, false, false, false, false, false, false, false, false, false, false]) rfl (fun _ _ _ h => h) (fun _ hm => ⟨hm.blkI 0 rfl, hm.fact 0 rfl, trivial⟩) (ov_move rfl) rfl ?_
      refine wa_take 1 rfl (by kernel_rfl) (by kernel_rfl) (by kernel_rfl) (listed' := #[true, true, false, false, false, false, false, false, false, false, false, false]) rfl (fun _ _ _ h => h) (fun _ hm => ⟨hm.blkI 0 rfl, hm.fact 0 rfl, trivial⟩) (ov_move rfl) rfl ?_
      refine wa_take 2 rfl (by kernel_rfl) (by kernel_rfl) (by kernel_rfl) (listed' := #[true, true, true, false, false, false, false, false, false, false, false, false]) rfl (fun _ _ _ h => h) (fun _ hm => ⟨hm.blkI 0 rfl, hm.fact 0 rfl, trivial⟩) (ov_add rfl rfl (by omega) (by omega)) rfl ?_
      refine wa_set 42 (v' := .int .i64 ((k + 1 : Nat) : Int)) rfl (congrArg (Value.int .i64) (by omega)) ?_
      refine wa_take 3 rfl (by kernel_rfl) (by kernel_rfl) (by kernel_rfl) (listed' := #[true, true, true, true, false, false, false, false, false, false, false, false]) rfl (fun _ _ _ h => h) (fun _ hm => ⟨hm.blkI 0 rfl, hm.fact 0 rfl, trivial⟩) (ov_index (j := k + 1) es22 rfl rfl (by omega)) rfl ?_
      refine wa_take 5 rfl (by kernel_rfl) (by kernel_rfl) (by kernel_rfl) (listed' := #[true, true, true, true, false, true, false, false, false, false, false, false]) rfl (fun _ _ _ h => h) (fun _ hm => ⟨hm.blkI 0 rfl, hm.fact 0 rfl, trivial⟩) (ov_move rfl) rfl ?_
      refine wa_take 6 rfl (by kernel_rfl) (by kernel_rfl) (by kernel_rfl) (listed' := #[true, true, true, true, false, true, true, false, false, false, false, false]) rfl (fun _ _ _ h => h) (fun _ hm => ⟨hm.blkI 0 rfl, hm.fact 0 rfl, trivial⟩) (ov_field fo33_4 rfl rfl) rfl ?_
      refine wa_take 7 rfl (by kernel_rfl) (by kernel_rfl) (by kernel_rfl) (listed' := #[true, true, true, true, false, true, true, true, false, false, false, false]) rfl (fun _ _ _ h => h) (fun _ hm => ⟨hm.blkI 0 rfl, hm.fact 0 rfl, trivial⟩) (ov_load sc3 rfl (fun _ hm => hm.1) rfl) rfl ?_
      refine wa_take 8 rfl (by kernel_rfl) (by kernel_rfl) (by kernel_rfl) (listed' := #[true, true, true, true, false, true, true, true, true, false, false, false]) rfl (fun _ _ _ h => h) (fun _ hm => ⟨hm.blkI 0 rfl, hm.fact 0 rfl, trivial⟩) (ov_mul rfl rfl (by rw [hzc]; omega) (by rw [hzc]; omega)) rfl ?_
      refine wa_set 48 (v' := .int .i64 ((z : Nat) : Int)) rfl (congrArg (Value.int .i64) hzc) ?_
      refine wa_all [4] (by kernel_rfl) rfl ⟨⟨_, rfl, ?_⟩, trivial⟩
      refine wl_ov (ov_elem1 (k := 0) (v := .int .i64 ((z0 : Nat) : Int)) sc3 rfl (fun _ hm => (SlT.ofOwn nt_len (hm.ownI 0 rfl) (by simpa using hEl))) hz rfl rfl) rfl ?_
      refine wl_nil ?_
      refine nx_wa0 (listed' := #[true, true, true, true, true, true, true, true, true, false, false, false]) rfl (fun _ hm => ⟨hm.blkI 0 rfl, hm.fact 0 rfl, trivial⟩) ?_
      refine wa_take 9 rfl (by kernel_rfl) (by kernel_rfl) (by kernel_rfl) (listed' := #[true, true, true, true, true, true, true, true, true, true, false, false]) rfl (fun _ _ _ h => h) (fun _ hm => ⟨hm.blkI 0 rfl, hm.fact 0 rfl, trivial⟩) (ov_add rfl rfl (by omega) (by omega)) rfl ?_
      refine wa_set 49 (v' := .int .i64 ((z0 + z : Nat) : Int)) rfl (congrArg (Value.int .i64) (by omega)) ?_
      refine wa_take 10 rfl (by kernel_rfl) (by kernel_rfl) (by kernel_rfl) (listed' := #[true, true, true, true, true, true, true, true, true, true, true, false]) rfl (fun _ _ _ h => h) (fun _ hm => ⟨hm.blkI 0 rfl, hm.fact 0 rfl, trivial⟩) (ov_index (j := k + 1) es22 rfl rfl (by omega)) rfl ?_
      refine wa_all [11] (by kernel_rfl) rfl ⟨⟨_, rfl, ?_⟩, trivial⟩
      refine wl_storeE (l := (E.set k (e0 + y))) (j := (k + 1)) (r := 0) (el := z0) (el' := (z0 + z)) 0 sc3 rfl rfl rfl rfl nt_len rfl hz (by simpa using hEl) (by decide) rfl rfl ?_
      refine wl_nil ?_
      refine nx_wa0 (listed' := #[true, true, true, true, true, true, true, true, true, true, true, true]) rfl (fun _ hm => ⟨hm.blkI 0 rfl, hm.fact 0 rfl, trivial⟩) ?_
      refine wa_done (by kernel_rfl) ?_
      refine nx_blk_nrm ?_
      refine nx_then ?_
      refine gw_region ?_
      refine wl_ov (ov_add rfl rfl (by omega) (by omega)) rfl ?_
      refine wl_ov (ov_move rfl) rfl ?_
      refine wl_nil ?_
      exact nx_round (k + 1, (E.set k (e0 + y)).set (k + 1) (z0 + z)) ⟨by dsimp only; omega, by simpa using hEl, hfin⟩ (by dsimp only; omega) ⟨rfl, rfl, rfl, rfl, rfl, rfl, rfl, rfl, rfl, rfl, rfl, (some_int (by omega)), trivial⟩ (fun _ hm => hm.pick [0] [0, 1] [0] rfl rfl)
    · have hk : ¬ (((k : Nat) : Int) < (((i + 1) : Nat) : Int)) := by simpa using hh
      clear hh
      refine gw_exit ?_
      refine nx_then_exit ?_
      refine nx_then_exit ?_
      refine nx_blk_here ?_
      refine nx_then ?_
      refine gw_region ?_
      have hk1 : k = i + 1 := by omega
      have hE2 : E = spreadP (pl.take (i + 1)) := by rw [hE, hst, hk1, List.take_of_length_le (by omega), Nat.sub_self]; simp
      subst hE2
      refine wl_ov (ov_move rfl) rfl ?_
      refine wl_ov (ov_move rfl) rfl ?_
      refine wl_ov (ov_mul rfl rfl (by omega) (by omega)) rfl ?_
      refine wl_set 54 (v' := .int .i64 ((100 ^ (i + 1) : Nat) : Int)) rfl (congrArg (Value.int .i64) (pow_cast i)) ?_
      refine wl_ov (ov_assign rfl) rfl ?_
      refine wl_ov (ov_assign rfl) rfl ?_
      refine wl_nil ?_
      refine nx_blk_nrm ?_
      refine nx_then ?_
      refine gw_region ?_
      refine wl_ov (ov_add rfl rfl (by omega) (by omega)) rfl ?_
      refine wl_ov (ov_move rfl) rfl ?_
      refine wl_nil ?_
      exact nx_round (i + 1, .slice (some ⟨g3, 0, none⟩) (i + 2) (i + 2)) (by dsimp only; omega) (by dsimp only; omega) ⟨rfl, rfl, rfl, rfl, rfl, rfl, (some_int (by omega)), trivial⟩ (fun _ hm => hm.pick [] [0] [0] rfl rfl)
  · have hi : ¬ (((i : Nat) : Int) < ((n : Nat) : Int)) := by simpa using hh
    clear hh
    refine gw_exit ?_
    refine nx_then_exit ?_
    refine nx_then_exit ?_
    refine nx_blk_here ?_
    refine nx_then ?_
    refine gw_seq ?_
    refine gw_region ?_
    refine wl_ov (ov_move rfl) rfl ?_
    refine wl_ov (ov_move rfl) rfl ?_
    refine wl_ov (ov_assign rfl) rfl ?_
    refine wl_ov (ov_assign rfl) rfl ?_
    refine wl_nil ?_
    refine nx_then ?_
    refine gw_ret ?_
    have hin : i = n := by omega
    subst hin
    refine nx_ret2 rfl rfl rfl fun wx hm => ?_
    exact ⟨A2, c2, rfl, by rw [← show pl.take i = pl from List.take_of_length_le (by omega)]; exact SlT.ofOwn nt_len (hm.ownI 0 rfl) (spreadP_len pl i (by omega)), hm.g⟩

end Go.Proofs.YtcggbojhalbkjaaDoor
