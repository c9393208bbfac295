/- Several texts as one: Va He Hf Hg Hh Hk Ln Tot Gt Lf Vc Ua Tb Tn Ub Tx Uc Cp -/
import Derived.Test.YtnmpniaocjmkfaaGreatDoorPb
import Derived.Test.YtnmpniaocjmkfaaGreatDoorPa
import Derived.Deep.RegionHeld3
import Derived.Laws.ResultCell
import Derived.IntWalk
import Derived.Test.YtnmpniaocjmkfaaGreatDoorPc
import Derived.OneCell
set_option maxRecDepth 100000
set_option maxHeartbeats 4000000
namespace Go.Proofs.YtnmpniaocjmkfaaGreatDoor
open Go.RowKit
/-- A tax as it lies in a list: its kinds lie elsewhere. -/
structure Tx where
  key : ByteArray
  mille : Int
  A : Option Addr
  n : Nat
  c : Nat
  on : List Int
  over : Bool
def txEnc (x : Tx) : List Value := [.string x.key, .int .i64 x.mille, .slice x.A x.n x.c, .bool x.over]
theorem tx_len (x : Tx) : (txEnc x).length = 4 := rfl
def TxOk (x : Tx) : Prop := x.key.size ≤ 1000000 ∧ x.n ≤ 1000
/-- The kinds of all taxes of the list. -/
def Ons (l : List Tx) (w : World) : Prop := ∀ x ∈ l, SlT itEnc 1 3 w x.A x.n x.on
def OnsOld (N : Nat) (row : Option Nat) (l : List Tx) (w : World) : Prop := ∀ x ∈ l, SlOld itEnc 1 3 N row x.A x.n x.on w
theorem OnsOld.lasts {N : Nat} {row : Option Nat} {Tt : List TypeId} {l : List Tx} : Lasts2 N row Tt (OnsOld N row l) := lasts_all fun _ _ => SlOld.lasts
theorem Ons.lasts {N : Nat} {row : Option Nat} {Tt : List TypeId} {l : List Tx} (hT : Tt.contains 3 = true) : Lasts2 N row Tt (Ons l) := lasts_all fun _ _ => SlT.lasts2 hT
theorem Ons.old {l : List Tx} {w : World} (h : Ons l w) : OnsOld w.heap.size none l w := fun x hx => (h x hx).old
theorem OnsOld.ons {N : Nat} {row : Option Nat} {l : List Tx} {w : World} (h : OnsOld N row l w) : Ons l w := fun x hx => (h x hx).1
def onB (p : Option Int) (k : Int) : Bool := match p with
  | none => false
  | some q => decide (k ≤ q)
def onE (p : Option Int) (k : Int) : Int := if decide (k = 5) || !inB k 1 6 then 4 else if onB p k then 7 else 0
def onsE (l : List Int) : Int := scanE onE none l
def taxP (k : ByteArray) (x : Tx) : Bool := x.key.toList == k.toList
def taxE (pre : List Tx) (x : Tx) : Int := if !keyB x.key then 5 else if pre.any (taxP x.key) then 6 else if !inB x.mille 0 1000 then 1 else onsE x.on
def taxG : List Tx → List Tx → Int
  | _, [] => 0
  | pre, x :: r => if taxE pre x = 0 then taxG (pre ++ [x]) r else taxE pre x
theorem taxG_at {l : List Tx} {i : Nat} {x : Tx} (h : l[i]? = some x) : taxG (l.take i) (l.drop i) = if taxE (l.take i) x = 0 then taxG (l.take (i + 1)) (l.drop (i + 1)) else taxE (l.take i) x := by
  obtain ⟨hi, rfl⟩ := List.getElem?_eq_some_iff.1 h
  rw [List.drop_eq_getElem_cons hi, List.take_add_one, List.getElem?_eq_getElem hi]
  rfl
theorem taxG_end {l : List Tx} {i : Nat} (h : l.length ≤ i) : taxG (l.take i) (l.drop i) = 0 := by rw [List.drop_eq_nil_of_le h]; rfl
def taxesE (l : List Tx) : Int := if 10 < l.length then 2 else taxG [] l
theorem taxG_ok : ∀ {r pre : List Tx}, taxG pre r = 0 → ∀ x ∈ r, ∃ p, taxE p x = 0
  | [], _, _, x, hx => by cases hx
  | y :: t, pre, h, x, hx => by
    unfold taxG at h
    by_cases h0 : taxE pre y = 0
    · rw [if_pos h0] at h
      rcases List.mem_cons.1 hx with rfl | hx
      · exact ⟨_, h0⟩
      · exact taxG_ok h x hx
    · rw [if_neg h0] at h; exact absurd h h0
theorem taxesE_mille {l : List Tx} (h : taxesE l = 0) : l.length ≤ 10 ∧ ∀ x ∈ l, 0 ≤ x.mille ∧ x.mille ≤ 1000 := by
  unfold taxesE at h
  split at h
  · cases h
  · refine ⟨by omega, fun x hx => ?_⟩
    obtain ⟨p, hp⟩ := taxG_ok h x hx
    unfold taxE at hp
    split at hp
    · cases hp
    · split at hp
      · cases hp
      · split at hp
        · cases hp
        · rename_i h3
          exact inB_iff.1 (by simpa using h3)
theorem predTax_c (key : ByteArray) (mi : Int) (At : Option Addr) (nt ct : Nat) (on : List Int) (ov : Bool) (gk : Nat) (k0 : ByteArray) (k1 : Int) (k2 : Option Addr) (k3 k4 : Nat) (k5 : Bool) (w : World) (hk : Blk w gk 265 [.string k0, .int .i64 k1, .slice k2 k3 k4, .bool k5]) :
  Calls Tryz.prog 207 #[.agg #[.string key, .int .i64 mi, .slice At nt ct, .bool ov], .pointer (some ⟨gk, 0, none⟩)] w (fun e w' => e = .returned (.bool (taxP k0 ⟨key, mi, At, nt, ct, on, ov⟩)) ∧ w.grownBy w' none) := by
 refine gw_enter ⟨9, w, none, []⟩ Tryz.func207 rfl Tryz.ntmps207 rfl (mem0 (X := [BlkOld w.heap.size none gk 265 [.string k0, .int .i64 k1, .slice k2 k3 k4, .bool k5]]) (allF_cons hk.old allF_nil) (allL_cons BlkOld.lasts allL_nil)) ?_
 refine sr_ ?_
 refine wl_box rfl rfl rfl fun g1 => ?_
 refine sg_ rfl (nn_ (sr_ (fd_ fo265_0 rfl rfl (lk_ sc9 0 rfl rfl rfl (fd_ fo265_0 rfl rfl ?_)))))
 refine wl_ov (ov_load (v := .string k0) sc9 rfl (fun _ hm => (hm.fact 0 rfl).2) rfl) rfl ?_
 refine wl_ov (ov_seql rfl rfl) rfl (sg_ rfl (nn_ ?_))
 refine gw_ret ?_
 refine nx_ret1 rfl rfl fun wx hm => ?_
 exact ⟨rfl, hm.g⟩
theorem indexTax_c (l : List Tx) (A : Option Addr) (n c0 : Nat) (gk : Nat) (k0 : ByteArray) (k1 : Int) (k2 : Option Addr) (k3 k4 : Nat) (k5 : Bool) (w : World) (hl : SlT txEnc 4 265 w A n l) (hn : n ≤ 1000000) (hk : Blk w gk 265 [.string k0, .int .i64 k1, .slice k2 k3 k4, .bool k5]) :
  Calls Tryz.prog 257 #[.slice A n c0, .func (.func 207) #[] #[.pointer (some ⟨gk, 0, none⟩)]] w (GotE w (ixP (taxP k0) l 0)) := by
 refine gw_enter ⟨19, w, none, []⟩ Tryz.func257 rfl Tryz.ntmps257 rfl (mem0 (X := [SlOld txEnc 4 265 w.heap.size none A n l, BlkOld w.heap.size none gk 265 [.string k0, .int .i64 k1, .slice k2 k3 k4, .bool k5]]) (allF_cons hl.old (allF_cons hk.old allF_nil)) (allL_cons SlOld.lasts (allL_cons BlkOld.lasts allL_nil))) ?_
 refine sr_ ?_
 have hlen := hl.len
 refine sg_ rfl (nn_ (gw_seq (sr_ (mv_ rfl (wl_ov (ov_len es30 rfl) rfl (mv_ rfl (nn_ (gw_block ?_))))))))
 refine gw_loop (γ := Nat) (fun (i : Nat) => i ≤ n ∧ ixP (taxP k0) l 0 = ixP (taxP k0) (l.drop i) i) (fun (i : Nat) => [(0, .slice A n c0), (1, .func (.func 207) #[] #[.pointer (some ⟨gk, 0, none⟩)]), (7, .int .i64 ((n : Nat) : Int)), (8, .int .i64 ((i : Nat) : Int))]) (fun (i : Nat) => fun _ => True) (fun (i : Nat) => []) (fun (i : Nat) => []) (fun (i : Nat) => [SlOld txEnc 4 265 w.heap.size none A n l, BlkOld w.heap.size none gk 265 [.string k0, .int .i64 k1, .slice k2 k3 k4, .bool k5]]) (fun (i : Nat) => n - i) 0 ⟨Nat.zero_le _, rfl⟩ ⟨rfl, rfl, rfl, rfl, trivial⟩ (fun _ hm => hm.pick [] [] [0, 1] rfl rfl) ?_
 intro i hinv
 replace hinv : i ≤ n ∧ ixP (taxP k0) l 0 = ixP (taxP k0) (l.drop i) i := hinv
 refine sr_ (wl_ov (ov_lss rfl rfl) rfl (nn_ (gw_seq ?_)))
 refine gw_cond rfl (fun hh => ?_) (fun hh => ?_)
 ·have hi : ((i : Nat) : Int) < ((n : Nat) : Int) := by simpa using hh
  clear hh
  refine gw_skip (nx_then (gw_seq (gw_block (sr_ ?_))))
  obtain ⟨b, off, hA, _, _⟩ := hl.get (by omega)
  subst hA
  obtain ⟨x, hx⟩ : ∃ x, l[i]? = some x := ⟨_, List.getElem?_eq_getElem (by omega)⟩
  obtain ⟨key, mi, At, nt, ct, on, ov⟩ := x
  have hat := ixP_at (p := taxP k0) hx
  refine mv_ rfl (sg_ rfl (nn_ (sr_ (mv_ rfl (mv_ rfl (mv_ rfl ?_))))))
  refine wl_ov (ov_index (j := i) es30 rfl rfl (by omega)) rfl ?_
  refine wl_ov (ov_elem (vs := [.string key, .int .i64 mi, .slice At nt ct, .bool ov]) rz265 rfl (fun _ hm => (hm.fact 0 rfl).1) hx rfl rfl) rfl ?_
  refine wl_callv rfl cb207 rfl rfl (fun wx hm => (predTax_c key mi At nt ct on ov gk k0 k1 k2 k3 k4 k5 wx (hm.fact 1 rfl).2)) ?_
  refine nn_ ?_
  refine gw_cond rfl (fun hh => ?_) (fun hh => ?_)
  ·have hq : (taxP k0 ⟨key, mi, At, nt, ct, on, ov⟩) = true := by simpa using hh
   clear hh
   refine sr_ (mv_ rfl (sg_ rfl (nn_ ?_)))
   refine gw_ret ?_
   refine nx_blk_ret (nx_then_ret (nx_then_ret (nx_blk_ret (nx_then_ret ?_))))
   refine nx_ret1 rfl rfl fun wx hm => ?_
   exact ⟨ret_int (by rw [hinv.2, hat, if_pos hq]), hm.g⟩
  have hq : (taxP k0 ⟨key, mi, At, nt, ct, on, ov⟩) = false := by simpa using hh
  clear hh
  refine gw_skip (nx_blk_nrm (nx_then (gw_region (ad_ rfl rfl (mv_ rfl (wl_nil ?_))))))
  exact nx_round (i + 1) ⟨by omega, by rw [hinv.2, hat, if_neg (by rw [hq]; decide)]⟩ (by omega) ⟨rfl, rfl, rfl, (some_int (by omega)), trivial⟩ (fun _ hm => hm.pick [] [] [0, 1] rfl rfl)
 have hi : ¬ (((i : Nat) : Int) < ((n : Nat) : Int)) := by simpa using hh
 clear hh
 refine gw_exit ?_
 refine nx_then_exit (nx_then_exit ?_)
 refine nx_blk_here ?_
 refine nx_then (sr_ (sg_ rfl ?_))
 refine wl_set 4 (v' := .int .i64 (-1)) rfl rfl ?_
 refine nn_ ?_
 refine gw_ret ?_
 refine nx_ret1 rfl rfl fun wx hm => ?_
 exact ⟨ret_int (by rw [hinv.2, List.drop_eq_nil_of_le (by omega)]; rfl), hm.g⟩
theorem hasTax_c (l : List Tx) (A : Option Addr) (n c0 : Nat) (gk : Nat) (k0 : ByteArray) (k1 : Int) (k2 : Option Addr) (k3 k4 : Nat) (k5 : Bool) (w : World) (hl : SlT txEnc 4 265 w A n l) (hn : n ≤ 1000000) (hk : Blk w gk 265 [.string k0, .int .i64 k1, .slice k2 k3 k4, .bool k5]) :
  Calls Tryz.prog 204 #[.slice A n c0, .func (.func 207) #[] #[.pointer (some ⟨gk, 0, none⟩)]] w (fun e w' => e = .returned (.bool (l.any (taxP k0))) ∧ w.grownBy w' none) := by
 refine gw_enter ⟨9, w, none, []⟩ Tryz.func204 rfl Tryz.ntmps204 rfl (mem0 (X := [SlOld txEnc 4 265 w.heap.size none A n l, BlkOld w.heap.size none gk 265 [.string k0, .int .i64 k1, .slice k2 k3 k4, .bool k5]]) (allF_cons hl.old (allF_cons hk.old allF_nil)) (allL_cons SlOld.lasts (allL_cons BlkOld.lasts allL_nil))) ?_
 refine sr_ (sg_ rfl (nn_ (sr_ (mv_ rfl (mv_ rfl ?_)))))
 refine wl_callv rfl cb257 rfl rfl (fun wx hm => (indexTax_c l A n c0 gk k0 k1 k2 k3 k4 k5 wx (hm.fact 0 rfl).1 hn (hm.fact 1 rfl).2)) ?_
 refine wl_ov (ov_geq rfl rfl) rfl ?_
 refine sg_ rfl (nn_ ?_)
 refine gw_ret ?_
 refine nx_ret1 rfl rfl fun wx hm => ?_
 exact ⟨by rw [← ix_any], hm.g⟩
theorem checkTaxes_any (l : List Tx) (A : Option Addr) (n c0 : Nat) (w : World) (hl : SlT txEnc 4 265 w A n l) (hg : Ons l w) (hok : ∀ x ∈ l, TxOk x) (hn : n ≤ 1000000) (hc : n ≤ c0) :
  Calls Tryz.prog 107 #[.slice A n c0] w (GotE w (taxesE l)) := by
 refine gw_enter ⟨64, w, none, []⟩ Tryz.func107 rfl Tryz.ntmps107 rfl (mem0 (X := [SlOld txEnc 4 265 w.heap.size none A n l, OnsOld w.heap.size none l]) (allF_cons hl.old (allF_cons hg.old allF_nil)) (allL_cons SlOld.lasts (allL_cons OnsOld.lasts allL_nil))) ?_
 refine sr_ ?_
 have hlen := hl.len
 refine sg_ rfl (nn_ (gw_seq (sr_ (mv_ rfl (wl_ov (ov_len es30 rfl) rfl ?_)))))
 refine wl_ov (ov_gtr rfl rfl) rfl ?_
 refine nn_ ?_
 refine gw_cond rfl (fun hh => ?_) (fun hh => ?_)
 ·have h1 : 10 < ((n : Nat) : Int) := by simpa using hh
  clear hh
  refine sr_ (sg_ rfl (nn_ ?_))
  refine gw_ret ?_
  refine nx_then_ret ?_
  refine nx_ret1 rfl rfl fun wx hm => ?_
  exact ⟨ret_int (by unfold taxesE; rw [if_pos (by omega)]), hm.g⟩
 have h1 : ¬ (10 < ((n : Nat) : Int)) := by simpa using hh
 clear hh
 refine gw_skip (nx_then (gw_seq (sr_ (mv_ rfl (wl_ov (ov_len es30 rfl) rfl (mv_ rfl (nn_ (gw_block ?_))))))))
 obtain ⟨TE, hTE⟩ : ∃ E, E = taxesE l := ⟨_, rfl⟩
 rw [← hTE]
 refine gw_loop (γ := Nat) (fun (k : Nat) => k ≤ n ∧ TE = taxG (l.take k) (l.drop k)) (fun (k : Nat) => [(0, .slice A n c0), (10, .slice A n c0), (11, .int .i64 ((n : Nat) : Int)), (12, .int .i64 ((k : Nat) : Int))]) (fun (k : Nat) => fun _ => True) (fun (k : Nat) => []) (fun (k : Nat) => []) (fun (k : Nat) => [SlOld txEnc 4 265 w.heap.size none A n l, OnsOld w.heap.size none l]) (fun (k : Nat) => n - k) 0 ⟨Nat.zero_le _, by rw [hTE]; unfold taxesE; rw [if_neg (by omega)]; rfl⟩ ⟨rfl, rfl, rfl, rfl, trivial⟩ (fun _ hm => hm.pick [] [] [0, 1] rfl rfl) ?_
 intro k hinv
 replace hinv : k ≤ n ∧ TE = taxG (l.take k) (l.drop k) := hinv
 refine sr_ (wl_ov (ov_lss rfl rfl) rfl (nn_ (gw_seq ?_)))
 refine gw_cond rfl (fun hh => ?_) (fun hh => ?_)
 ·have hk : ((k : Nat) : Int) < ((n : Nat) : Int) := by simpa using hh
  clear hh
  refine gw_skip (nx_then (gw_seq (gw_block (sr_ ?_))))
  obtain ⟨b, off, hA, _, _⟩ := hl.get (by omega)
  subst hA
  obtain ⟨x, hx⟩ : ∃ x, l[k]? = some x := ⟨_, List.getElem?_eq_getElem (by omega)⟩
  obtain ⟨key, mi, At, nt, ct, on, ov⟩ := x
  have hat := taxG_at hx
  obtain ⟨hk1, hnt⟩ := hok _ (List.mem_of_getElem? hx)
  have hk1 : key.size ≤ 1000000 := hk1
  have hnt : nt ≤ 1000 := hnt
  have hout := hinv
  refine mv_ rfl ?_
  refine wl_ov (ov_index (j := k) es30 rfl rfl (by omega)) rfl ?_
  refine wl_ov (ov_elem (vs := [.string key, .int .i64 mi, .slice At nt ct, .bool ov]) rz265 rfl (fun _ hm => (hm.fact 0 rfl).1) hx rfl rfl) rfl ?_
  refine wl_alloc zc265 rfl fun g1 => ?_
  refine sg_ rfl ?_
  refine wl_stores (cs' := [.string key, .int .i64 mi, .slice At nt ct, .bool ov]) 0 rz265 rfl rfl rfl rfl rfl rfl rfl rfl ?_
  refine nn_ (gw_seq (gw_block (sr_ (fd_ fo265_0 rfl rfl (lk_ sc9 0 rfl rfl rfl ?_)))))
  refine wl_callw rfl cb137 rfl rfl (fun wx hm => (isKey_any _ wx (by omega))) ?_
  refine wl_ov (ov_un_not rfl) rfl (sg_ rfl (nn_ ?_))
  refine gw_cond rfl (fun hh => ?_) (fun hh => ?_)
  ·have h2 : (keyB key) = false := by simpa using hh
   clear hh
   refine sr_ (sg_ rfl (nn_ ?_))
   refine gw_ret ?_
   refine nx_blk_ret (nx_then_ret (nx_blk_ret (nx_then_ret (nx_then_ret (nx_blk_ret (nx_then_ret ?_))))))
   have hE : taxE (l.take k) ⟨key, mi, At, nt, ct, on, ov⟩ = 5 := by unfold taxE; simp [h2]
   refine nx_ret1 rfl rfl fun wx hm => ?_
   exact ⟨ret_int (by rw [hout.2, hat, if_neg (by rw [hE]; decide), hE]), hm.g⟩
  have h2 : (keyB key) = true := by simpa using hh
  clear hh
  refine sr_ (mv_ rfl (mv_ rfl ?_))
  refine wl_ov (ov_sliceHi (hi := k) es30 rfl rfl rfl (by omega)) rfl ?_
  refine wl_ov (ov_makeFunc rfl rfl) rfl ?_
  refine wl_callv rfl cb204 rfl rfl (fun wx hm => (hasTax_c (l.take k) _ k c0 _ _ _ _ _ _ _ wx (SlT.takeT (hm.fact 0 rfl).1 (by omega)) (by omega) (hm.blkI 0 rfl))) ?_
  refine sg_ rfl (nn_ ?_)
  refine gw_cond rfl (fun hh => ?_) (fun hh => ?_)
  ·have h3 : ((l.take k).any (taxP key)) = true := by simpa using hh
   clear hh
   refine sr_ (sg_ rfl (nn_ ?_))
   refine gw_ret ?_
   refine nx_blk_ret (nx_then_ret (nx_blk_ret (nx_then_ret (nx_then_ret (nx_blk_ret (nx_then_ret ?_))))))
   have hE : taxE (l.take k) ⟨key, mi, At, nt, ct, on, ov⟩ = 6 := by unfold taxE; simp [h2, h3]
   refine nx_ret1 rfl rfl fun wx hm => ?_
   exact ⟨ret_int (by rw [hout.2, hat, if_neg (by rw [hE]; decide), hE]), hm.g⟩
  have h3 : ((l.take k).any (taxP key)) = false := by simpa using hh
  clear hh
  refine sr_ (fd_ fo265_1 rfl rfl (lk_ sc3 0 rfl rfl rfl ?_))
  refine wl_callw rfl cb175 rfl rfl (fun wx hm => (in_any _ _ _ wx)) ?_
  refine wl_ov (ov_un_not rfl) rfl (sg_ rfl (nn_ ?_))
  refine gw_cond rfl (fun hh => ?_) (fun hh => ?_)
  ·have h4 : (inB mi 0 1000) = false := by simpa using hh
   clear hh
   refine sr_ (sg_ rfl (nn_ ?_))
   refine gw_ret ?_
   refine nx_blk_ret (nx_then_ret (nx_blk_ret (nx_then_ret (nx_then_ret (nx_blk_ret (nx_then_ret ?_))))))
   have hE : taxE (l.take k) ⟨key, mi, At, nt, ct, on, ov⟩ = 1 := by unfold taxE; simp [h2, h3, h4]
   refine nx_ret1 rfl rfl fun wx hm => ?_
   exact ⟨ret_int (by rw [hout.2, hat, if_neg (by rw [hE]; decide), hE]), hm.g⟩
  have h4 : (inB mi 0 1000) = true := by simpa using hh
  clear hh
  refine gw_skip (nx_blk_nrm (nx_then (sr_ ?_)))
  have hEo : taxE (l.take k) ⟨key, mi, At, nt, ct, on, ov⟩ = onsE on := by unfold taxE; simp [h2, h3, h4]
  refine wl_also (Y := SlOld itEnc 1 3 w.heap.size none At nt on) (SlOld.lasts) (fun wx hm => (hm.fact 1 rfl) _ (List.mem_of_getElem? hx)) ?_
  refine wl_look (R := on.length = nt) (fun wx hm => ((hm.fact 0 rfl)).1.len) ?_
  intro hol
  refine fd_ fo265_2 rfl rfl (lk_ sc22 0 rfl rfl rfl (wl_ov (ov_len es22 rfl) rfl (mv_ rfl (nn_ (gw_block ?_)))))
  refine gw_loop (γ := Nat) (fun (q : Nat) => q ≤ nt ∧ onsE on = scanE onE (prevOf on q) (on.drop q)) (fun (q : Nat) => [(0, .slice (some ⟨b, off, none⟩) n c0), (4, .pointer (some ⟨g1, 0, none⟩)), (10, .slice (some ⟨b, off, none⟩) n c0), (11, .int .i64 ((n : Nat) : Int)), (12, .int .i64 ((k : Nat) : Int)), (34, .slice At nt ct), (35, .int .i64 ((nt : Nat) : Int)), (36, .int .i64 ((q : Nat) : Int))]) (fun (q : Nat) => fun _ => True) (fun (q : Nat) => [(g1, 265, [.string key, .int .i64 mi, .slice At nt ct, .bool ov])]) (fun (q : Nat) => []) (fun (q : Nat) => [SlOld itEnc 1 3 w.heap.size none At nt on, SlOld txEnc 4 265 w.heap.size none (some ⟨b, off, none⟩) n l, OnsOld w.heap.size none l]) (fun (q : Nat) => nt - q) 0 ⟨Nat.zero_le _, rfl⟩ ⟨rfl, rfl, rfl, rfl, rfl, rfl, rfl, rfl, trivial⟩ (fun _ hm => hm.pick [0] [] [0, 1, 2] rfl rfl) ?_
  intro q hinv
  replace hinv : q ≤ nt ∧ onsE on = scanE onE (prevOf on q) (on.drop q) := hinv
  refine sr_ ?_
  have hin := hinv
  refine wl_ov (ov_lss rfl rfl) rfl (nn_ (gw_seq ?_))
  refine gw_cond rfl (fun hh => ?_) (fun hh => ?_)
  ·have hq : ((q : Nat) : Int) < ((nt : Nat) : Int) := by simpa using hh
   clear hh
   refine gw_skip (nx_then (gw_seq (gw_block (sr_ ?_))))
   refine wl_look (R := SlT itEnc 1 3 w At nt on) (fun wx hm => hg _ (List.mem_of_getElem? hx)) ?_
   intro hso
   obtain ⟨b2, o2, hA, _, _⟩ := hso.get (by omega)
   subst hA
   obtain ⟨z0, hy⟩ : ∃ x, on[q]? = some x := ⟨_, List.getElem?_eq_getElem (by omega)⟩
   have han := scanE_at onE on q _ hy
   refine mv_ rfl ?_
   refine wl_ov (ov_index (j := q) es22 rfl rfl (by omega)) rfl ?_
   refine wl_ov (ov_elem1 (k := 0) (v := .int .i64 z0) sc3 rfl (fun _ hm => (hm.fact 0 rfl).1) hy rfl rfl) rfl ?_
   refine sg_ rfl (sg_ rfl (nn_ (gw_block (sr_ (mv_ rfl (wl_ov (ov_eql rfl rfl) rfl (mv_ rfl ?_)))))))
   rcases Bool.eq_false_or_eq_true (decide (z0 = 5)) with h5 | h5
   ·refine wl_set 44 rfl (congrArg Value.bool h5) ?_
    replace h5 : z0 = 5 := of_decide_eq_true h5
    refine goff rfl rfl rfl (goff rfl rfl rfl (goff rfl rfl rfl (pt_ rfl rfl (sg_ rfl (nn_ (ct_ rfl (sr_ (sg_ rfl (nn_ ?_)))))))))
    refine gw_ret ?_
    refine nx_blk_ret (nx_blk_ret (nx_then_ret (nx_then_ret (nx_blk_ret (nx_blk_ret (nx_then_ret (nx_then_ret (nx_blk_ret (nx_then_ret ?_)))))))))
    have hE : onE (prevOf on q) z0 = 4 := by unfold onE; simp [h5]
    have hE2 : onsE on = 4 := by rw [hin.2, han, if_neg (by rw [hE]; decide), hE]
    refine nx_ret1 rfl rfl fun wx hm => ?_
    exact ⟨ret_int (by rw [hout.2, hat, if_neg (by rw [hEo, hE2]; decide), hEo, hE2]), hm.g⟩
   refine wl_set 44 rfl (congrArg Value.bool h5) ?_
   replace h5 : ¬ z0 = 5 := of_decide_eq_false h5
   refine wl_guard_on rfl rfl rfl (mv_ rfl (wl_guard_on rfl rfl rfl ?_))
   refine wl_callw rfl cb175 rfl rfl (fun wx hm => (in_any _ _ _ wx)) ?_
   refine wl_guard_on rfl rfl rfl (wl_ov (ov_un_not rfl) rfl (pf_ rfl rfl (sg_ rfl (nn_ ?_))))
   refine gw_cond rfl (fun hh => ?_) (fun hh => ?_)
   ·have h6 : (inB z0 1 6) = false := by simpa using hh
    clear hh
    refine sr_ (sg_ rfl (nn_ ?_))
    refine gw_ret ?_
    refine nx_blk_ret (nx_blk_ret (nx_then_ret (nx_then_ret (nx_blk_ret (nx_blk_ret (nx_then_ret (nx_then_ret (nx_blk_ret (nx_then_ret ?_)))))))))
    have hE : onE (prevOf on q) z0 = 4 := by unfold onE; simp [h5, h6]
    have hE2 : onsE on = 4 := by rw [hin.2, han, if_neg (by rw [hE]; decide), hE]
    refine nx_ret1 rfl rfl fun wx hm => ?_
    exact ⟨ret_int (by rw [hout.2, hat, if_neg (by rw [hEo, hE2]; decide), hEo, hE2]), hm.g⟩
   have h6 : (inB z0 1 6) = true := by simpa using hh
   clear hh
   refine sr_ ?_
   by_cases hq0 : q = 0
   ·have hO : onB (prevOf on q) z0 = false := by rw [prevOf_zero hq0]; rfl
    refine mv_ rfl ?_
    refine wl_ov (ov_gtr rfl rfl) rfl ?_
    refine wl_set 51 (v' := .bool false) rfl (congrArg Value.bool (decide_eq_false (by omega))) ?_
    refine mv_ rfl (goff rfl rfl rfl (goff rfl rfl rfl (goff rfl rfl rfl (goff rfl rfl rfl (goff rfl rfl rfl (goff rfl rfl rfl (goff rfl rfl rfl (goff rfl rfl rfl (pf_ rfl rfl (sg_ rfl (nn_ (cf_ rfl ?_))))))))))))
    refine gw_skip (nx_blk_nrm (nx_blk_nrm (nx_then (gw_region (ad_ rfl rfl (mv_ rfl (wl_nil ?_)))))))
    have hE : onE (prevOf on q) z0 = 0 := by unfold onE; simp [h5, h6, hO]
    exact nx_round (q + 1) ⟨by omega, by rw [hin.2, han, if_pos hE]⟩ (by omega) ⟨rfl, rfl, rfl, rfl, rfl, rfl, rfl, (some_int (by omega)), trivial⟩ (fun _ hm => hm.pick [0] [] [0, 1, 2] rfl rfl)
   obtain ⟨z1, hz⟩ : ∃ x, on[q - 1]? = some x := ⟨_, List.getElem?_eq_getElem (by omega)⟩
   refine mv_ rfl ?_
   refine wl_ov (ov_gtr rfl rfl) rfl ?_
   refine wl_set 51 (v' := .bool true) rfl (congrArg Value.bool (decide_eq_true (by omega))) ?_
   refine mv_ rfl (wl_guard_on rfl rfl rfl (mv_ rfl (wl_guard_on rfl rfl rfl (fd_ fo265_2 rfl rfl (wl_guard_on rfl rfl rfl (lk_ sc22 0 rfl rfl rfl (wl_guard_on rfl rfl rfl (mv_ rfl (wl_guard_on rfl rfl rfl ?_)))))))))
   refine wl_ov (ov_sub rfl rfl (by omega) (by omega)) rfl ?_
   refine wl_set 57 (v' := .int .i64 ((q - 1 : Nat) : Int)) rfl (congrArg (Value.int .i64) (by omega)) ?_
   refine wl_guard_on rfl rfl rfl ?_
   refine wl_ov (ov_index (j := q - 1) es22 rfl rfl (by omega)) rfl ?_
   refine wl_guard_on rfl rfl rfl ?_
   refine wl_ov (ov_elem1 (k := 0) (v := .int .i64 z1) sc3 rfl (fun _ hm => (hm.fact 0 rfl).1) hz rfl rfl) rfl ?_
   refine wl_guard_on rfl rfl rfl (wl_ov (ov_leq rfl rfl) rfl (pt_ rfl rfl (sg_ rfl (nn_ ?_))))
   refine gw_cond rfl (fun hh => ?_) (fun hh => ?_)
   ·have h7 : z0 ≤ z1 := by simpa using hh
    clear hh
    refine sr_ ?_
    have hO : onB (prevOf on q) z0 = true := by rw [prevOf_pos hq0 hz]; exact decide_eq_true h7
    refine sg_ rfl (nn_ ?_)
    refine gw_ret ?_
    refine nx_blk_ret (nx_blk_ret (nx_then_ret (nx_then_ret (nx_blk_ret (nx_blk_ret (nx_then_ret (nx_then_ret (nx_blk_ret (nx_then_ret ?_)))))))))
    have hE : onE (prevOf on q) z0 = 7 := by unfold onE; simp [h5, h6, hO]
    have hE2 : onsE on = 7 := by rw [hin.2, han, if_neg (by rw [hE]; decide), hE]
    refine nx_ret1 rfl rfl fun wx hm => ?_
    exact ⟨ret_int (by rw [hout.2, hat, if_neg (by rw [hEo, hE2]; decide), hEo, hE2]), hm.g⟩
   have h7 : ¬ (z0 ≤ z1) := by simpa using hh
   clear hh
   refine gw_skip (nx_blk_nrm (nx_blk_nrm (nx_then (gw_region ?_))))
   have hO : onB (prevOf on q) z0 = false := by rw [prevOf_pos hq0 hz]; exact decide_eq_false h7
   refine ad_ rfl rfl (mv_ rfl (wl_nil ?_))
   have hE : onE (prevOf on q) z0 = 0 := by unfold onE; simp [h5, h6, hO]
   exact nx_round (q + 1) ⟨by omega, by rw [hin.2, han, if_pos hE]⟩ (by omega) ⟨rfl, rfl, rfl, rfl, rfl, rfl, rfl, (some_int (by omega)), trivial⟩ (fun _ hm => hm.pick [0] [] [0, 1, 2] rfl rfl)
  have hq : ¬ (((q : Nat) : Int) < ((nt : Nat) : Int)) := by simpa using hh
  clear hh
  refine gw_exit ?_
  refine nx_then_exit (nx_then_exit ?_)
  refine nx_blk_here ?_
  refine nx_blk_nrm (nx_then (gw_region (ad_ rfl rfl (mv_ rfl (wl_nil ?_)))))
  have hE : taxE (l.take k) ⟨key, mi, At, nt, ct, on, ov⟩ = 0 := by rw [hEo, hin.2, scanE_end _ _ _ _ (by omega)]
  exact nx_round (k + 1) ⟨by omega, by rw [hout.2, hat, if_pos hE]⟩ (by omega) ⟨rfl, rfl, rfl, (some_int (by omega)), trivial⟩ (fun _ hm => hm.pick [] [] [1, 2] rfl rfl)
 have hk : ¬ (((k : Nat) : Int) < ((n : Nat) : Int)) := by simpa using hh
 clear hh
 refine gw_exit ?_
 refine nx_then_exit (nx_then_exit ?_)
 refine nx_blk_here ?_
 refine nx_then (sr_ (sg_ rfl (nn_ ?_)))
 refine gw_ret ?_
 refine nx_ret1 rfl rfl fun wx hm => ?_
 exact ⟨ret_int (by rw [hinv.2, taxG_end (by omega)]), hm.g⟩
theorem predTax_r (key : ByteArray) (mi : Int) (At : Option Addr) (nt ct : Nat) (on : List Int) (ov : Bool) (gk : Nat) (k0 : ByteArray) (k1 : Int) (k2 : Option Addr) (k3 k4 : Nat) (k5 : Bool) (w : World) (hk : Blk w gk 265 [.string k0, .int .i64 k1, .slice k2 k3 k4, .bool k5]) :
  Calls Tryz.prog 205 #[.agg #[.string key, .int .i64 mi, .slice At nt ct, .bool ov], .pointer (some ⟨gk, 0, none⟩)] w (fun e w' => e = .returned (.bool (taxP k0 ⟨key, mi, At, nt, ct, on, ov⟩)) ∧ w.grownBy w' none) := by
 refine gw_enter ⟨9, w, none, []⟩ Tryz.func205 rfl Tryz.ntmps205 rfl (mem0 (X := [BlkOld w.heap.size none gk 265 [.string k0, .int .i64 k1, .slice k2 k3 k4, .bool k5]]) (allF_cons hk.old allF_nil) (allL_cons BlkOld.lasts allL_nil)) ?_
 refine sr_ ?_
 refine wl_box rfl rfl rfl fun g1 => ?_
 refine sg_ rfl (nn_ (sr_ (fd_ fo265_0 rfl rfl (lk_ sc9 0 rfl rfl rfl (fd_ fo265_0 rfl rfl ?_)))))
 refine wl_ov (ov_load (v := .string k0) sc9 rfl (fun _ hm => (hm.fact 0 rfl).2) rfl) rfl ?_
 refine wl_ov (ov_seql rfl rfl) rfl (sg_ rfl (nn_ ?_))
 refine gw_ret ?_
 refine nx_ret1 rfl rfl fun wx hm => ?_
 exact ⟨rfl, hm.g⟩
theorem indexTax_r (l : List Tx) (A : Option Addr) (n c0 : Nat) (gk : Nat) (k0 : ByteArray) (k1 : Int) (k2 : Option Addr) (k3 k4 : Nat) (k5 : Bool) (w : World) (hl : SlT txEnc 4 265 w A n l) (hn : n ≤ 1000000) (hk : Blk w gk 265 [.string k0, .int .i64 k1, .slice k2 k3 k4, .bool k5]) :
  Calls Tryz.prog 257 #[.slice A n c0, .func (.func 205) #[] #[.pointer (some ⟨gk, 0, none⟩)]] w (GotE w (ixP (taxP k0) l 0)) := by
 refine gw_enter ⟨19, w, none, []⟩ Tryz.func257 rfl Tryz.ntmps257 rfl (mem0 (X := [SlOld txEnc 4 265 w.heap.size none A n l, BlkOld w.heap.size none gk 265 [.string k0, .int .i64 k1, .slice k2 k3 k4, .bool k5]]) (allF_cons hl.old (allF_cons hk.old allF_nil)) (allL_cons SlOld.lasts (allL_cons BlkOld.lasts allL_nil))) ?_
 refine sr_ ?_
 have hlen := hl.len
 refine sg_ rfl (nn_ (gw_seq (sr_ (mv_ rfl (wl_ov (ov_len es30 rfl) rfl (mv_ rfl (nn_ (gw_block ?_))))))))
 refine gw_loop (γ := Nat) (fun (i : Nat) => i ≤ n ∧ ixP (taxP k0) l 0 = ixP (taxP k0) (l.drop i) i) (fun (i : Nat) => [(0, .slice A n c0), (1, .func (.func 205) #[] #[.pointer (some ⟨gk, 0, none⟩)]), (7, .int .i64 ((n : Nat) : Int)), (8, .int .i64 ((i : Nat) : Int))]) (fun (i : Nat) => fun _ => True) (fun (i : Nat) => []) (fun (i : Nat) => []) (fun (i : Nat) => [SlOld txEnc 4 265 w.heap.size none A n l, BlkOld w.heap.size none gk 265 [.string k0, .int .i64 k1, .slice k2 k3 k4, .bool k5]]) (fun (i : Nat) => n - i) 0 ⟨Nat.zero_le _, rfl⟩ ⟨rfl, rfl, rfl, rfl, trivial⟩ (fun _ hm => hm.pick [] [] [0, 1] rfl rfl) ?_
 intro i hinv
 replace hinv : i ≤ n ∧ ixP (taxP k0) l 0 = ixP (taxP k0) (l.drop i) i := hinv
 refine sr_ (wl_ov (ov_lss rfl rfl) rfl (nn_ (gw_seq ?_)))
 refine gw_cond rfl (fun hh => ?_) (fun hh => ?_)
 ·have hi : ((i : Nat) : Int) < ((n : Nat) : Int) := by simpa using hh
  clear hh
  refine gw_skip (nx_then (gw_seq (gw_block (sr_ ?_))))
  obtain ⟨b, off, hA, _, _⟩ := hl.get (by omega)
  subst hA
  obtain ⟨x, hx⟩ : ∃ x, l[i]? = some x := ⟨_, List.getElem?_eq_getElem (by omega)⟩
  obtain ⟨key, mi, At, nt, ct, on, ov⟩ := x
  have hat := ixP_at (p := taxP k0) hx
  refine mv_ rfl (sg_ rfl (nn_ (sr_ (mv_ rfl (mv_ rfl (mv_ rfl ?_))))))
  refine wl_ov (ov_index (j := i) es30 rfl rfl (by omega)) rfl ?_
  refine wl_ov (ov_elem (vs := [.string key, .int .i64 mi, .slice At nt ct, .bool ov]) rz265 rfl (fun _ hm => (hm.fact 0 rfl).1) hx rfl rfl) rfl ?_
  refine wl_callv rfl cb205 rfl rfl (fun wx hm => (predTax_r key mi At nt ct on ov gk k0 k1 k2 k3 k4 k5 wx (hm.fact 1 rfl).2)) ?_
  refine nn_ ?_
  refine gw_cond rfl (fun hh => ?_) (fun hh => ?_)
  ·have hq : (taxP k0 ⟨key, mi, At, nt, ct, on, ov⟩) = true := by simpa using hh
   clear hh
   refine sr_ (mv_ rfl (sg_ rfl (nn_ ?_)))
   refine gw_ret ?_
   refine nx_blk_ret (nx_then_ret (nx_then_ret (nx_blk_ret (nx_then_ret ?_))))
   refine nx_ret1 rfl rfl fun wx hm => ?_
   exact ⟨ret_int (by rw [hinv.2, hat, if_pos hq]), hm.g⟩
  have hq : (taxP k0 ⟨key, mi, At, nt, ct, on, ov⟩) = false := by simpa using hh
  clear hh
  refine gw_skip (nx_blk_nrm (nx_then (gw_region (ad_ rfl rfl (mv_ rfl (wl_nil ?_))))))
  exact nx_round (i + 1) ⟨by omega, by rw [hinv.2, hat, if_neg (by rw [hq]; decide)]⟩ (by omega) ⟨rfl, rfl, rfl, (some_int (by omega)), trivial⟩ (fun _ hm => hm.pick [] [] [0, 1] rfl rfl)
 have hi : ¬ (((i : Nat) : Int) < ((n : Nat) : Int)) := by simpa using hh
 clear hh
 refine gw_exit ?_
 refine nx_then_exit (nx_then_exit ?_)
 refine nx_blk_here ?_
 refine nx_then (sr_ (sg_ rfl ?_))
 refine wl_set 4 (v' := .int .i64 (-1)) rfl rfl ?_
 refine nn_ ?_
 refine gw_ret ?_
 refine nx_ret1 rfl rfl fun wx hm => ?_
 exact ⟨ret_int (by rw [hinv.2, List.drop_eq_nil_of_le (by omega)]; rfl), hm.g⟩
theorem hasTax_r (l : List Tx) (A : Option Addr) (n c0 : Nat) (gk : Nat) (k0 : ByteArray) (k1 : Int) (k2 : Option Addr) (k3 k4 : Nat) (k5 : Bool) (w : World) (hl : SlT txEnc 4 265 w A n l) (hn : n ≤ 1000000) (hk : Blk w gk 265 [.string k0, .int .i64 k1, .slice k2 k3 k4, .bool k5]) :
  Calls Tryz.prog 204 #[.slice A n c0, .func (.func 205) #[] #[.pointer (some ⟨gk, 0, none⟩)]] w (fun e w' => e = .returned (.bool (l.any (taxP k0))) ∧ w.grownBy w' none) := by
 refine gw_enter ⟨9, w, none, []⟩ Tryz.func204 rfl Tryz.ntmps204 rfl (mem0 (X := [SlOld txEnc 4 265 w.heap.size none A n l, BlkOld w.heap.size none gk 265 [.string k0, .int .i64 k1, .slice k2 k3 k4, .bool k5]]) (allF_cons hl.old (allF_cons hk.old allF_nil)) (allL_cons SlOld.lasts (allL_cons BlkOld.lasts allL_nil))) ?_
 refine sr_ (sg_ rfl (nn_ (sr_ (mv_ rfl (mv_ rfl ?_)))))
 refine wl_callv rfl cb257 rfl rfl (fun wx hm => (indexTax_r l A n c0 gk k0 k1 k2 k3 k4 k5 wx (hm.fact 0 rfl).1 hn (hm.fact 1 rfl).2)) ?_
 refine wl_ov (ov_geq rfl rfl) rfl ?_
 refine sg_ rfl (nn_ ?_)
 refine gw_ret ?_
 refine nx_ret1 rfl rfl fun wx hm => ?_
 exact ⟨by rw [← ix_any], hm.g⟩
theorem taxesFault_any (l : List Tx) (A : Option Addr) (n c0 : Nat) (w : World) (hl : SlT txEnc 4 265 w A n l) (hg : Ons l w) (hok : ∀ x ∈ l, TxOk x) (hn : n ≤ 1000000) (hc : n ≤ c0) :
  Calls Tryz.prog 101 #[.slice A n c0] w (GotE w (taxesE l)) := by
 refine gw_enter ⟨62, w, none, []⟩ Tryz.func101 rfl Tryz.ntmps101 rfl (mem0 (X := [SlOld txEnc 4 265 w.heap.size none A n l, OnsOld w.heap.size none l]) (allF_cons hl.old (allF_cons hg.old allF_nil)) (allL_cons SlOld.lasts (allL_cons OnsOld.lasts allL_nil))) ?_
 refine sr_ ?_
 have hlen := hl.len
 refine sg_ rfl (nn_ (gw_seq (sr_ (mv_ rfl (wl_ov (ov_len es30 rfl) rfl ?_)))))
 refine wl_ov (ov_gtr rfl rfl) rfl ?_
 refine nn_ ?_
 refine gw_cond rfl (fun hh => ?_) (fun hh => ?_)
 ·have h1 : 10 < ((n : Nat) : Int) := by simpa using hh
  clear hh
  refine sr_ (sg_ rfl (nn_ ?_))
  refine gw_ret ?_
  refine nx_then_ret ?_
  refine nx_ret1 rfl rfl fun wx hm => ?_
  exact ⟨ret_int (by unfold taxesE; rw [if_pos (by omega)]), hm.g⟩
 have h1 : ¬ (10 < ((n : Nat) : Int)) := by simpa using hh
 clear hh
 refine gw_skip (nx_then (gw_seq (sr_ (mv_ rfl (wl_ov (ov_len es30 rfl) rfl (mv_ rfl (nn_ (gw_block ?_))))))))
 obtain ⟨TE, hTE⟩ : ∃ E, E = taxesE l := ⟨_, rfl⟩
 rw [← hTE]
 refine gw_loop (γ := Nat) (fun (k : Nat) => k ≤ n ∧ TE = taxG (l.take k) (l.drop k)) (fun (k : Nat) => [(0, .slice A n c0), (10, .slice A n c0), (11, .int .i64 ((n : Nat) : Int)), (12, .int .i64 ((k : Nat) : Int))]) (fun (k : Nat) => fun _ => True) (fun (k : Nat) => []) (fun (k : Nat) => []) (fun (k : Nat) => [SlOld txEnc 4 265 w.heap.size none A n l, OnsOld w.heap.size none l]) (fun (k : Nat) => n - k) 0 ⟨Nat.zero_le _, by rw [hTE]; unfold taxesE; rw [if_neg (by omega)]; rfl⟩ ⟨rfl, rfl, rfl, rfl, trivial⟩ (fun _ hm => hm.pick [] [] [0, 1] rfl rfl) ?_
 intro k hinv
 replace hinv : k ≤ n ∧ TE = taxG (l.take k) (l.drop k) := hinv
 refine sr_ (wl_ov (ov_lss rfl rfl) rfl (nn_ (gw_seq ?_)))
 refine gw_cond rfl (fun hh => ?_) (fun hh => ?_)
 ·have hk : ((k : Nat) : Int) < ((n : Nat) : Int) := by simpa using hh
  clear hh
  refine gw_skip (nx_then (gw_seq (gw_block (sr_ ?_))))
  obtain ⟨b, off, hA, _, _⟩ := hl.get (by omega)
  subst hA
  obtain ⟨x, hx⟩ : ∃ x, l[k]? = some x := ⟨_, List.getElem?_eq_getElem (by omega)⟩
  obtain ⟨key, mi, At, nt, ct, on, ov⟩ := x
  have hat := taxG_at hx
  obtain ⟨hk1, hnt⟩ := hok _ (List.mem_of_getElem? hx)
  have hk1 : key.size ≤ 1000000 := hk1
  have hnt : nt ≤ 1000 := hnt
  have hout := hinv
  refine mv_ rfl ?_
  refine wl_ov (ov_index (j := k) es30 rfl rfl (by omega)) rfl ?_
  refine wl_ov (ov_elem (vs := [.string key, .int .i64 mi, .slice At nt ct, .bool ov]) rz265 rfl (fun _ hm => (hm.fact 0 rfl).1) hx rfl rfl) rfl ?_
  refine wl_alloc zc265 rfl fun g1 => ?_
  refine sg_ rfl ?_
  refine wl_stores (cs' := [.string key, .int .i64 mi, .slice At nt ct, .bool ov]) 0 rz265 rfl rfl rfl rfl rfl rfl rfl rfl ?_
  refine nn_ (gw_seq (gw_block (sr_ (fd_ fo265_0 rfl rfl (lk_ sc9 0 rfl rfl rfl ?_)))))
  refine wl_callv rfl cb108 rfl rfl (fun wx hm => (key_any _ wx (by omega))) ?_
  refine wl_ov (ov_un_not rfl) rfl (sg_ rfl (nn_ ?_))
  refine gw_cond rfl (fun hh => ?_) (fun hh => ?_)
  ·have h2 : (keyB key) = false := by simpa using hh
   clear hh
   refine sr_ (sg_ rfl (nn_ ?_))
   refine gw_ret ?_
   refine nx_blk_ret (nx_then_ret (nx_blk_ret (nx_then_ret (nx_then_ret (nx_blk_ret (nx_then_ret ?_))))))
   have hE : taxE (l.take k) ⟨key, mi, At, nt, ct, on, ov⟩ = 5 := by unfold taxE; simp [h2]
   refine nx_ret1 rfl rfl fun wx hm => ?_
   exact ⟨ret_int (by rw [hout.2, hat, if_neg (by rw [hE]; decide), hE]), hm.g⟩
  have h2 : (keyB key) = true := by simpa using hh
  clear hh
  refine sr_ (mv_ rfl (mv_ rfl ?_))
  refine wl_ov (ov_sliceHi (hi := k) es30 rfl rfl rfl (by omega)) rfl ?_
  refine wl_ov (ov_makeFunc rfl rfl) rfl ?_
  refine wl_callv rfl cb204 rfl rfl (fun wx hm => (hasTax_r (l.take k) _ k c0 _ _ _ _ _ _ _ wx (SlT.takeT (hm.fact 0 rfl).1 (by omega)) (by omega) (hm.blkI 0 rfl))) ?_
  refine sg_ rfl (nn_ ?_)
  refine gw_cond rfl (fun hh => ?_) (fun hh => ?_)
  ·have h3 : ((l.take k).any (taxP key)) = true := by simpa using hh
   clear hh
   refine sr_ (sg_ rfl (nn_ ?_))
   refine gw_ret ?_
   refine nx_blk_ret (nx_then_ret (nx_blk_ret (nx_then_ret (nx_then_ret (nx_blk_ret (nx_then_ret ?_))))))
   have hE : taxE (l.take k) ⟨key, mi, At, nt, ct, on, ov⟩ = 6 := by unfold taxE; simp [h2, h3]
   refine nx_ret1 rfl rfl fun wx hm => ?_
   exact ⟨ret_int (by rw [hout.2, hat, if_neg (by rw [hE]; decide), hE]), hm.g⟩
  have h3 : ((l.take k).any (taxP key)) = false := by simpa using hh
  clear hh
  refine sr_ (fd_ fo265_1 rfl rfl (lk_ sc3 0 rfl rfl rfl ?_))
  refine wl_callw rfl cb133 rfl rfl (fun wx hm => (rin_any _ _ _ wx)) ?_
  refine wl_ov (ov_un_not rfl) rfl (sg_ rfl (nn_ ?_))
  refine gw_cond rfl (fun hh => ?_) (fun hh => ?_)
  ·have h4 : (inB mi 0 1000) = false := by simpa using hh
   clear hh
   refine sr_ (sg_ rfl (nn_ ?_))
   refine gw_ret ?_
   refine nx_blk_ret (nx_then_ret (nx_blk_ret (nx_then_ret (nx_then_ret (nx_blk_ret (nx_then_ret ?_))))))
   have hE : taxE (l.take k) ⟨key, mi, At, nt, ct, on, ov⟩ = 1 := by unfold taxE; simp [h2, h3, h4]
   refine nx_ret1 rfl rfl fun wx hm => ?_
   exact ⟨ret_int (by rw [hout.2, hat, if_neg (by rw [hE]; decide), hE]), hm.g⟩
  have h4 : (inB mi 0 1000) = true := by simpa using hh
  clear hh
  refine gw_skip (nx_blk_nrm (nx_then (sr_ ?_)))
  have hEo : taxE (l.take k) ⟨key, mi, At, nt, ct, on, ov⟩ = onsE on := by unfold taxE; simp [h2, h3, h4]
  refine wl_also (Y := SlOld itEnc 1 3 w.heap.size none At nt on) (SlOld.lasts) (fun wx hm => (hm.fact 1 rfl) _ (List.mem_of_getElem? hx)) ?_
  refine wl_look (R := on.length = nt) (fun wx hm => ((hm.fact 0 rfl)).1.len) ?_
  intro hol
  refine fd_ fo265_2 rfl rfl (lk_ sc22 0 rfl rfl rfl (wl_ov (ov_len es22 rfl) rfl (mv_ rfl (nn_ (gw_block ?_)))))
  refine gw_loop (γ := Nat) (fun (q : Nat) => q ≤ nt ∧ onsE on = scanE onE (prevOf on q) (on.drop q)) (fun (q : Nat) => [(0, .slice (some ⟨b, off, none⟩) n c0), (4, .pointer (some ⟨g1, 0, none⟩)), (10, .slice (some ⟨b, off, none⟩) n c0), (11, .int .i64 ((n : Nat) : Int)), (12, .int .i64 ((k : Nat) : Int)), (34, .slice At nt ct), (35, .int .i64 ((nt : Nat) : Int)), (36, .int .i64 ((q : Nat) : Int))]) (fun (q : Nat) => fun _ => True) (fun (q : Nat) => [(g1, 265, [.string key, .int .i64 mi, .slice At nt ct, .bool ov])]) (fun (q : Nat) => []) (fun (q : Nat) => [SlOld itEnc 1 3 w.heap.size none At nt on, SlOld txEnc 4 265 w.heap.size none (some ⟨b, off, none⟩) n l, OnsOld w.heap.size none l]) (fun (q : Nat) => nt - q) 0 ⟨Nat.zero_le _, rfl⟩ ⟨rfl, rfl, rfl, rfl, rfl, rfl, rfl, rfl, trivial⟩ (fun _ hm => hm.pick [0] [] [0, 1, 2] rfl rfl) ?_
  intro q hinv
  replace hinv : q ≤ nt ∧ onsE on = scanE onE (prevOf on q) (on.drop q) := hinv
  refine sr_ ?_
  have hin := hinv
  refine wl_ov (ov_lss rfl rfl) rfl (nn_ (gw_seq ?_))
  refine gw_cond rfl (fun hh => ?_) (fun hh => ?_)
  ·have hq : ((q : Nat) : Int) < ((nt : Nat) : Int) := by simpa using hh
   clear hh
   refine gw_skip (nx_then (gw_seq (gw_block (sr_ ?_))))
   refine wl_look (R := SlT itEnc 1 3 w At nt on) (fun wx hm => hg _ (List.mem_of_getElem? hx)) ?_
   intro hso
   obtain ⟨b2, o2, hA, _, _⟩ := hso.get (by omega)
   subst hA
   obtain ⟨z0, hy⟩ : ∃ x, on[q]? = some x := ⟨_, List.getElem?_eq_getElem (by omega)⟩
   have han := scanE_at onE on q _ hy
   refine mv_ rfl ?_
   refine wl_ov (ov_index (j := q) es22 rfl rfl (by omega)) rfl ?_
   refine wl_ov (ov_elem1 (k := 0) (v := .int .i64 z0) sc3 rfl (fun _ hm => (hm.fact 0 rfl).1) hy rfl rfl) rfl ?_
   refine sg_ rfl (sg_ rfl (nn_ (gw_seq (sr_ (mv_ rfl ?_)))))
   refine wl_callw rfl cb133 rfl rfl (fun wx hm => (rin_any _ _ _ wx)) ?_
   refine wl_ov (ov_un_not rfl) rfl (mv_ rfl ?_)
   rcases Bool.eq_false_or_eq_true (!(inB z0 1 6)) with h5 | h5
   ·refine wl_set 44 rfl (congrArg Value.bool h5) ?_
    refine goff rfl rfl rfl (goff rfl rfl rfl (pt_ rfl rfl (nn_ (ct_ rfl (sr_ (sg_ rfl (nn_ ?_)))))))
    refine gw_ret ?_
    refine nx_then_ret (nx_blk_ret (nx_then_ret (nx_then_ret (nx_blk_ret (nx_blk_ret (nx_then_ret (nx_then_ret (nx_blk_ret (nx_then_ret ?_)))))))))
    have hE : onE (prevOf on q) z0 = 4 := by unfold onE; simp [h5]
    have hE2 : onsE on = 4 := by rw [hin.2, han, if_neg (by rw [hE]; decide), hE]
    refine nx_ret1 rfl rfl fun wx hm => ?_
    exact ⟨ret_int (by rw [hout.2, hat, if_neg (by rw [hEo, hE2]; decide), hEo, hE2]), hm.g⟩
   refine wl_set 44 rfl (congrArg Value.bool h5) ?_
   refine wl_guard_on rfl rfl rfl (mv_ rfl (wl_guard_on rfl rfl rfl (wl_ov (ov_eql rfl rfl) rfl (pf_ rfl rfl (nn_ ?_)))))
   refine gw_cond rfl (fun hh => ?_) (fun hh => ?_)
   ·have h6 : z0 = 5 := by simpa using hh
    clear hh
    refine sr_ (sg_ rfl (nn_ ?_))
    refine gw_ret ?_
    refine nx_then_ret (nx_blk_ret (nx_then_ret (nx_then_ret (nx_blk_ret (nx_blk_ret (nx_then_ret (nx_then_ret (nx_blk_ret (nx_then_ret ?_)))))))))
    have hE : onE (prevOf on q) z0 = 4 := by unfold onE; simp [h6]
    have hE2 : onsE on = 4 := by rw [hin.2, han, if_neg (by rw [hE]; decide), hE]
    refine nx_ret1 rfl rfl fun wx hm => ?_
    exact ⟨ret_int (by rw [hout.2, hat, if_neg (by rw [hEo, hE2]; decide), hEo, hE2]), hm.g⟩
   have h6 : ¬ (z0 = 5) := by simpa using hh
   clear hh
   refine gw_skip (nx_then (sr_ ?_))
   by_cases hq0 : q = 0
   ·have hO : onB (prevOf on q) z0 = false := by rw [prevOf_zero hq0]; rfl
    refine mv_ rfl ?_
    refine wl_ov (ov_gtr rfl rfl) rfl ?_
    refine wl_set 49 (v' := .bool false) rfl (congrArg Value.bool (decide_eq_false (by omega))) ?_
    refine mv_ rfl (goff rfl rfl rfl (goff rfl rfl rfl (goff rfl rfl rfl (goff rfl rfl rfl (goff rfl rfl rfl (goff rfl rfl rfl (goff rfl rfl rfl (goff rfl rfl rfl (pf_ rfl rfl (nn_ (cf_ rfl (gw_skip ?_))))))))))))
    refine nx_blk_nrm (nx_then (gw_region (ad_ rfl rfl (mv_ rfl (wl_nil ?_)))))
    have hE : onE (prevOf on q) z0 = 0 := by unfold onE; simp [h5, h6, hO]
    exact nx_round (q + 1) ⟨by omega, by rw [hin.2, han, if_pos hE]⟩ (by omega) ⟨rfl, rfl, rfl, rfl, rfl, rfl, rfl, (some_int (by omega)), trivial⟩ (fun _ hm => hm.pick [0] [] [0, 1, 2] rfl rfl)
   obtain ⟨z1, hz⟩ : ∃ x, on[q - 1]? = some x := ⟨_, List.getElem?_eq_getElem (by omega)⟩
   refine mv_ rfl ?_
   refine wl_ov (ov_gtr rfl rfl) rfl ?_
   refine wl_set 49 (v' := .bool true) rfl (congrArg Value.bool (decide_eq_true (by omega))) ?_
   refine mv_ rfl (wl_guard_on rfl rfl rfl (mv_ rfl (wl_guard_on rfl rfl rfl (fd_ fo265_2 rfl rfl (wl_guard_on rfl rfl rfl (lk_ sc22 0 rfl rfl rfl (wl_guard_on rfl rfl rfl (mv_ rfl (wl_guard_on rfl rfl rfl ?_)))))))))
   refine wl_ov (ov_sub rfl rfl (by omega) (by omega)) rfl ?_
   refine wl_set 55 (v' := .int .i64 ((q - 1 : Nat) : Int)) rfl (congrArg (Value.int .i64) (by omega)) ?_
   refine wl_guard_on rfl rfl rfl ?_
   refine wl_ov (ov_index (j := q - 1) es22 rfl rfl (by omega)) rfl ?_
   refine wl_guard_on rfl rfl rfl ?_
   refine wl_ov (ov_elem1 (k := 0) (v := .int .i64 z1) sc3 rfl (fun _ hm => (hm.fact 0 rfl).1) hz rfl rfl) rfl ?_
   refine wl_guard_on rfl rfl rfl (wl_ov (ov_leq rfl rfl) rfl (pt_ rfl rfl (nn_ ?_)))
   refine gw_cond rfl (fun hh => ?_) (fun hh => ?_)
   ·have h7 : z0 ≤ z1 := by simpa using hh
    clear hh
    refine sr_ ?_
    have hO : onB (prevOf on q) z0 = true := by rw [prevOf_pos hq0 hz]; exact decide_eq_true h7
    refine sg_ rfl (nn_ ?_)
    refine gw_ret ?_
    refine nx_blk_ret (nx_then_ret (nx_then_ret (nx_blk_ret (nx_blk_ret (nx_then_ret (nx_then_ret (nx_blk_ret (nx_then_ret ?_))))))))
    have hE : onE (prevOf on q) z0 = 7 := by unfold onE; simp [h5, h6, hO]
    have hE2 : onsE on = 7 := by rw [hin.2, han, if_neg (by rw [hE]; decide), hE]
    refine nx_ret1 rfl rfl fun wx hm => ?_
    exact ⟨ret_int (by rw [hout.2, hat, if_neg (by rw [hEo, hE2]; decide), hEo, hE2]), hm.g⟩
   have h7 : ¬ (z0 ≤ z1) := by simpa using hh
   clear hh
   refine gw_skip (nx_blk_nrm (nx_then (gw_region ?_)))
   have hO : onB (prevOf on q) z0 = false := by rw [prevOf_pos hq0 hz]; exact decide_eq_false h7
   refine ad_ rfl rfl (mv_ rfl (wl_nil ?_))
   have hE : onE (prevOf on q) z0 = 0 := by unfold onE; simp [h5, h6, hO]
   exact nx_round (q + 1) ⟨by omega, by rw [hin.2, han, if_pos hE]⟩ (by omega) ⟨rfl, rfl, rfl, rfl, rfl, rfl, rfl, (some_int (by omega)), trivial⟩ (fun _ hm => hm.pick [0] [] [0, 1, 2] rfl rfl)
  have hq : ¬ (((q : Nat) : Int) < ((nt : Nat) : Int)) := by simpa using hh
  clear hh
  refine gw_exit ?_
  refine nx_then_exit (nx_then_exit ?_)
  refine nx_blk_here ?_
  refine nx_blk_nrm (nx_then (gw_region (ad_ rfl rfl (mv_ rfl (wl_nil ?_)))))
  have hE : taxE (l.take k) ⟨key, mi, At, nt, ct, on, ov⟩ = 0 := by rw [hEo, hin.2, scanE_end _ _ _ _ (by omega)]
  exact nx_round (k + 1) ⟨by omega, by rw [hout.2, hat, if_pos hE]⟩ (by omega) ⟨rfl, rfl, rfl, (some_int (by omega)), trivial⟩ (fun _ hm => hm.pick [] [] [1, 2] rfl rfl)
 have hk : ¬ (((k : Nat) : Int) < ((n : Nat) : Int)) := by simpa using hh
 clear hh
 refine gw_exit ?_
 refine nx_then_exit (nx_then_exit ?_)
 refine nx_blk_here ?_
 refine nx_then (sr_ (sg_ rfl (nn_ ?_)))
 refine gw_ret ?_
 refine nx_ret1 rfl rfl fun wx hm => ?_
 exact ⟨ret_int (by rw [hinv.2, taxG_end (by omega)]), hm.g⟩
end Go.Proofs.YtnmpniaocjmkfaaGreatDoor
namespace Go.Proofs.YtnmpniaocjmkfaaGreatDoor
open Go.RowKit
def sumBy {α : Type} (f : α → Int) : List α → Int
  | [] => 0
  | x :: r => f x + sumBy f r
theorem sumBy_append {α : Type} (f : α → Int) : ∀ a b : List α, sumBy f (a ++ b) = sumBy f a + sumBy f b
  | [], b => by simp [sumBy]
  | x :: r, b => by rw [List.cons_append]; simp only [sumBy]; rw [sumBy_append f r b]; omega
theorem sumBy_take {α : Type} (f : α → Int) {l : List α} {k : Nat} {x : α} (h : l[k]? = some x) : sumBy f (l.take (k + 1)) = sumBy f (l.take k) + f x := by
  rw [List.take_add_one, h, sumBy_append]
  simp [sumBy]
theorem sumBy_bound {α : Type} {f : α → Int} {a b : Int} : ∀ {l : List α}, (∀ x ∈ l, a ≤ f x ∧ f x ≤ b) → a * l.length ≤ sumBy f l ∧ sumBy f l ≤ b * l.length
  | [], _ => by simp [sumBy]
  | x :: r, h => by
    have h1 := h x (List.mem_cons_self ..)
    have h2 := sumBy_bound (l := r) (fun y hy => h y (List.mem_cons_of_mem _ hy))
    simp only [sumBy, List.length_cons]
    have e1 : a * ((r.length + 1 : Nat) : Int) = a * (r.length : Int) + a := by rw [Int.natCast_add, Int.mul_add]; simp
    have e2 : b * ((r.length + 1 : Nat) : Int) = b * (r.length : Int) + b := by rw [Int.natCast_add, Int.mul_add]; simp
    omega
end Go.Proofs.YtnmpniaocjmkfaaGreatDoor
namespace Go.Proofs.YtnmpniaocjmkfaaGreatDoor
open Go.RowKit
structure Ln where
  kind : Int
  key : ByteArray
  cents : Int
def lnEnc (x : Ln) : List Value := [.int .i64 x.kind, .string x.key, .int .i64 x.cents]
theorem ln_len (x : Ln) : (lnEnc x).length = 3 := rfl
theorem info_ln : (Tryz.prog.info? 47).map (·.size) = some 3 := by kernel_rfl
def centsOf (x : Ln) : Int := x.cents
set_option maxRecDepth 100000 in
set_option maxHeartbeats 1000000 in
theorem sum_any (l : List Ln) (A : Option Addr) (n c : Nat) (w : World) (hl : SlT lnEnc 3 47 w A n l) (hb : ∀ x ∈ l, -1000000000000 ≤ x.cents ∧ x.cents ≤ 1000000000000) (hn : n ≤ 1000000) :
    Calls Tryz.prog 149 #[.slice A n c] w (GotE w (sumBy centsOf l)) := by
  have hlen := hl.len
  have Hb := Lib.hid hb
  clear hb
  go_enter Tryz.func149, Tryz.ntmps149
  go_wp2_with fail
  go_loopw [3, 8] (fun s i wr => ∃ k : Nat, k ≤ n ∧ i = .int .i64 k ∧ s = .int .i64 (sumBy centsOf (l.take k)) ∧ w.grownBy wr none) (fun _ i _ => n - (intOf i).toNat)
  case atStart => exact ⟨0, Nat.zero_le _, rfl, rfl, World.grownBy.refl _ _⟩
  case round =>
    obtain ⟨k, hk, rfl, rfl, hgr⟩ := hrel
    by_cases hlt : k < n
    · have hlr := hl.grow0 hgr
      obtain ⟨b, off, rfl, hbl, hrg⟩ := hlr.get (by omega)
      obtain ⟨g, hg⟩ : ∃ g, l[k]? = some g := ⟨_, List.getElem?_eq_getElem (by omega)⟩
      have hs1 := sumBy_take centsOf hg
      have hb1 := sumBy_bound (l := l.take k) (f := centsOf) (fun x hx => Hb.out x (List.mem_of_mem_take hx))
      have hb2 : (l.take k).length = k := by simp; omega
      rw [hb2] at hb1
      obtain ⟨S, hS⟩ : ∃ S, S = sumBy centsOf (l.take k) := ⟨_, rfl⟩
      have hgn := Hb.out g (List.mem_of_getElem? hg)
      obtain ⟨kind, key, cents⟩ := g
      have hr0 := hrg k _ hg
      have hr1 : wr.rangeAt b (off + k * 3) [.int .i64 kind, .string key, .int .i64 cents] := hr0
      have hm0 : -1000000000000 ≤ cents := hgn.1
      have hm1 : cents ≤ 1000000000000 := hgn.2
      rw [← hS] at hs1 hb1 ⊢
      have hS0 : -1000000000000 * k ≤ S := hb1.1
      have hS1 : S ≤ 1000000000000 * k := hb1.2
      have HK := Lib.hid (show sumBy centsOf (l.take (k + 1)) = S + cents from hs1)
      clear hr0 hrg hg hs1 hb1 hb2 hS hgn
      go_wp2_with (with_reducible refine wpList_load_rng rfl 47 (.tmp 10) rfl b (off + k * 3) rfl _ _ hr1 Tryz.underlying47 rfl 3 info_ln rfl ?_)
      go_roundw
      case rel => exact ⟨k + 1, by omega, by go_num, ret_val (by rw [HK.out]), grow_alloc hgr _⟩
      case measure => simp [intOf]; omega
    · go_wp2_with fail
      go_ret
      exact ⟨ret_int (by rw [List.take_of_length_le (by omega)]), hgr⟩
end Go.Proofs.YtnmpniaocjmkfaaGreatDoor
namespace Go.Proofs.YtnmpniaocjmkfaaGreatDoor
open Go.RowKit
theorem info_wn : (Tryz.prog.info? 35).map (·.size) = some 2 := by kernel_rfl
def Far (v : Int) : Prop := -4000000000000000 ≤ v ∧ v ≤ 4000000000000000
theorem mem_far {xs : List Int} {v : Int} (hv : v ∈ xs) (h : ∀ x ∈ xs, -100000000 ≤ x ∧ x ≤ 100000000) : -100000000 ≤ v ∧ v ≤ 100000000 := h v hv
set_option maxRecDepth 100000 in
set_option maxHeartbeats 2000000 in
theorem gtime_any (w : World) (B sb m : Nat) (hS : Strm 25 w B sb m) (hm : m ≤ 100000000000) :
    Calls Tryz.prog 93 #[.pointer (some ⟨sb, 0, none⟩)] w (fun e w' => ∃ fr to_ : Int, Far fr ∧ Far to_ ∧ e = .returned (.agg #[.int .i64 fr, .int .i64 to_]) ∧ Strm 25 w' B sb (m + 10) ∧ w.grownBy w' (some sb)) := by
  have hlt := hS.lt
  go_enter Tryz.func93, Tryz.ntmps93
  go_wp2_with fail
  have hb0 := Blk.at_ w rfl 35 [.int .i64 0, .int .i64 0]
  have hne : some w.heap.size ≠ some sb := fun h => absurd (Option.some.inj h) (by omega)
  refine (pick_any [0, 0, 700, 5040, 5700, 6480, 6500, 8000, 10079, 20000] _ _ _ _ B sb _ ((hS.alloc _).alloc _) (by omega) (by simp) (by simp) (Blk.at_ (w.alloc _) (by simp) _ _) (by omega)).mono ?_
  rintro e w1 ⟨fr, hfr, rfl, hS1, hg1'⟩
  have hf : -100000000 ≤ fr ∧ fr ≤ 100000000 := mem_far hfr (by decide)
  have hf0 := hf.1
  have hf1 := hf.2
  have hb1 := (hb0.alloc _).grown hg1' hne
  have hg1 : w.grownBy w1 (some sb) := grow_trans (grow_alloc (grow_alloc (World.grownBy.refl _ _) _) _) hg1'
  clear hS hb0 hg1' hfr hf
  go_wp2_with fail
  have hs1 := hS1.lt
  refine (pick_any [1, 59, 60, 61, 300, 1440, 1441, 1500, 2880, 4320, 5850, 7200, 8641, 10080, 11520, 14800, 21600] _ _ _ _ B sb _ (hS1.alloc _) (by omega) (by simp) (by simp) (Blk.at_ _ rfl _ _) (by omega)).mono ?_
  rintro e w2 ⟨v, hv, rfl, hS2, hg2'⟩
  have hf : -100000000 ≤ v ∧ v ≤ 100000000 := mem_far hv (by decide)
  have hv0 := hf.1
  have hv1 := hf.2
  have hb2 := (hb1.alloc _).grown hg2' hne
  have hg2 := grow_trans (grow_alloc hg1 _) hg2'
  clear hS1 hb1 hg1 hg2' hv hf hs1
  go_wp2_with fail
  have hs2 := hS2.lt
  obtain ⟨to_, hto⟩ : ∃ t, t = fr + v := ⟨_, rfl⟩
  rw [← hto]
  have hto0 : -200000000 ≤ to_ := by omega
  have hto1 : to_ ≤ 200000000 := by omega
  clear hto
  have hne2 : some w2.heap.size ≠ some sb := fun h => absurd (Option.some.inj h) (by omega)
  refine (flip_any 15 _ B sb _ (hS2.alloc _) (by omega) (by omega) (by omega)).mono ?_
  rintro e w3 ⟨fl, rfl, hS3, hg3'⟩
  have hD := (Blk.at_ w2 rfl 35 [.int .i64 fr, .int .i64 to_]).grown hg3' hne2
  have hR := (hb2.alloc _).grown hg3' hne
  have hg3 := grow_trans (grow_alloc hg2 _) hg3'
  have hlow : w.heap.size < w2.heap.size := hb2.lt
  have hsz3 := hS3.lt
  clear hS2 hb2 hg2 hg3' hs2 hne2
  cases fl
  · go_wp2_with (first
      | (with_reducible refine wpList_load_all rfl 35 (.tmp 4) rfl w2.heap.size _ _ _ hD rfl Tryz.underlying35 rfl 2 info_wn rfl ?_)
      | (with_reducible refine wpList_store_all rfl 35 (.tmp 2) (.tmp 23) rfl w.heap.size _ _ [.int .i64 fr, .int .i64 to_] hR rfl rfl 2 info_wn rfl rfl (by simp [Value.oneCell']) ?_
         intro w9 hR9 hg9))
    refine ret_blk (p := 2) (ty := 35) rfl w.heap.size _ _ _ hR9 rfl Tryz.underlying35 rfl 2 info_wn rfl rfl ?_
    exact ⟨fr, to_, ⟨by omega, by omega⟩, ⟨by omega, by omega⟩, rfl, (hS3.grown hg9 (fun k h => by cases h; omega)).more (by omega), grow_own hg3 hg9 (fun k h => by cases h; omega)⟩
  · go_wp2_with fail
    refine (odd_any 0 1000 _ B sb _ hS3 (by omega) (by omega) (by omega) (by omega)).mono ?_
    rintro e w4 ⟨o1, ho1, rfl, hS4, hg4⟩
    have ho10 := ho1.1
    have ho11 := ho1.2
    have hD4 := hD.grown hg4 (fun h => absurd (Option.some.inj h) (by omega))
    have hR4 := hR.grown hg4 hne
    have hw4 := grow_trans hg3 hg4
    clear hS3 hD hR hg3 hg4 ho1
    go_wp2_with fail
    have hs4 := hS4.lt
    refine (pick_any [0, 1000, 5761439, 5761440, 172800, 173801] _ _ _ _ B sb _ (hS4.alloc _) (by omega) (by simp) (by simp) (Blk.at_ _ rfl _ _) (by omega)).mono ?_
    rintro e w5 ⟨u, hu, rfl, hS5, hg5'⟩
    have hf : -100000000 ≤ u ∧ u ≤ 100000000 := mem_far hu (by decide)
    have hu0 := hf.1
    have hu1 := hf.2
    have hD5 := (hD4.alloc _).grown hg5' (fun h => absurd (Option.some.inj h) (by omega))
    have hR5 := (hR4.alloc _).grown hg5' hne
    have hw5 := grow_trans (grow_alloc hw4 _) hg5'
    clear hS4 hD4 hR4 hw4 hg5' hu hf hs4
    go_wp2_with (first
      | (with_reducible refine wpList_store_all rfl 35 (.tmp 4) (.tmp 22) rfl w2.heap.size _ _ [.int .i64 o1, .int .i64 u] hD5 rfl rfl 2 info_wn rfl rfl (by simp [Value.oneCell']) ?_
         intro w6 hD6 hg6
         have hR6 := hR5.grown hg6 (fun h => absurd (Option.some.inj h) (by omega)))
      | (with_reducible refine wpList_load_all rfl 35 (.tmp 4) rfl w2.heap.size _ _ _ hD6 rfl Tryz.underlying35 rfl 2 info_wn rfl ?_)
      | (with_reducible refine wpList_store_all rfl 35 (.tmp 2) (.tmp 23) rfl w.heap.size _ _ [.int .i64 o1, .int .i64 u] hR6 rfl rfl 2 info_wn rfl rfl (by simp [Value.oneCell']) ?_
         intro w9 hR9 hg9))
    refine ret_blk (p := 2) (ty := 35) rfl w.heap.size _ _ _ hR9 rfl Tryz.underlying35 rfl 2 info_wn rfl rfl ?_
    exact ⟨o1, u, ⟨by omega, by omega⟩, ⟨by omega, by omega⟩, rfl, ((hS5.grown hg6 (fun k h => by cases h; omega)).grown hg9 (fun k h => by cases h; omega)).more (by omega), grow_own (grow_own hw5 hg6 (fun k h => by cases h; omega)) hg9 (fun k h => by cases h; omega)⟩
end Go.Proofs.YtnmpniaocjmkfaaGreatDoor
namespace Go.Proofs.YtnmpniaocjmkfaaGreatDoor
open Go.RowKit
theorem sumOf_any (l : List Ln) (A : Option Addr) (n c : Nat) (w : World) (hl : SlT lnEnc 3 47 w A n l) (hb : ∀ x ∈ l, -1000000000000 ≤ x.cents ∧ x.cents ≤ 1000000000000) (hn : n ≤ 1000000) :
  Calls Tryz.prog 113 #[.slice A n c] w (GotE w (sumBy centsOf l)) := by
 refine gw_enter ⟨18, w, none, []⟩ Tryz.func113 rfl Tryz.ntmps113 rfl (mem0 (X := [SlOld lnEnc 3 47 w.heap.size none A n l]) (allF_cons hl.old allF_nil) (allL_cons SlOld.lasts allL_nil)) ?_
 refine sr_ ?_
 have hlen := hl.len
 refine sg_ rfl (nn_ (sr_ (sg_ rfl (nn_ (gw_seq (sr_ (mv_ rfl (wl_ov (ov_len es40 rfl) rfl (mv_ rfl ?_)))))))))
 refine nn_ (gw_block ?_)
 refine gw_loop (γ := Nat) (fun (k : Nat) => k ≤ n) (fun (k : Nat) => [(2, .int .i64 0), (3, .int .i64 (sumBy centsOf (l.take k))), (6, .slice A n c), (7, .int .i64 ((n : Nat) : Int)), (8, .int .i64 ((k : Nat) : Int))]) (fun (k : Nat) => fun _ => True) (fun (k : Nat) => []) (fun (k : Nat) => []) (fun (k : Nat) => [SlOld lnEnc 3 47 w.heap.size none A n l]) (fun (k : Nat) => n - k) 0 (Nat.zero_le _) ⟨rfl, rfl, rfl, rfl, rfl, trivial⟩ (fun _ hm => hm.pick [] [] [0] rfl rfl) ?_
 intro k hinv
 replace hinv : k ≤ n := hinv
 refine sr_ (wl_ov (ov_lss rfl rfl) rfl (nn_ (gw_seq ?_)))
 refine gw_cond rfl (fun hh => ?_) (fun hh => ?_)
 ·have hk : ((k : Nat) : Int) < ((n : Nat) : Int) := by simpa using hh
  clear hh
  refine gw_skip (nx_then (gw_seq (gw_block (sr_ ?_))))
  obtain ⟨b, off, hA, _, _⟩ := hl.get (by omega)
  subst hA
  obtain ⟨x, hx⟩ : ∃ x, l[k]? = some x := ⟨_, List.getElem?_eq_getElem (by omega)⟩
  obtain ⟨kind, key, cents⟩ := x
  have hs1 := sumBy_take centsOf hx
  have hb1 := sumBy_bound (l := l.take k) (f := centsOf) (fun x hx => hb x (List.mem_of_mem_take hx))
  have hb2 : (l.take k).length = k := by simp; omega
  rw [hb2] at hb1
  have hc := hb _ (List.mem_of_getElem? hx)
  have hc0 : -1000000000000 ≤ cents := hc.1
  have hc1 : cents ≤ 1000000000000 := hc.2
  have hs2 : sumBy centsOf (l.take (k + 1)) = sumBy centsOf (l.take k) + cents := hs1
  refine wl_ov (ov_index (j := k) es40 rfl rfl (by omega)) rfl ?_
  refine wl_ov (ov_elem (vs := [.int .i64 kind, .string key, .int .i64 cents]) rz47 rfl (fun _ hm => (hm.fact 0 rfl).1) hx rfl rfl) rfl ?_
  refine wl_alloc zc47 rfl fun g1 => ?_
  refine wl_stores (cs' := [.int .i64 kind, .string key, .int .i64 cents]) 0 rz47 rfl rfl rfl rfl rfl rfl rfl rfl ?_
  refine nn_ (gw_region (mv_ rfl (fd_ fo47_2 rfl rfl (lk_ sc3 0 rfl rfl rfl (ad_ rfl rfl (sg_ rfl (wl_nil (nx_blk_nrm (nx_then (gw_region (ad_ rfl rfl (mv_ rfl ?_))))))))))))
  refine wl_nil ?_
  exact nx_round (k + 1) (by omega) (by omega) ⟨rfl, (some_int hs2.symm), rfl, rfl, (some_int (by omega)), trivial⟩ (fun _ hm => hm.pick [] [] [0] rfl rfl)
 have hk : ¬ (((k : Nat) : Int) < ((n : Nat) : Int)) := by simpa using hh
 clear hh
 refine gw_exit ?_
 refine nx_then_exit (nx_then_exit ?_)
 refine nx_blk_here ?_
 refine nx_then (sr_ (mv_ rfl (sg_ rfl (nn_ ?_))))
 refine gw_ret ?_
 refine nx_ret1 rfl rfl fun wx hm => ?_
 exact ⟨ret_int (by rw [List.take_of_length_le (by omega)]), hm.g⟩
end Go.Proofs.YtnmpniaocjmkfaaGreatDoor
namespace Go.Proofs.YtnmpniaocjmkfaaGreatDoor
open Go.RowKit
section
variable {P : Program} {nn : Nat} {S : List (Nat × Value)} {Z : World → Prop} {d : Nat} {ty : TypeId} {pos : String} {aft : Array Edge}
theorem tdiv_is (m : Int) {n : Int} (h : 0 < n) : n * m.tdiv n + m.tmod n = m ∧ -n < m.tmod n ∧ m.tmod n < n := ⟨Int.mul_tdiv_add_tmod m n, Int.lt_tmod_of_pos m h, Int.tmod_lt_of_pos m h⟩
theorem ov_quoT {t t' : TypeId} {x y : Operand} {m n : Int} (hx : rd S x = some (.int .i64 m)) (hy : rd S y = some (.int .i64 n)) (h0 : -9223372036854775808 ≤ m.tdiv n) (h1 : m.tdiv n ≤ 9223372036854775807) (h2 : 0 < n) : OV P nn S Z ⟨some d, .binOp .quo t x y t', ty, pos, aft, none⟩ (.int .i64 (m.tdiv n)) :=
  ov_bin hx hy (fun w => by
    have hw : IntKind.i64.wrap (m.tdiv n) = m.tdiv n := IntWalk.i64_in _ (by omega)
    have hn : ¬ n = 0 := by omega
    simp [binOp_quo, Op.intDiv, hw, hn, go_sem])
theorem ov_remT {t t' : TypeId} {x y : Operand} {m n : Int} (hx : rd S x = some (.int .i64 m)) (hy : rd S y = some (.int .i64 n)) (_h0 : True) (_h1 : True) (h2 : 0 < n) : OV P nn S Z ⟨some d, .binOp .rem t x y t', ty, pos, aft, none⟩ (.int .i64 (m.tmod n)) :=
  ov_bin hx hy (fun w => by
    have hn : ¬ n = 0 := by omega
    simp [binOp_rem, Op.intDiv, hn, go_sem])
end
/-- Of a number of thousandths of a cent: the nearest cents. -/
def nearV (x : Int) : Int := (x + 500) / 1000
def onSum (on : List Int) (l : List Ln) : Int := sumBy (fun x => if x.kind ∈ on then x.cents else 0) l
def taxN (ls out : List Ln) (x : Tx) : Int := onSum x.on ls + (bif x.over then sumBy centsOf out else 0)
def taxL (ls out : List Ln) (x : Tx) : Ln := ⟨5, x.key, nearV (taxN ls out x * x.mille)⟩
def taxesV (ls : List Ln) : List Ln → List Tx → List Ln
  | out, [] => out
  | out, x :: r => taxesV ls (out ++ [taxL ls out x]) r
theorem taxesV_at {ls out : List Ln} {l : List Tx} {i : Nat} {x : Tx} (h : l[i]? = some x) : taxesV ls out (l.drop i) = taxesV ls (out ++ [taxL ls out x]) (l.drop (i + 1)) := by
  obtain ⟨hi, rfl⟩ := List.getElem?_eq_some_iff.1 h
  rw [List.drop_eq_getElem_cons hi]; rfl
def pwT : Nat → Int
  | 0 => 0
  | k + 1 => 2 * pwT k + 200000000001
theorem pwT_le {k : Nat} (h : k ≤ 2) : 0 ≤ pwT k ∧ pwT k ≤ 600000000003 := by
  match k with
  | 0 => simp [pwT]
  | 1 => simp [pwT]
  | 2 => simp [pwT]
  | n + 3 => omega
theorem mul_rng {n p M : Int} (h0 : -M ≤ n) (h1 : n ≤ M) (h2 : 0 ≤ p) (h3 : p ≤ 1000) : -(M * 1000) ≤ n * p ∧ n * p ≤ M * 1000 := by
  have hM : 0 ≤ M := by omega
  have a1 : n * p ≤ M * p := Int.mul_le_mul_of_nonneg_right h1 h2
  have a2 : M * p ≤ M * 1000 := Int.mul_le_mul_of_nonneg_left h3 hM
  have a3 : -M * p ≤ n * p := Int.mul_le_mul_of_nonneg_right h0 h2
  have a4 : -M * p = -(M * p) := Int.neg_mul _ _
  omega
theorem near_rng {n p M : Int} (h0 : -M ≤ n) (h1 : n ≤ M) (h2 : 0 ≤ p) (h3 : p ≤ 1000) : -(M + 1) ≤ nearV (n * p) ∧ nearV (n * p) ≤ M + 1 := by
  have := mul_rng h0 h1 h2 h3
  unfold nearV; omega
theorem near_two (n p : Int) : (2 * n * p + 1000) / 2000 = nearV (n * p) := by
  rw [Int.mul_assoc]; unfold nearV; omega
theorem taxL_ok {ls out : List Ln} {x : Tx} {k : Nat} (hs : -200000000000 ≤ onSum x.on ls ∧ onSum x.on ls ≤ 200000000000) (ho : -pwT k ≤ sumBy centsOf out ∧ sumBy centsOf out ≤ pwT k) (hk : k ≤ 2) (hm : 0 ≤ x.mille ∧ x.mille ≤ 1000) :
    (-1000000000000 ≤ (taxL ls out x).cents ∧ (taxL ls out x).cents ≤ 1000000000000) ∧ (-pwT (k + 1) ≤ sumBy centsOf (out ++ [taxL ls out x]) ∧ sumBy centsOf (out ++ [taxL ls out x]) ≤ pwT (k + 1)) := by
  have hp := pwT_le hk
  have hn : -(pwT k + 200000000000) ≤ taxN ls out x ∧ taxN ls out x ≤ pwT k + 200000000000 := by
    unfold taxN; cases x.over <;> simp only [cond_true, cond_false] <;> omega
  have hr := near_rng hn.1 hn.2 hm.1 hm.2
  have hc : (taxL ls out x).cents = nearV (taxN ls out x * x.mille) := rfl
  rw [sumBy_append]
  simp only [sumBy, pwT, centsOf]
  rw [hc]
  omega
theorem nearest_any (x : Int) (w : World) (h0 : -1000000000000000000 ≤ x) (h1 : x ≤ 1000000000000000000) :
  Calls Tryz.prog 247 #[.int .i64 x] w (GotE w (nearV x)) := by
 refine gw_enter ⟨16, w, none, []⟩ Tryz.func247 rfl Tryz.ntmps247 rfl (mem0 (X := []) allF_nil allL_nil) ?_
 refine sr_ ?_
 have ht := tdiv_is (x + 500) (show (0 : Int) < 1000 by decide)
 obtain ⟨ht0, ht1, ht2⟩ := ht
 refine sg_ rfl (nn_ (sr_ (mv_ rfl (ad_ rfl rfl ?_))))
 refine wl_ov (ov_quoT rfl rfl (by omega) (by omega) (by omega)) rfl ?_
 refine mv_ rfl (ad_ rfl rfl ?_)
 refine wl_ov (ov_remT rfl rfl trivial trivial (by omega)) rfl ?_
 refine sg_ rfl (sg_ rfl (nn_ (gw_seq (sr_ (mv_ rfl (wl_ov (ov_lss rfl rfl) rfl (nn_ ?_)))))))
 refine gw_cond rfl (fun hh => ?_) (fun hh => ?_)
 ·have h : Int.tmod (x + 500) 1000 < 0 := by simpa using hh
  clear hh
  refine gw_region (mv_ rfl ?_)
  refine wl_ov (ov_sub rfl rfl (by omega) (by omega)) rfl ?_
  refine sg_ rfl (nn_ (sr_ (mv_ rfl (sg_ rfl (nn_ ?_)))))
  refine gw_ret ?_
  refine nx_ret1 rfl rfl fun wx hm => ?_
  exact ⟨ret_int (by unfold nearV; omega), hm.g⟩
 have h : ¬ (Int.tmod (x + 500) 1000 < 0) := by simpa using hh
 clear hh
 refine gw_skip (nx_then (sr_ (mv_ rfl (sg_ rfl (nn_ ?_)))))
 refine gw_ret ?_
 refine nx_ret1 rfl rfl fun wx hm => ?_
 exact ⟨ret_int (by unfold nearV; omega), hm.g⟩
theorem floor_any (x : Int) (w : World) (h0 : -1000000000000000000 ≤ x) (h1 : x ≤ 1000000000000000000) :
  Calls Tryz.prog 214 #[.int .i64 x, .int .i64 2000] w (GotE w (x / 2000)) := by
 refine gw_enter ⟨17, w, none, []⟩ Tryz.func214 rfl Tryz.ntmps214 rfl (mem0 (X := []) allF_nil allL_nil) ?_
 refine sr_ ?_
 have ht := tdiv_is x (show (0 : Int) < 2000 by decide)
 obtain ⟨ht0, ht1, ht2⟩ := ht
 refine sg_ rfl (nn_ (sr_ (mv_ rfl (mv_ rfl ?_))))
 refine wl_ov (ov_quoT rfl rfl (by omega) (by omega) (by omega)) rfl ?_
 refine sg_ rfl (nn_ (gw_seq (sr_ (mv_ rfl (mv_ rfl ?_)))))
 refine wl_ov (ov_mul rfl rfl (by omega) (by omega)) rfl ?_
 refine mv_ rfl ?_
 refine wl_ov (ov_gtr rfl rfl) rfl ?_
 refine nn_ ?_
 refine gw_cond rfl (fun hh => ?_) (fun hh => ?_)
 ·have h : x < (Int.tdiv x 2000) * 2000 := by simpa using hh
  clear hh
  refine gw_region (mv_ rfl ?_)
  refine wl_ov (ov_sub rfl rfl (by omega) (by omega)) rfl ?_
  refine sg_ rfl (nn_ (sr_ (mv_ rfl (sg_ rfl (nn_ ?_)))))
  refine gw_ret ?_
  refine nx_ret1 rfl rfl fun wx hm => ?_
  exact ⟨ret_int (by omega), hm.g⟩
 have h : ¬ (x < (Int.tdiv x 2000) * 2000) := by simpa using hh
 clear hh
 refine gw_skip (nx_then (sr_ (mv_ rfl (sg_ rfl (nn_ ?_)))))
 refine gw_ret ?_
 refine nx_ret1 rfl rfl fun wx hm => ?_
 exact ⟨ret_int (by omega), hm.g⟩
theorem out_snoc {l : List Ln} {x : Ln} (h : ∀ y ∈ l, -1000000000000 ≤ y.cents ∧ y.cents ≤ 1000000000000) (hx : -1000000000000 ≤ x.cents ∧ x.cents ≤ 1000000000000) : ∀ y ∈ l ++ [x], -1000000000000 ≤ y.cents ∧ y.cents ≤ 1000000000000 := fun y hy => by
  rcases List.mem_append.1 hy with hy | hy
  · exact h y hy
  · rw [List.mem_singleton.1 hy]; exact hx
theorem taxes_own (l : List Tx) (A : Option Addr) (n c0 : Nat) (ls : List Ln) (A2 : Option Addr) (n2 c2 : Nat) (w : World) (hl : SlT txEnc 4 265 w A n l) (hg : Ons l w) (hok : ∀ x ∈ l, TxOk x) (hn : n ≤ 3) (hs : SlT lnEnc 3 47 w A2 n2 ls) (hn2 : n2 ≤ 200) (hml : ∀ x ∈ l, 0 ≤ x.mille ∧ x.mille ≤ 1000) (hS : ∀ (on : List Int) (k : Nat), -200000000000 ≤ onSum on (ls.take k) ∧ onSum on (ls.take k) ≤ 200000000000) :
  Calls Tryz.prog 190 #[.slice A n c0, .slice A2 n2 c2] w (fun e w' => ∃ A3 n3 c3, e = .returned (.slice A3 n3 c3) ∧ w'.ownsRow w.heap.size 47 3 (.slice A3 n3 c3) n3 ((taxesV ls [] l).flatMap lnEnc) ∧ (taxesV ls [] l).length = n3 ∧ n3 ≤ 3 ∧ w.grownBy w' none) := by
 refine gw_enter ⟨52, w, none, []⟩ Tryz.func190 rfl Tryz.ntmps190 rfl (mem0 (X := [SlOld txEnc 4 265 w.heap.size none A n l, OnsOld w.heap.size none l, SlOld lnEnc 3 47 w.heap.size none A2 n2 ls]) (allF_cons hl.old (allF_cons hg.old (allF_cons hs.old allF_nil))) (allL_cons SlOld.lasts (allL_cons OnsOld.lasts (allL_cons SlOld.lasts allL_nil)))) ?_
 refine sr_ ?_
 have hlen := hl.len
 have hlen2 := hs.len
 obtain ⟨TV, hTV⟩ : ∃ T, T = taxesV ls [] l := ⟨_, rfl⟩
 rw [← hTV]
 refine sg_ rfl (nn_ (sr_ (sg_ rfl (nn_ (gw_seq (sr_ (mv_ rfl (wl_ov (ov_len es30 rfl) rfl (mv_ rfl ?_)))))))))
 refine nn_ (gw_block ?_)
 refine gw_nilOwn 47 3 ?_
 refine gw_loop (γ := Nat × Value × List Ln × List Value) (fun g => g.1 ≤ n ∧ g.2.2.1.length = g.1 ∧ TV = taxesV ls g.2.2.1 (l.drop g.1) ∧ (-pwT g.1 ≤ sumBy centsOf g.2.2.1 ∧ sumBy centsOf g.2.2.1 ≤ pwT g.1) ∧ (∀ x ∈ g.2.2.1, -1000000000000 ≤ x.cents ∧ x.cents ≤ 1000000000000) ∧ g.2.2.2 = g.2.2.1.flatMap lnEnc) (fun g => [(1, .slice A2 n2 c2), (4, .slice none 0 0), (5, g.2.1), (11, .slice A n c0), (12, .int .i64 ((n : Nat) : Int)), (13, .int .i64 ((g.1 : Nat) : Int))]) (fun g => fun _ => True) (fun g => []) (fun g => [⟨g.2.1, 47, 3, g.1, g.2.2.2⟩]) (fun g => [SlOld txEnc 4 265 w.heap.size none A n l, OnsOld w.heap.size none l, SlOld lnEnc 3 47 w.heap.size none A2 n2 ls]) (fun g => n - g.1) (0, .slice none 0 0, [], []) ⟨Nat.zero_le _, rfl, hTV, by decide, (fun _ h => by cases h), rfl⟩ ⟨rfl, rfl, rfl, rfl, rfl, rfl, trivial⟩ (fun _ hm => hm.pick [] [0] [0, 1, 2] rfl rfl) ?_
 rintro ⟨k, v, out, xs⟩ hinv
 replace hinv : k ≤ n ∧ out.length = k ∧ TV = taxesV ls out (l.drop k) ∧ (-pwT k ≤ sumBy centsOf out ∧ sumBy centsOf out ≤ pwT k) ∧ (∀ x ∈ out, -1000000000000 ≤ x.cents ∧ x.cents ≤ 1000000000000) ∧ xs = out.flatMap lnEnc := hinv
 dsimp only
 refine sr_ ?_
 obtain ⟨hi0, hi1, hi2, hi3, hi4, rfl⟩ := hinv
 refine wl_ov (ov_lss rfl rfl) rfl (nn_ (gw_seq ?_))
 refine gw_cond rfl (fun hh => ?_) (fun hh => ?_)
 ·have hk : ((k : Nat) : Int) < ((n : Nat) : Int) := by simpa using hh
  clear hh
  refine gw_skip (nx_then (gw_seq (gw_block (sr_ ?_))))
  obtain ⟨b, off, hA, _, _⟩ := hl.get (by omega)
  subst hA
  obtain ⟨x, hx⟩ : ∃ x, l[k]? = some x := ⟨_, List.getElem?_eq_getElem (by omega)⟩
  obtain ⟨key, mi, At, nt, ct, on, ov⟩ := x
  have hat := taxesV_at (ls := ls) (out := out) hx
  obtain ⟨hk1, hnt⟩ := hok _ (List.mem_of_getElem? hx)
  have hnt : nt ≤ 1000 := hnt
  obtain ⟨hm0, hm1⟩ : 0 ≤ mi ∧ mi ≤ 1000 := hml _ (List.mem_of_getElem? hx)
  have hsb := hS on ls.length
  rw [List.take_length] at hsb
  have hpw := pwT_le (show k ≤ 2 by omega)
  have htl := taxL_ok (ls := ls) (out := out) (x := ⟨key, mi, At, nt, ct, on, ov⟩) hsb hi3 (show k ≤ 2 by omega) ⟨hm0, hm1⟩
  obtain ⟨TL, hTL⟩ : ∃ T, T = taxL ls out ⟨key, mi, At, nt, ct, on, ov⟩ := ⟨_, rfl⟩
  rw [← hTL] at hat htl
  refine wl_also (Y := SlOld itEnc 1 3 w.heap.size none At nt on) (SlOld.lasts) (fun wx hm => (hm.fact 1 rfl) _ (List.mem_of_getElem? hx)) ?_
  refine wl_ov (ov_index (j := k) es30 rfl rfl (by omega)) rfl ?_
  refine wl_ov (ov_elem (vs := [.string key, .int .i64 mi, .slice At nt ct, .bool ov]) rz265 rfl (fun _ hm => (hm.fact 1 rfl).1) hx rfl rfl) rfl ?_
  refine wl_alloc zc265 rfl fun g1 => ?_
  refine wl_stores (cs' := [.string key, .int .i64 mi, .slice At nt ct, .bool ov]) 0 rz265 rfl rfl rfl rfl rfl rfl rfl rfl ?_
  refine nn_ (sr_ (sg_ rfl (nn_ (gw_seq (sr_ (mv_ rfl (wl_ov (ov_len es40 rfl) rfl (mv_ rfl (wl_nil ?_)))))))))
  refine nx_then (gw_block ?_)
  refine gw_loop (γ := Nat) (fun (q : Nat) => q ≤ n2) (fun (q : Nat) => [(1, .slice A2 n2 c2), (4, .slice none 0 0), (5, v), (7, .pointer (some ⟨g1, 0, none⟩)), (8, .int .i64 (onSum on (ls.take q))), (11, .slice (some ⟨b, off, none⟩) n c0), (12, .int .i64 ((n : Nat) : Int)), (13, .int .i64 ((k : Nat) : Int)), (17, .slice A2 n2 c2), (18, .int .i64 ((n2 : Nat) : Int)), (19, .int .i64 ((q : Nat) : Int))]) (fun (q : Nat) => fun _ => True) (fun (q : Nat) => [(g1, 265, [.string key, .int .i64 mi, .slice At nt ct, .bool ov])]) (fun (q : Nat) => [⟨v, 47, 3, k, out.flatMap lnEnc⟩]) (fun (q : Nat) => [SlOld itEnc 1 3 w.heap.size none At nt on, SlOld txEnc 4 265 w.heap.size none (some ⟨b, off, none⟩) n l, OnsOld w.heap.size none l, SlOld lnEnc 3 47 w.heap.size none A2 n2 ls]) (fun (q : Nat) => n2 - q) 0 (Nat.zero_le _) ⟨rfl, rfl, rfl, rfl, rfl, rfl, rfl, rfl, rfl, rfl, rfl, trivial⟩ (fun _ hm => hm.pick [0] [0] [0, 1, 2, 3] rfl rfl) ?_
  intro q hinv
  replace hinv : q ≤ n2 := hinv
  refine sr_ (wl_ov (ov_lss rfl rfl) rfl (nn_ (gw_seq ?_)))
  refine gw_cond rfl (fun hh => ?_) (fun hh => ?_)
  ·have hq : ((q : Nat) : Int) < ((n2 : Nat) : Int) := by simpa using hh
   clear hh
   refine gw_skip (nx_then (gw_seq (gw_block (sr_ ?_))))
   obtain ⟨b2, o2, hA, _, _⟩ := hs.get (by omega)
   subst hA
   obtain ⟨y, hy⟩ : ∃ x, ls[q]? = some x := ⟨_, List.getElem?_eq_getElem (by omega)⟩
   obtain ⟨kd, ky, ct⟩ := y
   have hs1 := sumBy_take (fun x : Ln => if x.kind ∈ on then x.cents else 0) hy
   have hs2 : onSum on (ls.take (q + 1)) = onSum on (ls.take q) + (if kd ∈ on then ct else 0) := hs1
   have hb1 := hS on q
   have hb2 := hS on (q + 1)
   refine wl_ov (ov_index (j := q) es40 rfl rfl (by omega)) rfl ?_
   refine wl_ov (ov_elem (vs := [.int .i64 kd, .string ky, .int .i64 ct]) rz47 rfl (fun _ hm => (hm.fact 3 rfl).1) hy rfl rfl) rfl ?_
   refine wl_alloc zc47 rfl fun g2 => ?_
   refine wl_stores (cs' := [.int .i64 kd, .string ky, .int .i64 ct]) 0 rz47 rfl rfl rfl rfl rfl rfl rfl rfl ?_
   refine nn_ (sr_ (fd_ fo265_2 rfl rfl (lk_ sc22 1 rfl rfl rfl (fd_ fo47_0 rfl rfl (lk_ sc3 0 rfl rfl rfl ?_)))))
   refine wl_callv rfl cb213 rfl rfl (fun wx hm => (contains_int on At nt _ kd wx (hm.fact 0 rfl).1 (by omega))) ?_
   refine nn_ ?_
   refine gw_cond rfl (fun hh => ?_) (fun hh => ?_)
   ·have hin : kd ∈ on := by simpa using hh
    clear hh
    refine gw_region ?_
    rw [if_pos hin] at hs2
    rw [hs2] at hb2
    refine mv_ rfl (fd_ fo47_2 rfl rfl (lk_ sc3 0 rfl rfl rfl (ad_ rfl rfl (sg_ rfl (wl_nil (nx_blk_nrm (nx_then (gw_region (ad_ rfl rfl (mv_ rfl (wl_nil ?_)))))))))))
    exact nx_round (q + 1) (by omega) (by omega) ⟨rfl, rfl, rfl, rfl, (some_int (by rw [hs2])), rfl, rfl, rfl, rfl, rfl, (some_int (by omega)), trivial⟩ (fun _ hm => hm.pick [1] [0] [0, 1, 2, 3] rfl rfl)
   have hin : ¬ (kd ∈ on) := by simpa using hh
   clear hh
   refine gw_skip (nx_blk_nrm (nx_then (gw_region (ad_ rfl rfl (mv_ rfl (wl_nil ?_))))))
   exact nx_round (q + 1) (by omega) (by omega) ⟨rfl, rfl, rfl, rfl, (some_int (by rw [hs2, if_neg hin, Int.add_zero])), rfl, rfl, rfl, rfl, rfl, (some_int (by omega)), trivial⟩ (fun _ hm => hm.pick [1] [0] [0, 1, 2, 3] rfl rfl)
  have hq : ¬ (((q : Nat) : Int) < ((n2 : Nat) : Int)) := by simpa using hh
  clear hh
  refine gw_exit ?_
  refine nx_then_exit (nx_then_exit ?_)
  refine nx_blk_here ?_
  refine nx_then (gw_seq (sr_ ?_))
  have hall : ls.take q = ls := List.take_of_length_le (by omega)
  obtain ⟨hsb0, hsb1⟩ := hsb
  obtain ⟨OS, hOS⟩ : ∃ x, x = onSum on ls := ⟨_, rfl⟩
  rw [← hOS] at hsb0 hsb1
  refine wl_set 8 (v' := .int .i64 OS) rfl (congrArg (Value.int .i64) (by rw [hall, hOS])) ?_
  refine fd_ fo265_3 rfl rfl (lk_ sc4 0 rfl rfl rfl (nn_ ?_))
  refine gw_cond rfl (fun hh => ?_) (fun hh => ?_)
  ·have hov : ov = true := by simpa using hh
   clear hh
   refine gw_region ?_
   refine wl_look (R := ∃ A cc, v = .slice A k cc) (fun wx hm => own_slice (hm.ownI 0 rfl)) ?_
   rintro ⟨A3, c3, rfl⟩
   refine mv_ rfl (mv_ rfl ?_)
   refine wl_callv rfl cb149 rfl rfl (fun wx hm => (sum_any out A3 k c3 wx (SlT.ofOwn ln_len (hm.ownI 0 rfl) hi1) hi4 (by omega))) ?_
   refine ad_ rfl rfl (sg_ rfl (nn_ ?_))
   obtain ⟨NS, hNS⟩ : ∃ x, x = OS + sumBy centsOf out := ⟨_, rfl⟩
   have hN2 : NS = taxN ls out ⟨key, mi, At, nt, ct, on, ov⟩ := by rw [hNS]; unfold taxN; simp only [hov, cond_true]; rw [← hOS]
   have hN3 : -800000000003 ≤ NS ∧ NS ≤ 800000000003 := by omega
   obtain ⟨hN4, hN5⟩ := hN3
   have hmr := mul_rng hN4 hN5 hm0 hm1
   have hmr2 := mul_rng (n := 2 * NS) (M := 1600000000006) (by omega) (by omega) hm0 hm1
   have hv : nearV (NS * mi) = TL.cents := by rw [hTL, hN2]; rfl
   have hTL2 : TL = ⟨5, key, nearV (NS * mi)⟩ := by rw [hTL, hN2]; rfl
   refine gw_set 8 (v' := .int .i64 NS) rfl (congrArg (Value.int .i64) hNS.symm) ?_
   refine gd (fun wz => Blk wz g1 265 [.string key, .int .i64 mi, .slice At nt ct, .bool ov] ∧ (SlOld itEnc 1 3 w.heap.size none At nt on) wz ∧ (SlOld txEnc 4 265 w.heap.size none (some ⟨b, off, none⟩) n l) wz ∧ (OnsOld w.heap.size none l) wz ∧ (SlOld lnEnc 3 47 w.heap.size none A2 n2 ls) wz ∧ True) mixed (fun _ hm => ⟨hm.bl 0, hm.fa 0, hm.fa 1, hm.fa 2, hm.fa 3, trivial⟩) fun z => ?_
   refine wt 0 12 1 rfl z (ov_move rfl) ?_
   refine wt 1 12 3 rfl z (ov_field fo265_0 rfl rfl) ?_
   refine wt 2 12 7 rfl z (ov_load sc9 rfl (fun _ hm => hm.1) rfl) ?_
   refine wt 3 12 15 rfl z (ov_move rfl) ?_
   refine wt 4 12 31 rfl z (ov_field fo265_1 rfl rfl) ?_
   refine wt 5 12 63 rfl z (ov_load sc3 rfl (fun _ hm => hm.1) rfl) ?_
   refine wt 6 12 127 rfl z (ov_mul rfl rfl (by omega) (by omega)) ?_
   refine wa1 7 rfl ?_
   refine wl_callv rfl cb247 rfl rfl (fun wx hm => (nearest_any (NS * mi) wx (by omega) (by omega))) ?_
   refine wl_nil ?_
   refine nw 12 255 (fun _ hm => ⟨hm.bl 0, hm.fa 0, hm.fa 1, hm.fa 2, hm.fa 3, trivial⟩) fun z => ?_
   refine wt 8 12 511 rfl z (ov_build (cs := [.int .i64 5, .string key, .int .i64 (nearV (NS * mi))]) rfl (by kernel_rfl)) ?_
   refine wa1 9 rfl ?_
   refine wl_buildSlice (e := 47) (cs := [.int .i64 5, .string key, .int .i64 (nearV (NS * mi))]) rfl (by kernel_rfl) rfl fun g3 => ?_
   refine wl_nil ?_
   refine nw 12 1023 (fun _ hm => ⟨hm.bl 1, hm.fa 0, hm.fa 1, hm.fa 2, hm.fa 3, trivial⟩) fun z => ?_
   refine wa1 10 rfl ?_
   refine wl_append (news := [.int .i64 5, .string key, .int .i64 (nearV (NS * mi))]) 0 0 ap40 rfl rfl rfl rfl rfl rfl rfl (by omega) (by unfold maxLen; omega) rfl rfl fun v2 hv2 => ?_
   refine wl_nil ?_
   refine nw 12 2047 (fun _ hm => ⟨hm.bl 1, hm.fa 0, hm.fa 1, hm.fa 2, hm.fa 3, trivial⟩) fun z => ?_
   refine wt 11 12 4095 rfl z (ov_assign rfl) ?_
   refine wa_done (by kernel_rfl) ?_
   refine nx_blk_nrm (nx_then (gw_region (ad_ rfl rfl (mv_ rfl (wl_nil ?_)))))
   exact nx_round (k + 1, v2, out ++ [TL], out.flatMap lnEnc ++ ([.int .i64 5, .string key, .int .i64 (nearV (NS * mi))] : List Value)) ⟨by dsimp only; omega, by simp [hi1], by dsimp only; rw [hi2, hat], htl.2, out_snoc hi4 htl.1, by rw [hTL2]; simp [lnEnc]⟩ (by dsimp only; omega) ⟨rfl, rfl, rfl, rfl, rfl, (some_int (by omega)), trivial⟩ (fun _ hm => hm.pick [] [0] [1, 2, 3] rfl rfl)
  have hov : ov = false := by simpa using hh
  clear hh
  refine gw_skip (nx_then ?_)
  obtain ⟨NS, hNS⟩ : ∃ x, x = OS := ⟨_, rfl⟩
  have hN2 : NS = taxN ls out ⟨key, mi, At, nt, ct, on, ov⟩ := by rw [hNS]; unfold taxN; simp only [hov, cond_false]; rw [← hOS]; omega
  have hN3 : -800000000003 ≤ NS ∧ NS ≤ 800000000003 := by omega
  obtain ⟨hN4, hN5⟩ := hN3
  have hmr := mul_rng hN4 hN5 hm0 hm1
  have hmr2 := mul_rng (n := 2 * NS) (M := 1600000000006) (by omega) (by omega) hm0 hm1
  have hv : nearV (NS * mi) = TL.cents := by rw [hTL, hN2]; rfl
  have hTL2 : TL = ⟨5, key, nearV (NS * mi)⟩ := by rw [hTL, hN2]; rfl
  refine gw_set 8 (v' := .int .i64 NS) rfl (congrArg (Value.int .i64) hNS.symm) ?_
  refine gd (fun wz => Blk wz g1 265 [.string key, .int .i64 mi, .slice At nt ct, .bool ov] ∧ (SlOld itEnc 1 3 w.heap.size none At nt on) wz ∧ (SlOld txEnc 4 265 w.heap.size none (some ⟨b, off, none⟩) n l) wz ∧ (OnsOld w.heap.size none l) wz ∧ (SlOld lnEnc 3 47 w.heap.size none A2 n2 ls) wz ∧ True) mixed (fun _ hm => ⟨hm.bl 0, hm.fa 0, hm.fa 1, hm.fa 2, hm.fa 3, trivial⟩) fun z => ?_
  refine wt 0 12 1 rfl z (ov_move rfl) ?_
  refine wt 1 12 3 rfl z (ov_field fo265_0 rfl rfl) ?_
  refine wt 2 12 7 rfl z (ov_load sc9 rfl (fun _ hm => hm.1) rfl) ?_
  refine wt 3 12 15 rfl z (ov_move rfl) ?_
  refine wt 4 12 31 rfl z (ov_field fo265_1 rfl rfl) ?_
  refine wt 5 12 63 rfl z (ov_load sc3 rfl (fun _ hm => hm.1) rfl) ?_
  refine wt 6 12 127 rfl z (ov_mul rfl rfl (by omega) (by omega)) ?_
  refine wa1 7 rfl ?_
  refine wl_callv rfl cb247 rfl rfl (fun wx hm => (nearest_any (NS * mi) wx (by omega) (by omega))) ?_
  refine wl_nil ?_
  refine nw 12 255 (fun _ hm => ⟨hm.bl 0, hm.fa 0, hm.fa 1, hm.fa 2, hm.fa 3, trivial⟩) fun z => ?_
  refine wt 8 12 511 rfl z (ov_build (cs := [.int .i64 5, .string key, .int .i64 (nearV (NS * mi))]) rfl (by kernel_rfl)) ?_
  refine wa1 9 rfl ?_
  refine wl_buildSlice (e := 47) (cs := [.int .i64 5, .string key, .int .i64 (nearV (NS * mi))]) rfl (by kernel_rfl) rfl fun g4 => ?_
  refine wl_nil ?_
  refine nw 12 1023 (fun _ hm => ⟨hm.bl 1, hm.fa 0, hm.fa 1, hm.fa 2, hm.fa 3, trivial⟩) fun z => ?_
  refine wa1 10 rfl ?_
  refine wl_append (news := [.int .i64 5, .string key, .int .i64 (nearV (NS * mi))]) 0 0 ap40 rfl rfl rfl rfl rfl rfl rfl (by omega) (by unfold maxLen; omega) rfl rfl fun v2 hv2 => ?_
  refine wl_nil ?_
  refine nw 12 2047 (fun _ hm => ⟨hm.bl 1, hm.fa 0, hm.fa 1, hm.fa 2, hm.fa 3, trivial⟩) fun z => ?_
  refine wt 11 12 4095 rfl z (ov_assign rfl) ?_
  refine wa_done (by kernel_rfl) ?_
  refine nx_blk_nrm (nx_then (gw_region (ad_ rfl rfl (mv_ rfl (wl_nil ?_)))))
  exact nx_round (k + 1, v2, out ++ [TL], out.flatMap lnEnc ++ ([.int .i64 5, .string key, .int .i64 (nearV (NS * mi))] : List Value)) ⟨by dsimp only; omega, by simp [hi1], by dsimp only; rw [hi2, hat], htl.2, out_snoc hi4 htl.1, by rw [hTL2]; simp [lnEnc]⟩ (by dsimp only; omega) ⟨rfl, rfl, rfl, rfl, rfl, (some_int (by omega)), trivial⟩ (fun _ hm => hm.pick [] [0] [1, 2, 3] rfl rfl)
 have hk : ¬ (((k : Nat) : Int) < ((n : Nat) : Int)) := by simpa using hh
 clear hh
 refine gw_exit ?_
 refine nx_then_exit (nx_then_exit ?_)
 refine nx_blk_here ?_
 refine nx_then (sr_ ?_)
 refine wl_look (R := ∃ A cc, v = .slice A k cc) (fun wx hm => own_slice (hm.ownI 0 rfl)) ?_
 rintro ⟨A3, c3, rfl⟩
 refine mv_ rfl (sg_ rfl (nn_ ?_))
 refine gw_ret ?_
 refine nx_ret1 rfl rfl fun wx hm => ?_
 have hTO : TV = out := by rw [hi2, List.drop_eq_nil_of_le (by omega)]; rfl
 exact ⟨A3, k, c3, rfl, by rw [hTO]; exact hm.ownI 0 rfl, by rw [hTO]; exact hi1, by omega, hm.g⟩
theorem taxesOf_own (l : List Tx) (A : Option Addr) (n c0 : Nat) (ls : List Ln) (A2 : Option Addr) (n2 c2 : Nat) (w : World) (hl : SlT txEnc 4 265 w A n l) (hg : Ons l w) (hok : ∀ x ∈ l, TxOk x) (hn : n ≤ 3) (hs : SlT lnEnc 3 47 w A2 n2 ls) (hn2 : n2 ≤ 200) (hml : ∀ x ∈ l, 0 ≤ x.mille ∧ x.mille ≤ 1000) (hS : ∀ (on : List Int) (k : Nat), -200000000000 ≤ onSum on (ls.take k) ∧ onSum on (ls.take k) ≤ 200000000000) :
  Calls Tryz.prog 116 #[.slice A n c0, .slice A2 n2 c2] w (fun e w' => ∃ A3 n3 c3, e = .returned (.slice A3 n3 c3) ∧ w'.ownsRow w.heap.size 47 3 (.slice A3 n3 c3) n3 ((taxesV ls [] l).flatMap lnEnc) ∧ (taxesV ls [] l).length = n3 ∧ n3 ≤ 3 ∧ w.grownBy w' none) := by
 refine gw_enter ⟨54, w, none, []⟩ Tryz.func116 rfl Tryz.ntmps116 rfl (mem0 (X := [SlOld txEnc 4 265 w.heap.size none A n l, OnsOld w.heap.size none l, SlOld lnEnc 3 47 w.heap.size none A2 n2 ls]) (allF_cons hl.old (allF_cons hg.old (allF_cons hs.old allF_nil))) (allL_cons SlOld.lasts (allL_cons OnsOld.lasts (allL_cons SlOld.lasts allL_nil)))) ?_
 refine sr_ ?_
 have hlen := hl.len
 have hlen2 := hs.len
 obtain ⟨TV, hTV⟩ : ∃ T, T = taxesV ls [] l := ⟨_, rfl⟩
 rw [← hTV]
 refine sg_ rfl (nn_ (sr_ (sg_ rfl (nn_ (gw_seq (sr_ (mv_ rfl (wl_ov (ov_len es30 rfl) rfl (mv_ rfl ?_)))))))))
 refine nn_ (gw_block ?_)
 refine gw_nilOwn 47 3 ?_
 refine gw_loop (γ := Nat × Value × List Ln × List Value) (fun g => g.1 ≤ n ∧ g.2.2.1.length = g.1 ∧ TV = taxesV ls g.2.2.1 (l.drop g.1) ∧ (-pwT g.1 ≤ sumBy centsOf g.2.2.1 ∧ sumBy centsOf g.2.2.1 ≤ pwT g.1) ∧ (∀ x ∈ g.2.2.1, -1000000000000 ≤ x.cents ∧ x.cents ≤ 1000000000000) ∧ g.2.2.2 = g.2.2.1.flatMap lnEnc) (fun g => [(1, .slice A2 n2 c2), (4, .slice none 0 0), (5, g.2.1), (11, .slice A n c0), (12, .int .i64 ((n : Nat) : Int)), (13, .int .i64 ((g.1 : Nat) : Int))]) (fun g => fun _ => True) (fun g => []) (fun g => [⟨g.2.1, 47, 3, g.1, g.2.2.2⟩]) (fun g => [SlOld txEnc 4 265 w.heap.size none A n l, OnsOld w.heap.size none l, SlOld lnEnc 3 47 w.heap.size none A2 n2 ls]) (fun g => n - g.1) (0, .slice none 0 0, [], []) ⟨Nat.zero_le _, rfl, hTV, by decide, (fun _ h => by cases h), rfl⟩ ⟨rfl, rfl, rfl, rfl, rfl, rfl, trivial⟩ (fun _ hm => hm.pick [] [0] [0, 1, 2] rfl rfl) ?_
 rintro ⟨k, v, out, xs⟩ hinv
 replace hinv : k ≤ n ∧ out.length = k ∧ TV = taxesV ls out (l.drop k) ∧ (-pwT k ≤ sumBy centsOf out ∧ sumBy centsOf out ≤ pwT k) ∧ (∀ x ∈ out, -1000000000000 ≤ x.cents ∧ x.cents ≤ 1000000000000) ∧ xs = out.flatMap lnEnc := hinv
 dsimp only
 refine sr_ ?_
 obtain ⟨hi0, hi1, hi2, hi3, hi4, rfl⟩ := hinv
 refine wl_ov (ov_lss rfl rfl) rfl (nn_ (gw_seq ?_))
 refine gw_cond rfl (fun hh => ?_) (fun hh => ?_)
 ·have hk : ((k : Nat) : Int) < ((n : Nat) : Int) := by simpa using hh
  clear hh
  refine gw_skip (nx_then (gw_seq (gw_block (sr_ ?_))))
  obtain ⟨b, off, hA, _, _⟩ := hl.get (by omega)
  subst hA
  obtain ⟨x, hx⟩ : ∃ x, l[k]? = some x := ⟨_, List.getElem?_eq_getElem (by omega)⟩
  obtain ⟨key, mi, At, nt, ct, on, ov⟩ := x
  have hat := taxesV_at (ls := ls) (out := out) hx
  obtain ⟨hk1, hnt⟩ := hok _ (List.mem_of_getElem? hx)
  have hnt : nt ≤ 1000 := hnt
  obtain ⟨hm0, hm1⟩ : 0 ≤ mi ∧ mi ≤ 1000 := hml _ (List.mem_of_getElem? hx)
  have hsb := hS on ls.length
  rw [List.take_length] at hsb
  have hpw := pwT_le (show k ≤ 2 by omega)
  have htl := taxL_ok (ls := ls) (out := out) (x := ⟨key, mi, At, nt, ct, on, ov⟩) hsb hi3 (show k ≤ 2 by omega) ⟨hm0, hm1⟩
  obtain ⟨TL, hTL⟩ : ∃ T, T = taxL ls out ⟨key, mi, At, nt, ct, on, ov⟩ := ⟨_, rfl⟩
  rw [← hTL] at hat htl
  refine wl_also (Y := SlOld itEnc 1 3 w.heap.size none At nt on) (SlOld.lasts) (fun wx hm => (hm.fact 1 rfl) _ (List.mem_of_getElem? hx)) ?_
  refine wl_ov (ov_index (j := k) es30 rfl rfl (by omega)) rfl ?_
  refine wl_ov (ov_elem (vs := [.string key, .int .i64 mi, .slice At nt ct, .bool ov]) rz265 rfl (fun _ hm => (hm.fact 1 rfl).1) hx rfl rfl) rfl ?_
  refine wl_alloc zc265 rfl fun g1 => ?_
  refine wl_stores (cs' := [.string key, .int .i64 mi, .slice At nt ct, .bool ov]) 0 rz265 rfl rfl rfl rfl rfl rfl rfl rfl ?_
  refine nn_ (sr_ (sg_ rfl (nn_ (gw_seq (sr_ (mv_ rfl (wl_ov (ov_len es40 rfl) rfl (mv_ rfl (wl_nil ?_)))))))))
  refine nx_then (gw_block ?_)
  refine gw_loop (γ := Nat) (fun (q : Nat) => q ≤ n2) (fun (q : Nat) => [(1, .slice A2 n2 c2), (4, .slice none 0 0), (5, v), (7, .pointer (some ⟨g1, 0, none⟩)), (8, .int .i64 (onSum on (ls.take q))), (11, .slice (some ⟨b, off, none⟩) n c0), (12, .int .i64 ((n : Nat) : Int)), (13, .int .i64 ((k : Nat) : Int)), (17, .slice A2 n2 c2), (18, .int .i64 ((n2 : Nat) : Int)), (19, .int .i64 ((q : Nat) : Int))]) (fun (q : Nat) => fun _ => True) (fun (q : Nat) => [(g1, 265, [.string key, .int .i64 mi, .slice At nt ct, .bool ov])]) (fun (q : Nat) => [⟨v, 47, 3, k, out.flatMap lnEnc⟩]) (fun (q : Nat) => [SlOld itEnc 1 3 w.heap.size none At nt on, SlOld txEnc 4 265 w.heap.size none (some ⟨b, off, none⟩) n l, OnsOld w.heap.size none l, SlOld lnEnc 3 47 w.heap.size none A2 n2 ls]) (fun (q : Nat) => n2 - q) 0 (Nat.zero_le _) ⟨rfl, rfl, rfl, rfl, rfl, rfl, rfl, rfl, rfl, rfl, rfl, trivial⟩ (fun _ hm => hm.pick [0] [0] [0, 1, 2, 3] rfl rfl) ?_
  intro q hinv
  replace hinv : q ≤ n2 := hinv
  refine sr_ (wl_ov (ov_lss rfl rfl) rfl (nn_ (gw_seq ?_)))
  refine gw_cond rfl (fun hh => ?_) (fun hh => ?_)
  ·have hq : ((q : Nat) : Int) < ((n2 : Nat) : Int) := by simpa using hh
   clear hh
   refine gw_skip (nx_then (gw_seq (gw_block (sr_ ?_))))
   obtain ⟨b2, o2, hA, _, _⟩ := hs.get (by omega)
   subst hA
   obtain ⟨y, hy⟩ : ∃ x, ls[q]? = some x := ⟨_, List.getElem?_eq_getElem (by omega)⟩
   obtain ⟨kd, ky, ct⟩ := y
   have hs1 := sumBy_take (fun x : Ln => if x.kind ∈ on then x.cents else 0) hy
   have hs2 : onSum on (ls.take (q + 1)) = onSum on (ls.take q) + (if kd ∈ on then ct else 0) := hs1
   have hb1 := hS on q
   have hb2 := hS on (q + 1)
   refine wl_ov (ov_index (j := q) es40 rfl rfl (by omega)) rfl ?_
   refine wl_ov (ov_elem (vs := [.int .i64 kd, .string ky, .int .i64 ct]) rz47 rfl (fun _ hm => (hm.fact 3 rfl).1) hy rfl rfl) rfl ?_
   refine wl_alloc zc47 rfl fun g2 => ?_
   refine wl_stores (cs' := [.int .i64 kd, .string ky, .int .i64 ct]) 0 rz47 rfl rfl rfl rfl rfl rfl rfl rfl ?_
   refine nn_ (sr_ (fd_ fo265_2 rfl rfl (lk_ sc22 1 rfl rfl rfl (fd_ fo47_0 rfl rfl (lk_ sc3 0 rfl rfl rfl ?_)))))
   refine wl_callv rfl cb213 rfl rfl (fun wx hm => (contains_int on At nt _ kd wx (hm.fact 0 rfl).1 (by omega))) ?_
   refine nn_ ?_
   refine gw_cond rfl (fun hh => ?_) (fun hh => ?_)
   ·have hin : kd ∈ on := by simpa using hh
    clear hh
    refine gw_region ?_
    rw [if_pos hin] at hs2
    rw [hs2] at hb2
    refine mv_ rfl (fd_ fo47_2 rfl rfl (lk_ sc3 0 rfl rfl rfl (ad_ rfl rfl (sg_ rfl (wl_nil (nx_blk_nrm (nx_then (gw_region (ad_ rfl rfl (mv_ rfl (wl_nil ?_)))))))))))
    exact nx_round (q + 1) (by omega) (by omega) ⟨rfl, rfl, rfl, rfl, (some_int (by rw [hs2])), rfl, rfl, rfl, rfl, rfl, (some_int (by omega)), trivial⟩ (fun _ hm => hm.pick [1] [0] [0, 1, 2, 3] rfl rfl)
   have hin : ¬ (kd ∈ on) := by simpa using hh
   clear hh
   refine gw_skip (nx_blk_nrm (nx_then (gw_region (ad_ rfl rfl (mv_ rfl (wl_nil ?_))))))
   exact nx_round (q + 1) (by omega) (by omega) ⟨rfl, rfl, rfl, rfl, (some_int (by rw [hs2, if_neg hin, Int.add_zero])), rfl, rfl, rfl, rfl, rfl, (some_int (by omega)), trivial⟩ (fun _ hm => hm.pick [1] [0] [0, 1, 2, 3] rfl rfl)
  have hq : ¬ (((q : Nat) : Int) < ((n2 : Nat) : Int)) := by simpa using hh
  clear hh
  refine gw_exit ?_
  refine nx_then_exit (nx_then_exit ?_)
  refine nx_blk_here ?_
  refine nx_then (gw_seq (sr_ ?_))
  have hall : ls.take q = ls := List.take_of_length_le (by omega)
  obtain ⟨hsb0, hsb1⟩ := hsb
  obtain ⟨OS, hOS⟩ : ∃ x, x = onSum on ls := ⟨_, rfl⟩
  rw [← hOS] at hsb0 hsb1
  refine wl_set 8 (v' := .int .i64 OS) rfl (congrArg (Value.int .i64) (by rw [hall, hOS])) ?_
  refine fd_ fo265_3 rfl rfl (lk_ sc4 0 rfl rfl rfl (nn_ ?_))
  refine gw_cond rfl (fun hh => ?_) (fun hh => ?_)
  ·have hov : ov = true := by simpa using hh
   clear hh
   refine gw_region ?_
   refine wl_look (R := ∃ A cc, v = .slice A k cc) (fun wx hm => own_slice (hm.ownI 0 rfl)) ?_
   rintro ⟨A3, c3, rfl⟩
   refine mv_ rfl (mv_ rfl ?_)
   refine wl_callv rfl cb113 rfl rfl (fun wx hm => (sumOf_any out A3 k c3 wx (SlT.ofOwn ln_len (hm.ownI 0 rfl) hi1) hi4 (by omega))) ?_
   refine ad_ rfl rfl (sg_ rfl (nn_ ?_))
   obtain ⟨NS, hNS⟩ : ∃ x, x = OS + sumBy centsOf out := ⟨_, rfl⟩
   have hN2 : NS = taxN ls out ⟨key, mi, At, nt, ct, on, ov⟩ := by rw [hNS]; unfold taxN; simp only [hov, cond_true]; rw [← hOS]
   have hN3 : -800000000003 ≤ NS ∧ NS ≤ 800000000003 := by omega
   obtain ⟨hN4, hN5⟩ := hN3
   have hmr := mul_rng hN4 hN5 hm0 hm1
   have hmr2 := mul_rng (n := 2 * NS) (M := 1600000000006) (by omega) (by omega) hm0 hm1
   have hv : nearV (NS * mi) = TL.cents := by rw [hTL, hN2]; rfl
   have hTL2 : TL = ⟨5, key, nearV (NS * mi)⟩ := by rw [hTL, hN2]; rfl
   refine gw_set 8 (v' := .int .i64 NS) rfl (congrArg (Value.int .i64) hNS.symm) ?_
   refine gd (fun wz => Blk wz g1 265 [.string key, .int .i64 mi, .slice At nt ct, .bool ov] ∧ (SlOld itEnc 1 3 w.heap.size none At nt on) wz ∧ (SlOld txEnc 4 265 w.heap.size none (some ⟨b, off, none⟩) n l) wz ∧ (OnsOld w.heap.size none l) wz ∧ (SlOld lnEnc 3 47 w.heap.size none A2 n2 ls) wz ∧ True) mixed (fun _ hm => ⟨hm.bl 0, hm.fa 0, hm.fa 1, hm.fa 2, hm.fa 3, trivial⟩) fun z => ?_
   refine wt 0 14 1 rfl z (ov_move rfl) ?_
   refine wt 1 14 3 rfl z (ov_field fo265_0 rfl rfl) ?_
   refine wt 2 14 7 rfl z (ov_load sc9 rfl (fun _ hm => hm.1) rfl) ?_
   refine wt 3 14 15 rfl z (ov_move rfl) ?_
   refine wt 4 14 31 rfl z (ov_mul rfl rfl (by omega) (by omega)) ?_
   refine wt 5 14 63 rfl z (ov_field fo265_1 rfl rfl) ?_
   refine wt 6 14 127 rfl z (ov_load sc3 rfl (fun _ hm => hm.1) rfl) ?_
   refine wt 7 14 255 rfl z (ov_mul rfl rfl (by omega) (by omega)) ?_
   refine wt 8 14 511 rfl z (ov_add rfl rfl (by omega) (by omega)) ?_
   refine wa1 9 rfl ?_
   refine wl_callv (v := .int .i64 (nearV (NS * mi))) rfl cb214 rfl rfl (fun wx hm => (by rw [← near_two]; exact floor_any (2 * NS * mi + 1000) wx (by omega) (by omega))) ?_
   refine wl_nil ?_
   refine nw 14 1023 (fun _ hm => ⟨hm.bl 0, hm.fa 0, hm.fa 1, hm.fa 2, hm.fa 3, trivial⟩) fun z => ?_
   refine wt 10 14 2047 rfl z (ov_build (cs := [.int .i64 5, .string key, .int .i64 (nearV (NS * mi))]) rfl (by kernel_rfl)) ?_
   refine wa1 11 rfl ?_
   refine wl_buildSlice (e := 47) (cs := [.int .i64 5, .string key, .int .i64 (nearV (NS * mi))]) rfl (by kernel_rfl) rfl fun g3 => ?_
   refine wl_nil ?_
   refine nw 14 4095 (fun _ hm => ⟨hm.bl 1, hm.fa 0, hm.fa 1, hm.fa 2, hm.fa 3, trivial⟩) fun z => ?_
   refine wa1 12 rfl ?_
   refine wl_append (news := [.int .i64 5, .string key, .int .i64 (nearV (NS * mi))]) 0 0 ap40 rfl rfl rfl rfl rfl rfl rfl (by omega) (by unfold maxLen; omega) rfl rfl fun v2 hv2 => ?_
   refine wl_nil ?_
   refine nw 14 8191 (fun _ hm => ⟨hm.bl 1, hm.fa 0, hm.fa 1, hm.fa 2, hm.fa 3, trivial⟩) fun z => ?_
   refine wt 13 14 16383 rfl z (ov_assign rfl) ?_
   refine wa_done (by kernel_rfl) ?_
   refine nx_blk_nrm (nx_then (gw_region (ad_ rfl rfl (mv_ rfl (wl_nil ?_)))))
   exact nx_round (k + 1, v2, out ++ [TL], out.flatMap lnEnc ++ ([.int .i64 5, .string key, .int .i64 (nearV (NS * mi))] : List Value)) ⟨by dsimp only; omega, by simp [hi1], by dsimp only; rw [hi2, hat], htl.2, out_snoc hi4 htl.1, by rw [hTL2]; simp [lnEnc]⟩ (by dsimp only; omega) ⟨rfl, rfl, rfl, rfl, rfl, (some_int (by omega)), trivial⟩ (fun _ hm => hm.pick [] [0] [1, 2, 3] rfl rfl)
  have hov : ov = false := by simpa using hh
  clear hh
  refine gw_skip (nx_then ?_)
  obtain ⟨NS, hNS⟩ : ∃ x, x = OS := ⟨_, rfl⟩
  have hN2 : NS = taxN ls out ⟨key, mi, At, nt, ct, on, ov⟩ := by rw [hNS]; unfold taxN; simp only [hov, cond_false]; rw [← hOS]; omega
  have hN3 : -800000000003 ≤ NS ∧ NS ≤ 800000000003 := by omega
  obtain ⟨hN4, hN5⟩ := hN3
  have hmr := mul_rng hN4 hN5 hm0 hm1
  have hmr2 := mul_rng (n := 2 * NS) (M := 1600000000006) (by omega) (by omega) hm0 hm1
  have hv : nearV (NS * mi) = TL.cents := by rw [hTL, hN2]; rfl
  have hTL2 : TL = ⟨5, key, nearV (NS * mi)⟩ := by rw [hTL, hN2]; rfl
  refine gw_set 8 (v' := .int .i64 NS) rfl (congrArg (Value.int .i64) hNS.symm) ?_
  refine gd (fun wz => Blk wz g1 265 [.string key, .int .i64 mi, .slice At nt ct, .bool ov] ∧ (SlOld itEnc 1 3 w.heap.size none At nt on) wz ∧ (SlOld txEnc 4 265 w.heap.size none (some ⟨b, off, none⟩) n l) wz ∧ (OnsOld w.heap.size none l) wz ∧ (SlOld lnEnc 3 47 w.heap.size none A2 n2 ls) wz ∧ True) mixed (fun _ hm => ⟨hm.bl 0, hm.fa 0, hm.fa 1, hm.fa 2, hm.fa 3, trivial⟩) fun z => ?_
  refine wt 0 14 1 rfl z (ov_move rfl) ?_
  refine wt 1 14 3 rfl z (ov_field fo265_0 rfl rfl) ?_
  refine wt 2 14 7 rfl z (ov_load sc9 rfl (fun _ hm => hm.1) rfl) ?_
  refine wt 3 14 15 rfl z (ov_move rfl) ?_
  refine wt 4 14 31 rfl z (ov_mul rfl rfl (by omega) (by omega)) ?_
  refine wt 5 14 63 rfl z (ov_field fo265_1 rfl rfl) ?_
  refine wt 6 14 127 rfl z (ov_load sc3 rfl (fun _ hm => hm.1) rfl) ?_
  refine wt 7 14 255 rfl z (ov_mul rfl rfl (by omega) (by omega)) ?_
  refine wt 8 14 511 rfl z (ov_add rfl rfl (by omega) (by omega)) ?_
  refine wa1 9 rfl ?_
  refine wl_callv (v := .int .i64 (nearV (NS * mi))) rfl cb214 rfl rfl (fun wx hm => (by rw [← near_two]; exact floor_any (2 * NS * mi + 1000) wx (by omega) (by omega))) ?_
  refine wl_nil ?_
  refine nw 14 1023 (fun _ hm => ⟨hm.bl 0, hm.fa 0, hm.fa 1, hm.fa 2, hm.fa 3, trivial⟩) fun z => ?_
  refine wt 10 14 2047 rfl z (ov_build (cs := [.int .i64 5, .string key, .int .i64 (nearV (NS * mi))]) rfl (by kernel_rfl)) ?_
  refine wa1 11 rfl ?_
  refine wl_buildSlice (e := 47) (cs := [.int .i64 5, .string key, .int .i64 (nearV (NS * mi))]) rfl (by kernel_rfl) rfl fun g4 => ?_
  refine wl_nil ?_
  refine nw 14 4095 (fun _ hm => ⟨hm.bl 1, hm.fa 0, hm.fa 1, hm.fa 2, hm.fa 3, trivial⟩) fun z => ?_
  refine wa1 12 rfl ?_
  refine wl_append (news := [.int .i64 5, .string key, .int .i64 (nearV (NS * mi))]) 0 0 ap40 rfl rfl rfl rfl rfl rfl rfl (by omega) (by unfold maxLen; omega) rfl rfl fun v2 hv2 => ?_
  refine wl_nil ?_
  refine nw 14 8191 (fun _ hm => ⟨hm.bl 1, hm.fa 0, hm.fa 1, hm.fa 2, hm.fa 3, trivial⟩) fun z => ?_
  refine wt 13 14 16383 rfl z (ov_assign rfl) ?_
  refine wa_done (by kernel_rfl) ?_
  refine nx_blk_nrm (nx_then (gw_region (ad_ rfl rfl (mv_ rfl (wl_nil ?_)))))
  exact nx_round (k + 1, v2, out ++ [TL], out.flatMap lnEnc ++ ([.int .i64 5, .string key, .int .i64 (nearV (NS * mi))] : List Value)) ⟨by dsimp only; omega, by simp [hi1], by dsimp only; rw [hi2, hat], htl.2, out_snoc hi4 htl.1, by rw [hTL2]; simp [lnEnc]⟩ (by dsimp only; omega) ⟨rfl, rfl, rfl, rfl, rfl, (some_int (by omega)), trivial⟩ (fun _ hm => hm.pick [] [0] [1, 2, 3] rfl rfl)
 have hk : ¬ (((k : Nat) : Int) < ((n : Nat) : Int)) := by simpa using hh
 clear hh
 refine gw_exit ?_
 refine nx_then_exit (nx_then_exit ?_)
 refine nx_blk_here ?_
 refine nx_then (sr_ ?_)
 refine wl_look (R := ∃ A cc, v = .slice A k cc) (fun wx hm => own_slice (hm.ownI 0 rfl)) ?_
 rintro ⟨A3, c3, rfl⟩
 refine mv_ rfl (sg_ rfl (nn_ ?_))
 refine gw_ret ?_
 refine nx_ret1 rfl rfl fun wx hm => ?_
 have hTO : TV = out := by rw [hi2, List.drop_eq_nil_of_le (by omega)]; rfl
 exact ⟨A3, k, c3, rfl, by rw [hTO]; exact hm.ownI 0 rfl, by rw [hTO]; exact hi1, by omega, hm.g⟩
end Go.Proofs.YtnmpniaocjmkfaaGreatDoor
namespace Go.Proofs.YtnmpniaocjmkfaaGreatDoor
open Go.RowKit
theorem rbegin_any (A : Option Addr) (n c0 : Nat) (c : ByteArray) (fr tt : Int) (D : Nat) (i : Nat) (w : World) (h0 : 0 ≤ fr) (h00 : fr ≤ 5761439) (hi : i ≤ 10000) :
  Calls Tryz.prog 259 #[.agg #[.slice A n c0, .string c, .int .i64 fr, .int .i64 tt, .int .i64 ((D : Nat) : Int)], .int .i64 ((i : Nat) : Int)] w (fun e w' => e = .returned (.int .i64 (begV fr i)) ∧ w.grownBy w' none) := by
 refine gw_enter ⟨11, w, none, []⟩ Tryz.func259 rfl Tryz.ntmps259 rfl (mem0 (X := []) allF_nil allL_nil) ?_
 refine sr_ ?_
 refine wl_box rfl rfl rfl fun g1 => ?_
 refine sg_ rfl (nn_ (sr_ (fd_ fo276_2 rfl rfl (fd_ fo35_0 rfl rfl (lk_ sc3 0 rfl rfl rfl (mv_ rfl ?_))))))
 refine wl_ov (ov_mul rfl rfl (by omega) (by omega)) rfl ?_
 refine ad_ rfl rfl (sg_ rfl (nn_ ?_))
 refine gw_ret ?_
 refine nx_ret1 rfl rfl fun wx hm => ?_
 exact ⟨rfl, hm.g⟩
theorem rend_any (A : Option Addr) (n c0 : Nat) (c : ByteArray) (fr tt : Int) (D : Nat) (i : Nat) (w : World) (h0 : 0 ≤ fr) (h00 : fr ≤ 5761439) (hi : i ≤ 9000) :
  Calls Tryz.prog 260 #[.agg #[.slice A n c0, .string c, .int .i64 fr, .int .i64 tt, .int .i64 ((D : Nat) : Int)], .int .i64 ((i : Nat) : Int)] w (fun e w' => e = .returned (.int .i64 (endV fr tt i)) ∧ w.grownBy w' none) := by
 refine gw_enter ⟨13, w, none, []⟩ Tryz.func260 rfl Tryz.ntmps260 rfl (mem0 (X := []) allF_nil allL_nil) ?_
 refine sr_ ?_
 refine wl_box rfl rfl rfl fun g1 => ?_
 refine sg_ rfl (nn_ (gw_seq ?_))
 refine gd (fun wz => Blk wz g1 276 [.slice A n c0, .string c, .int .i64 fr, .int .i64 tt, .int .i64 ((D : Nat) : Int)] ∧ True) mixed (fun _ hm => ⟨hm.bl 0, trivial⟩) fun z => ?_
 refine wt 0 9 1 rfl z (ov_field fo276_2 rfl rfl) ?_
 refine wt 1 9 3 rfl z (ov_field fo35_1 rfl rfl) ?_
 refine wt 2 9 7 rfl z (ov_load sc3 rfl (fun _ hm => hm.1) rfl) ?_
 refine wt 3 9 15 rfl z (ov_loads rz276 rfl (fun _ hm => hm.1) rfl rfl) ?_
 refine wt 4 9 31 rfl z (ov_move rfl) ?_
 refine wt 5 9 63 rfl z (ov_add rfl rfl (by omega) (by omega)) ?_
 refine wa_set 10 (v' := .int .i64 ((i + 1 : Nat) : Int)) rfl (congrArg (Value.int .i64) (by omega)) ?_
 refine wa1 6 rfl ?_
 refine wl_callv rfl cb259 rfl rfl (fun wx hm => (rbegin_any A n c0 c fr tt D (i + 1) wx h0 h00 (by omega))) ?_
 refine wl_nil ?_
 refine nw 9 127 (fun _ hm => ⟨hm.bl 0, trivial⟩) fun z => ?_
 refine wt 7 9 255 rfl z (ov_min rfl rfl) ?_
 refine wt 8 9 511 rfl z (ov_assign rfl) ?_
 refine wa_done (by kernel_rfl) ?_
 refine nx_then ?_
 refine gw_ret ?_
 refine nx_ret1 rfl rfl fun wx hm => ?_
 exact ⟨ret_int (by unfold endV begV; rw [Int.min_comm]; simp), hm.g⟩
theorem rweekend_any (x : Int) (w : World) (h0 : 0 ≤ x) (h1 : x ≤ 100000000) :
  Calls Tryz.prog 261 #[.int .i64 x] w (fun e w' => ∃ v : Int, e = .returned (.tuple #[.int .i64 v, .bool (decide (5760 ≤ (x + 10080 - 720) % 10080))]) ∧ ((5760 ≤ (x + 10080 - 720) % 10080 ∧ 0 ≤ wkE x ∧ v = wkE x) ∨ (¬ 5760 ≤ (x + 10080 - 720) % 10080 ∧ ¬ 0 ≤ wkE x)) ∧ w.grownBy w' none) := by
 refine gw_enter ⟨15, w, none, []⟩ Tryz.func261 rfl Tryz.ntmps261 rfl (mem0 (X := []) allF_nil allL_nil) ?_
 refine sr_ ?_
 have hr0 : 0 ≤ (x + 10080 - 720) % 10080 := Int.emod_nonneg _ (by omega)
 have hr1 : (x + 10080 - 720) % 10080 < 10080 := Int.emod_lt_of_pos _ (by omega)
 refine sg_ rfl (sg_ rfl (nn_ (sr_ (mv_ rfl (ad_ rfl rfl ?_)))))
 refine wl_ov (ov_sub rfl rfl (by omega) (by omega)) rfl ?_
 refine wl_ov (ov_rem rfl rfl (by omega) (by omega) (by omega)) rfl ?_
 refine sg_ rfl (nn_ (sr_ (mv_ rfl (mv_ rfl ?_))))
 refine wl_ov (ov_sub rfl rfl (by omega) (by omega)) rfl ?_
 refine ad_ rfl rfl (mv_ rfl ?_)
 refine wl_ov (ov_geq rfl rfl) rfl ?_
 refine sg_ rfl (sg_ rfl (nn_ ?_))
 refine gw_ret ?_
 refine nx_ret2 rfl rfl rfl fun wx hm => ?_
 refine ⟨x - (x + 10080 - 720) % 10080 + 10080, rfl, ?_, hm.g⟩
 unfold wkE
 split
 ·omega
 split
 ·omega
 omega
/-- The season of a rental day, as the reference has it. -/
def seaR (l : List Rt) (c : ByteArray) (fr : Int) (D i : Nat) : Rt := if i < D then rateV l c (begV fr i / 1440) else rateZ
def seaB (l : List Rt) (c : ByteArray) (fr : Int) (D i : Nat) : Bool := decide (i < D ∧ 0 ≤ seaV l c fr i)
theorem seaB_yes {l : List Rt} {c : ByteArray} {fr : Int} {D i : Nat} (h : seaB l c fr D i = true) : i < D ∧ ∃ (k : Nat) (r : Rt), seaV l c fr i = (k : Int) ∧ l[k]? = some r ∧ rateP c (begV fr i / 1440) r = true ∧ seaR l c fr D i = r := by
  obtain ⟨h1, h2⟩ := of_decide_eq_true h
  obtain ⟨k, hk⟩ := Int.eq_ofNat_of_zero_le h2
  obtain ⟨r, hr, hp⟩ := ixP_get (p := rateP c (begV fr i / 1440)) (l := l) h2
  rw [show ixP (rateP c (begV fr i / 1440)) l 0 = (k : Int) from hk, Int.toNat_natCast] at hr
  refine ⟨h1, k, r, hk, hr, hp, ?_⟩
  unfold seaR
  rw [if_pos h1, rateV_at hk hr]
theorem seaB_no {l : List Rt} {c : ByteArray} {fr : Int} {D i : Nat} (h : seaB l c fr D i = false) (hi : i < D) : seaV l c fr i = -1 := by
  have h1 := of_decide_eq_false h
  have h2 := ixP_bound (p := rateP c (begV fr i / 1440)) l
  have h3 : ¬ 0 ≤ seaV l c fr i := fun e => h1 ⟨hi, e⟩
  have h4 : seaV l c fr i = ixP (rateP c (begV fr i / 1440)) l 0 := rfl
  omega
theorem sea_take {l : List Rt} {c : ByteArray} {fr : Int} {D i j mm : Nat} (h : seaV l c fr (i + j) = -1) (hj : j < mm) (hD : i + j < D) : (-1 : Int) ∈ ((seasons l c fr D).drop i).take mm := by
  apply List.mem_of_getElem? (i := j)
  rw [List.getElem?_take, if_pos hj, List.getElem?_drop, seasons_get hD, h]
theorem sea_none {l : List Rt} {c : ByteArray} {fr : Int} {D i mm : Nat} (h : ∀ j, j < mm → 0 ≤ seaV l c fr (i + j)) : ¬ (-1 : Int) ∈ ((seasons l c fr D).drop i).take mm := fun e => by
  obtain ⟨j, hj, he⟩ := List.getElem_of_mem e
  have hj2 : j < mm ∧ i + j < D := by simp [seasons] at hj; omega
  have h1 : (((seasons l c fr D).drop i).take mm)[j]? = some (-1) := by rw [List.getElem?_eq_getElem hj, he]
  rw [List.getElem?_take, if_pos hj2.1, List.getElem?_drop, seasons_get hj2.2] at h1
  have h2 := h j hj2.1
  injection h1 with h1
  omega
theorem season_any (l : List Rt) (A : Option Addr) (n c0 : Nat) (c : ByteArray) (fr tt : Int) (D : Nat) (i : Nat) (w : World) (hl : SlT rtEnc 7 170 w A n l) (hn : n ≤ 1000000) (hpos : ∀ r ∈ l, RtPos r) (h0 : 0 ≤ fr) (h00 : fr ≤ 5761439) (hi : i ≤ 1000) (hD : D ≤ 5000) :
  Calls Tryz.prog 258 #[.agg #[.slice A n c0, .string c, .int .i64 fr, .int .i64 tt, .int .i64 ((D : Nat) : Int)], .int .i64 ((i : Nat) : Int)] w (fun e w' => e = .returned (.tuple #[.agg (rtEnc (seaR l c fr D i)).toArray, .bool (seaB l c fr D i)]) ∧ w.grownBy w' none) := by
 refine gw_enter ⟨24, w, none, []⟩ Tryz.func258 rfl Tryz.ntmps258 rfl (mem0 (X := [SlOld rtEnc 7 170 w.heap.size none A n l]) (allF_cons hl.old allF_nil) (allL_cons SlOld.lasts allL_nil)) ?_
 refine sr_ ?_
 refine wl_box rfl rfl rfl fun g1 => ?_
 refine wl_alloc zc170 rfl fun g2 => ?_
 refine sg_ rfl (nn_ (gw_seq (sr_ (mv_ rfl (fd_ fo276_3 rfl rfl (lk_ sc3 1 rfl rfl rfl ?_))))))
 refine wl_ov (ov_sub rfl rfl (by omega) (by omega)) rfl ?_
 refine wl_callw rfl cb133 rfl rfl (fun wx hm => (rin_any _ _ _ wx)) ?_
 refine wl_ov (ov_un_not rfl) rfl (nn_ ?_)
 refine gw_cond rfl (fun hh => ?_) (fun hh => ?_)
 ·have h1 : (inB ((i : Nat) : Int) 0 (((D : Nat) : Int) - 1)) = false := by simpa using hh
  clear hh
  refine sr_ ?_
  refine wl_ov (ov_build (cs := [.string ⟨#[]⟩, .int .i64 0, .int .i64 0, .int .i64 0, .int .i64 0, .int .i64 0, .int .i64 0]) rfl (by kernel_rfl)) rfl ?_
  refine wl_stores (cs' := [.string ⟨#[]⟩, .int .i64 0, .int .i64 0, .int .i64 0, .int .i64 0, .int .i64 0, .int .i64 0]) 0 rz170 rfl rfl rfl rfl rfl rfl rfl rfl ?_
  refine sg_ rfl (nn_ ?_)
  refine gw_ret ?_
  refine nx_then_ret ?_
  refine nx_retct 0 rfl rz170 rfl rfl rfl rfl fun wx hm => ?_
  have hi2 : ¬ i < D := by have h1 := inB_false.1 h1; omega
  refine ⟨?_, hm.g⟩
  unfold seaR seaB
  rw [if_neg hi2, decide_eq_false (fun h => hi2 h.1)]; rfl
 have h1 : (inB ((i : Nat) : Int) 0 (((D : Nat) : Int) - 1)) = true := by simpa using hh
 clear hh
 refine gw_skip (nx_then (gw_seq ?_))
 have hi2 : i < D := by have h1 := inB_iff.1 h1; omega
 obtain ⟨RV, hRV⟩ : ∃ R, R = rateV l c (begV fr i / 1440) := ⟨_, rfl⟩
 obtain ⟨r0, r1, r2, r3, r4, r5, r6⟩ := RV
 have hbv : 0 ≤ begV fr i ∧ begV fr i ≤ 100000000 := by unfold begV; omega
 have hbv0 := hbv.1
 have hbv1 := hbv.2
 refine gd (fun wz => Blk wz g1 276 [.slice A n c0, .string c, .int .i64 fr, .int .i64 tt, .int .i64 ((D : Nat) : Int)] ∧ (SlOld rtEnc 7 170 w.heap.size none A n l) wz ∧ True) mixed (fun _ hm => ⟨hm.bl 1, hm.fa 0, trivial⟩) fun z => ?_
 refine wt 0 13 1 rfl z (ov_field fo276_0 rfl rfl) ?_
 refine wt 1 13 3 rfl z (ov_load sc26 rfl (fun _ hm => hm.1) rfl) ?_
 refine wt 2 13 7 rfl z (ov_field fo276_1 rfl rfl) ?_
 refine wt 3 13 15 rfl z (ov_load sc9 rfl (fun _ hm => hm.1) rfl) ?_
 refine wt 4 13 31 rfl z (ov_loads rz276 rfl (fun _ hm => hm.1) rfl rfl) ?_
 refine wt 5 13 63 rfl z (ov_move rfl) ?_
 refine wa1 6 rfl ?_
 refine wl_callv rfl cb259 rfl rfl (fun wx hm => (rbegin_any A n c0 c fr tt D i wx h0 h00 (by omega))) ?_
 refine wl_nil ?_
 refine nw 13 127 (fun _ hm => ⟨hm.bl 1, hm.fa 0, trivial⟩) fun z => ?_
 refine wt 7 13 255 rfl z (ov_quo rfl rfl (by omega) (by omega) (by omega)) ?_
 refine wa1 8 rfl ?_
 refine wl_callv (v := .tuple #[.agg #[.string r0, .int .i64 r1, .int .i64 r2, .int .i64 r3, .int .i64 r4, .int .i64 r5, .int .i64 r6], .bool (decide (0 ≤ seaV l c fr i))]) rfl cb312 rfl rfl (fun wx hm => (by have h := rateAt_any l A n c0 c (begV fr i / 1440) wx (hm.fact 0 rfl).1 hn hpos; rw [← hRV] at h; exact h)) ?_
 refine wl_nil ?_
 refine nw 13 511 (fun _ hm => ⟨hm.bl 1, hm.fa 0, trivial⟩) fun z => ?_
 refine wt 9 13 1023 rfl z (ov_extract rfl rfl) ?_
 refine wt 10 13 2047 rfl z (ov_extract rfl rfl) ?_
 refine wa1 11 rfl ?_
 refine wl_stores (cs' := [.string r0, .int .i64 r1, .int .i64 r2, .int .i64 r3, .int .i64 r4, .int .i64 r5, .int .i64 r6]) 0 rz170 rfl rfl rfl rfl rfl rfl rfl rfl ?_
 refine wl_nil ?_
 refine nw 13 4095 (fun _ hm => ⟨hm.bl 1, hm.fa 0, trivial⟩) fun z => ?_
 refine wt 12 13 8191 rfl z (ov_assign rfl) ?_
 refine wa_done (by kernel_rfl) ?_
 refine nx_then ?_
 refine gw_ret ?_
 refine nx_retct 0 rfl rz170 rfl rfl rfl rfl fun wx hm => ?_
 refine ⟨?_, hm.g⟩
 unfold seaR seaB
 rw [if_pos hi2, ← hRV, show decide (i < D ∧ 0 ≤ seaV l c fr i) = decide (0 ≤ seaV l c fr i) by simp [hi2]]; rfl
def sgnV (x : Int) : Int := if x < 0 then -1 else if 0 < x then 1 else 0
def cmpP (p q : Pc) : Int := if p.kind ≠ q.kind then sgnV (p.kind - q.kind) else sgnV (p.days - q.days)
/-- The comparison of two lists of one length. -/
def cmpF : List Pc → List Pc → Int
  | p :: r, q :: t => if cmpP p q = 0 then cmpF r t else cmpP p q
  | _, _ => 0
theorem sgn_lt {a b : Int} : sgnV (a - b) < 0 ↔ a < b := by unfold sgnV; split <;> (try split) <;> omega
theorem sgn_zero {a b : Int} : sgnV (a - b) = 0 ↔ a = b := by unfold sgnV; split <;> (try split) <;> omega
theorem cmpF_lt : ∀ {a b : List Pc}, a.length = b.length → (cmpF a b < 0 ↔ lexLt a b)
  | [], [], _ => by simp [cmpF, lexLt]
  | [], _ :: _, h => by simp at h
  | _ :: _, [], h => by simp at h
  | p :: r, q :: t, h => by
    have ih := cmpF_lt (a := r) (b := t) (by simpa using h)
    simp only [cmpF, lexLt]
    have key : cmpP p q = 0 ↔ p.kind = q.kind ∧ p.days = q.days := by
      unfold cmpP
      by_cases h1 : p.kind = q.kind
      · rw [if_neg (by simpa using h1), sgn_zero]; simp [h1]
      · rw [if_pos h1, sgn_zero]; simp [h1]
    have key2 : cmpP p q < 0 ↔ p.kind < q.kind ∨ (p.kind = q.kind ∧ p.days < q.days) := by
      unfold cmpP
      by_cases h1 : p.kind = q.kind
      · rw [if_neg (by simpa using h1), sgn_lt]; simp [h1]
      · rw [if_pos h1, sgn_lt]; simp [h1]
    by_cases h0 : cmpP p q = 0
    · rw [if_pos h0, ih]
      obtain ⟨e1, e2⟩ := key.1 h0
      constructor
      · exact fun e => .inr ⟨e1, e2, e⟩
      · rintro (e | ⟨_, _, e⟩)
        · omega
        · exact e
    · rw [if_neg h0, key2]
      constructor
      · exact .inl
      · rintro (e | ⟨e1, e2, _⟩)
        · exact e
        · exact absurd (key.2 ⟨e1, e2⟩) h0
theorem cmpF_at {a b : List Pc} {k : Nat} {p q : Pc} (hp : a[k]? = some p) (hq : b[k]? = some q) : cmpF (a.drop k) (b.drop k) = if cmpP p q = 0 then cmpF (a.drop (k + 1)) (b.drop (k + 1)) else cmpP p q := by
  obtain ⟨h1, rfl⟩ := List.getElem?_eq_some_iff.1 hp
  obtain ⟨h2, rfl⟩ := List.getElem?_eq_some_iff.1 hq
  rw [List.drop_eq_getElem_cons h1, List.drop_eq_getElem_cons h2]; rfl
/-- What lessWay says. -/
def wltB (x y : Int) (a b : List Pc) : Bool := if x ≠ y then decide (x < y) else if a.length ≠ b.length then decide (a.length < b.length) else decide (cmpF a b < 0)
theorem wltB_iff {a b : List Pc} : wltB (pcSum a) (pcSum b) a b = true ↔ WLt a b := by
  unfold wltB WLt
  by_cases h1 : pcSum a = pcSum b
  · rw [if_neg (by simpa using h1)]
    by_cases h2 : a.length = b.length
    · rw [if_neg (by simpa using h2), decide_eq_true_iff, cmpF_lt h2]
      simp [h1, h2]
    · rw [if_pos h2, decide_eq_true_iff]
      simp [h1, h2]
  · rw [if_pos h1, decide_eq_true_iff]
    simp [h1]
def PcSm (p : Pc) : Prop := (0 ≤ p.kind ∧ p.kind ≤ 10) ∧ (0 ≤ p.days ∧ p.days ≤ 10)
theorem chain_small {pr : Int → Nat → Int → Option Int} : ∀ {ps : List Pc} {i j : Nat}, Chain pr i j ps → ∀ p ∈ ps, PcSm p
  | [], _, _, _, p, h => by cases h
  | q :: r, i, j, h, p, hp => by
    rcases List.mem_cons.1 hp with rfl | hp
    · have h1 := h.1
      exact ⟨⟨by have := h1.1; omega, by have := h1.2.1; omega⟩, by have := h1.2.2.1; omega, by have := h1.2.2.2.1; omega⟩
    · exact chain_small h.2 p hp
theorem sign_any (x : Int) (w : World) : Calls Tryz.prog 157 #[.int .i64 x] w (GotE w (sgnV x)) := by
 refine gw_enter ⟨9, w, none, []⟩ Tryz.func157 rfl Tryz.ntmps157 rfl (mem0 (X := []) allF_nil allL_nil) ?_
 refine sr_ (sg_ rfl (nn_ (gw_seq (gw_block (sr_ (mv_ rfl (wl_ov (ov_lss rfl rfl) rfl (sg_ rfl (nn_ ?_)))))))))
 refine gw_cond rfl (fun hh => ?_) (fun hh => ?_)
 ·have h1 : x < 0 := by simpa using hh
  clear hh
  refine sr_ (sg_ rfl ?_)
  refine wl_set 2 (v' := .int .i64 (-1)) rfl rfl ?_
  refine nn_ ?_
  refine gw_ret ?_
  refine nx_blk_ret (nx_then_ret ?_)
  refine nx_ret1 rfl rfl fun wx hm => ?_
  exact ⟨ret_int (by unfold sgnV; rw [if_pos h1]), hm.g⟩
 have h1 : ¬ (x < 0) := by simpa using hh
 clear hh
 refine sr_ (mv_ rfl ?_)
 refine wl_ov (ov_gtr rfl rfl) rfl ?_
 refine sg_ rfl (nn_ ?_)
 refine gw_cond rfl (fun hh => ?_) (fun hh => ?_)
 ·have h2 : 0 < x := by simpa using hh
  clear hh
  refine sr_ (sg_ rfl (nn_ ?_))
  refine gw_ret ?_
  refine nx_blk_ret (nx_then_ret ?_)
  refine nx_ret1 rfl rfl fun wx hm => ?_
  exact ⟨ret_int (by unfold sgnV; rw [if_neg h1, if_pos h2]), hm.g⟩
 have h2 : ¬ (0 < x) := by simpa using hh
 clear hh
 refine gw_skip (nx_blk_nrm (nx_then (sr_ (sg_ rfl (nn_ ?_)))))
 refine gw_ret ?_
 refine nx_ret1 rfl rfl fun wx hm => ?_
 exact ⟨ret_int (by unfold sgnV; rw [if_neg h1, if_neg h2]), hm.g⟩
theorem cmpPc_any (x0 x1 x2 y0 y1 y2 : Int) (w : World) (hx : PcSm ⟨x0, x1, x2⟩) (hy : PcSm ⟨y0, y1, y2⟩) :
  Calls Tryz.prog 263 #[.agg #[.int .i64 x0, .int .i64 x1, .int .i64 x2], .agg #[.int .i64 y0, .int .i64 y1, .int .i64 y2]] w (GotE w (cmpP ⟨x0, x1, x2⟩ ⟨y0, y1, y2⟩)) := by
 refine gw_enter ⟨22, w, none, []⟩ Tryz.func263 rfl Tryz.ntmps263 rfl (mem0 (X := []) allF_nil allL_nil) ?_
 refine sr_ ?_
 obtain ⟨⟨a1, a2⟩, a3, a4⟩ := hx
 obtain ⟨⟨e1, e2⟩, e3, e4⟩ := hy
 dsimp only at a1 a2 a3 a4 e1 e2 e3 e4
 refine wl_box rfl rfl rfl fun g1 => ?_
 refine wl_box rfl rfl rfl fun g2 => ?_
 refine sg_ rfl (nn_ (gw_seq (sr_ (fd_ fo162_0 rfl rfl (lk_ sc3 1 rfl rfl rfl (fd_ fo162_0 rfl rfl (lk_ sc3 0 rfl rfl rfl (wl_ov (ov_neq rfl rfl) rfl (nn_ ?_)))))))))
 refine gw_cond rfl (fun hh => ?_) (fun hh => ?_)
 ·have h1 : ¬ (x0 = y0) := by simpa using hh
  clear hh
  refine sr_ (fd_ fo162_0 rfl rfl (lk_ sc3 1 rfl rfl rfl (fd_ fo162_0 rfl rfl (lk_ sc3 0 rfl rfl rfl ?_))))
  refine wl_ov (ov_sub rfl rfl (by omega) (by omega)) rfl ?_
  refine wl_callv rfl cb157 rfl rfl (fun wx hm => (sign_any _ wx)) ?_
  refine sg_ rfl (nn_ ?_)
  refine gw_ret ?_
  refine nx_then_ret ?_
  refine nx_ret1 rfl rfl fun wx hm => ?_
  exact ⟨ret_int (by unfold cmpP; rw [if_pos h1]), hm.g⟩
 have h1 : x0 = y0 := by simpa using hh
 clear hh
 refine gw_skip (nx_then (sr_ (fd_ fo162_1 rfl rfl (lk_ sc3 1 rfl rfl rfl (fd_ fo162_1 rfl rfl (lk_ sc3 0 rfl rfl rfl ?_))))))
 refine wl_ov (ov_sub rfl rfl (by omega) (by omega)) rfl ?_
 refine wl_callv rfl cb157 rfl rfl (fun wx hm => (sign_any _ wx)) ?_
 refine sg_ rfl (nn_ ?_)
 refine gw_ret ?_
 refine nx_ret1 rfl rfl fun wx hm => ?_
 exact ⟨ret_int (by unfold cmpP; rw [if_neg (by simpa using h1)]), hm.g⟩
theorem compare_any (ps qs : List Pc) (A A2 : Option Addr) (n c1 c2 : Nat) (w : World) (hp : SlT pcEnc 3 162 w A n ps) (hq : SlT pcEnc 3 162 w A2 n qs) (hn : n ≤ 1000000) (hps : ∀ p ∈ ps, PcSm p) (hqs : ∀ p ∈ qs, PcSm p) :
  Calls Tryz.prog 262 #[.slice A n c1, .slice A2 n c2, .func (.func 263) #[] #[]] w (GotE w (cmpF ps qs)) := by
 refine gw_enter ⟨39, w, none, []⟩ Tryz.func262 rfl Tryz.ntmps262 rfl (mem0 (X := [SlOld pcEnc 3 162 w.heap.size none A n ps, SlOld pcEnc 3 162 w.heap.size none A2 n qs]) (allF_cons hp.old (allF_cons hq.old allF_nil)) (allL_cons SlOld.lasts (allL_cons SlOld.lasts allL_nil))) ?_
 refine sr_ ?_
 have hpl := hp.len
 have hql := hq.len
 refine sg_ rfl (nn_ (gw_seq (sr_ (mv_ rfl (wl_ov (ov_len es129 rfl) rfl (mv_ rfl (nn_ (gw_block ?_))))))))
 refine gw_loop (γ := Nat) (fun (k : Nat) => k ≤ n ∧ cmpF ps qs = cmpF (ps.drop k) (qs.drop k)) (fun (k : Nat) => [(0, .slice A n c1), (1, .slice A2 n c2), (2, .func (.func 263) #[] #[]), (11, .slice A n c1), (12, .int .i64 ((n : Nat) : Int)), (13, .int .i64 ((k : Nat) : Int))]) (fun (k : Nat) => fun _ => True) (fun (k : Nat) => []) (fun (k : Nat) => []) (fun (k : Nat) => [SlOld pcEnc 3 162 w.heap.size none A n ps, SlOld pcEnc 3 162 w.heap.size none A2 n qs]) (fun (k : Nat) => n - k) 0 ⟨Nat.zero_le _, rfl⟩ ⟨rfl, rfl, rfl, rfl, rfl, rfl, trivial⟩ (fun _ hm => hm.pick [] [] [0, 1] rfl rfl) ?_
 intro k hinv
 replace hinv : k ≤ n ∧ cmpF ps qs = cmpF (ps.drop k) (qs.drop k) := hinv
 refine sr_ (wl_ov (ov_lss rfl rfl) rfl (nn_ (gw_seq ?_)))
 refine gw_cond rfl (fun hh => ?_) (fun hh => ?_)
 ·have hk : ((k : Nat) : Int) < ((n : Nat) : Int) := by simpa using hh
  clear hh
  refine gw_skip (nx_then (gw_seq (gw_block (sr_ ?_))))
  obtain ⟨b, off, hA, _, _⟩ := hp.get (by omega)
  subst hA
  obtain ⟨b2, off2, hA, _, _⟩ := hq.get (by omega)
  subst hA
  obtain ⟨x, hx1⟩ : ∃ x, ps[k]? = some x := ⟨_, List.getElem?_eq_getElem (by omega)⟩
  obtain ⟨x0, x1, x2⟩ := x
  obtain ⟨y, hy1⟩ : ∃ x, qs[k]? = some x := ⟨_, List.getElem?_eq_getElem (by omega)⟩
  obtain ⟨y0, y1, y2⟩ := y
  have hat := cmpF_at hx1 hy1
  refine mv_ rfl ?_
  refine wl_ov (ov_index (j := k) es129 rfl rfl (by omega)) rfl ?_
  refine wl_ov (ov_elem (vs := [.int .i64 x0, .int .i64 x1, .int .i64 x2]) rz162 rfl (fun _ hm => (hm.fact 0 rfl).1) hx1 rfl rfl) rfl ?_
  refine wl_alloc zc162 rfl fun g1 => ?_
  refine sg_ rfl ?_
  refine wl_stores (cs' := [.int .i64 x0, .int .i64 x1, .int .i64 x2]) 0 rz162 rfl rfl rfl rfl rfl rfl rfl rfl ?_
  refine nn_ (gw_seq (sr_ (mv_ rfl (mv_ rfl (wl_ov (ov_len es129 rfl) rfl ?_)))))
  refine wl_ov (ov_geq rfl rfl) rfl ?_
  refine wl_set 21 (v' := .bool false) rfl (congrArg Value.bool (decide_eq_false (by omega))) ?_
  refine nn_ (cf_ rfl (gw_skip (nx_then (sr_ (mv_ rfl (mv_ rfl ?_))))))
  refine wl_ov (ov_index (j := k) es129 rfl rfl (by omega)) rfl ?_
  refine wl_ov (ov_elem (vs := [.int .i64 y0, .int .i64 y1, .int .i64 y2]) rz162 rfl (fun _ hm => (hm.fact 1 rfl).1) hy1 rfl rfl) rfl ?_
  refine wl_alloc zc162 rfl fun g2 => ?_
  refine wl_stores (cs' := [.int .i64 y0, .int .i64 y1, .int .i64 y2]) 0 rz162 rfl rfl rfl rfl rfl rfl rfl rfl ?_
  refine nn_ (sr_ (mv_ rfl ?_))
  refine wl_ov (ov_loads rz162 rfl (fun _ hm => hm.blkI 1 rfl) rfl rfl) rfl ?_
  refine wl_ov (ov_loads rz162 rfl (fun _ hm => hm.blkI 0 rfl) rfl rfl) rfl ?_
  refine wl_callv rfl cb263 rfl rfl (fun wx hm => (cmpPc_any x0 x1 x2 y0 y1 y2 wx (hps _ (List.mem_of_getElem? hx1)) (hqs _ (List.mem_of_getElem? hy1)))) ?_
  refine sg_ rfl (nn_ (sr_ (mv_ rfl (wl_ov (ov_neq rfl rfl) rfl (nn_ ?_)))))
  refine gw_cond rfl (fun hh => ?_) (fun hh => ?_)
  ·have h1 : ¬ (cmpP ⟨x0, x1, x2⟩ ⟨y0, y1, y2⟩ = 0) := by simpa using hh
   clear hh
   refine sr_ (mv_ rfl (sg_ rfl (nn_ ?_)))
   refine gw_ret ?_
   refine nx_blk_ret (nx_then_ret (nx_then_ret (nx_blk_ret (nx_then_ret ?_))))
   refine nx_ret1 rfl rfl fun wx hm => ?_
   exact ⟨ret_int (by rw [hinv.2, hat, if_neg h1]), hm.g⟩
  have h1 : cmpP ⟨x0, x1, x2⟩ ⟨y0, y1, y2⟩ = 0 := by simpa using hh
  clear hh
  refine gw_skip (nx_blk_nrm (nx_then (gw_region (ad_ rfl rfl (mv_ rfl (wl_nil ?_))))))
  exact nx_round (k + 1) ⟨by omega, by rw [hinv.2, hat, if_pos (by simpa using h1)]⟩ (by omega) ⟨rfl, rfl, rfl, rfl, rfl, (some_int (by omega)), trivial⟩ (fun _ hm => hm.pick [] [] [0, 1] rfl rfl)
 have hk : ¬ (((k : Nat) : Int) < ((n : Nat) : Int)) := by simpa using hh
 clear hh
 refine gw_exit ?_
 refine nx_then_exit (nx_then_exit ?_)
 refine nx_blk_here ?_
 refine nx_then (gw_seq (sr_ (mv_ rfl (wl_ov (ov_len es129 rfl) rfl (mv_ rfl (wl_ov (ov_len es129 rfl) rfl (wl_ov (ov_lss rfl rfl) rfl ?_)))))))
 refine wl_set 38 (v' := .bool false) rfl (congrArg Value.bool (decide_eq_false (by omega))) ?_
 refine nn_ (cf_ rfl (gw_skip (nx_then (sr_ (sg_ rfl (nn_ ?_))))))
 refine gw_ret ?_
 refine nx_ret1 rfl rfl fun wx hm => ?_
 exact ⟨ret_int (by rw [hinv.2, List.drop_eq_nil_of_le (by omega)]; unfold cmpF; rfl), hm.g⟩
theorem lessWay_any (x y : Int) (ps qs : List Pc) (A A2 : Option Addr) (n n2 c1 c2 : Nat) (w : World) (hp : SlT pcEnc 3 162 w A n ps) (hq : SlT pcEnc 3 162 w A2 n2 qs) (hn : n ≤ 1000000) (hps : ∀ p ∈ ps, PcSm p) (hqs : ∀ p ∈ qs, PcSm p) :
  Calls Tryz.prog 210 #[.agg #[.int .i64 x, .slice A n c1], .agg #[.int .i64 y, .slice A2 n2 c2]] w (fun e w' => e = .returned (.bool (wltB x y ps qs)) ∧ w.grownBy w' none) := by
 refine gw_enter ⟨35, w, none, []⟩ Tryz.func210 rfl Tryz.ntmps210 rfl (mem0 (X := [SlOld pcEnc 3 162 w.heap.size none A n ps, SlOld pcEnc 3 162 w.heap.size none A2 n2 qs]) (allF_cons hp.old (allF_cons hq.old allF_nil)) (allL_cons SlOld.lasts (allL_cons SlOld.lasts allL_nil))) ?_
 refine sr_ ?_
 have hpl := hp.len
 have hql := hq.len
 refine wl_box rfl rfl rfl fun g1 => ?_
 refine wl_box rfl rfl rfl fun g2 => ?_
 refine sg_ rfl (nn_ (gw_seq (sr_ (fd_ fo280_0 rfl rfl (lk_ sc3 1 rfl rfl rfl (fd_ fo280_0 rfl rfl (lk_ sc3 0 rfl rfl rfl (wl_ov (ov_neq rfl rfl) rfl (nn_ ?_)))))))))
 refine gw_cond rfl (fun hh => ?_) (fun hh => ?_)
 ·have h1 : ¬ (x = y) := by simpa using hh
  clear hh
  refine sr_ (fd_ fo280_0 rfl rfl (lk_ sc3 1 rfl rfl rfl (fd_ fo280_0 rfl rfl (lk_ sc3 0 rfl rfl rfl (wl_ov (ov_lss rfl rfl) rfl (sg_ rfl (nn_ ?_)))))))
  refine gw_ret ?_
  refine nx_then_ret ?_
  refine nx_ret1 rfl rfl fun wx hm => ?_
  exact ⟨by unfold wltB; rw [if_pos h1], hm.g⟩
 have h1 : x = y := by simpa using hh
 clear hh
 refine gw_skip (nx_then (gw_seq (sr_ (fd_ fo280_1 rfl rfl (lk_ sc129 1 rfl rfl rfl (wl_ov (ov_len es129 rfl) rfl (fd_ fo280_1 rfl rfl (lk_ sc129 0 rfl rfl rfl (wl_ov (ov_len es129 rfl) rfl (wl_ov (ov_neq rfl rfl) rfl (nn_ ?_)))))))))))
 refine gw_cond rfl (fun hh => ?_) (fun hh => ?_)
 ·have h2 : ¬ (((n : Nat) : Int) = ((n2 : Nat) : Int)) := by simpa using hh
  clear hh
  refine sr_ (fd_ fo280_1 rfl rfl (lk_ sc129 1 rfl rfl rfl (wl_ov (ov_len es129 rfl) rfl (fd_ fo280_1 rfl rfl (lk_ sc129 0 rfl rfl rfl (wl_ov (ov_len es129 rfl) rfl (wl_ov (ov_lss rfl rfl) rfl (sg_ rfl (nn_ ?_)))))))))
  refine gw_ret ?_
  refine nx_then_ret ?_
  refine nx_ret1 rfl rfl fun wx hm => ?_
  have h3 : ps.length ≠ qs.length := by omega
  exact ⟨by unfold wltB; rw [if_neg (by simpa using h1), if_pos h3, hpl, hql]; simp, hm.g⟩
 have h2 : ((n : Nat) : Int) = ((n2 : Nat) : Int) := by simpa using hh
 clear hh
 refine gw_skip (nx_then (sr_ ?_))
 have h3 : n2 = n := by omega
 subst h3
 refine fd_ fo280_1 rfl rfl (lk_ sc129 1 rfl rfl rfl (fd_ fo280_1 rfl rfl (lk_ sc129 0 rfl rfl rfl ?_)))
 refine wl_callv rfl cb262 rfl rfl (fun wx hm => (compare_any ps qs A A2 n2 c1 c2 wx (hm.fact 0 rfl).1 (hm.fact 1 rfl).1 hn hps hqs)) ?_
 refine wl_ov (ov_lss rfl rfl) rfl (sg_ rfl (nn_ ?_))
 refine gw_ret ?_
 refine nx_ret1 rfl rfl fun wx hm => ?_
 exact ⟨by unfold wltB; rw [if_neg (by simpa using h1), if_neg (show ¬ ps.length ≠ qs.length by omega)], hm.g⟩
end Go.Proofs.YtnmpniaocjmkfaaGreatDoor
namespace Go.Proofs.YtnmpniaocjmkfaaGreatDoor
open Go.RowKit
def rstEnc (x : ByteArray) : List Value := [.string x]
theorem rst_len (x : ByteArray) : (rstEnc x).length = 1 := rfl
/-- What is drawn: an hour is cheap. -/
def RtG (x : Rt) : Prop := x.cls.size ≤ 1000000 ∧ x.hr ≤ 10
theorem rt_g {l : List Rt} (h : ∀ y ∈ l, RtG y) : ∀ y ∈ l, RtOk y := fun y hy => (h y hy).1
theorem rt_snoc {l : List Rt} {x : Rt} (h : ∀ y ∈ l, RtG y) (hx : x.cls.size ≤ 1000000 ∧ x.hr ≤ 10) : ∀ y ∈ l ++ [x], RtG y := fun y hy => by
  rcases List.mem_append.1 hy with hy | hy
  · exact h y hy
  · rw [List.mem_singleton.1 hy]; exact hx
theorem rt_set {l : List Rt} {x : Rt} {j : Nat} (h : ∀ y ∈ l, RtG y) (hx : x.cls.size ≤ 1000000 ∧ x.hr ≤ 10) : ∀ y ∈ l.set j x, RtG y := fun y hy => by
  rcases List.mem_or_eq_of_mem_set hy with hy | rfl
  · exact h y hy
  · exact hx
theorem grightRates_g (w : World) (B sb m : Nat) (hS : Strm 25 w B sb m) (hm : m ≤ 100000000000) :
  Calls Tryz.prog 186 #[.pointer (some ⟨sb, 0, none⟩)] w (fun e w' => ∃ (A : Option Addr) (n c : Nat) (l : List Rt), e = .returned (.slice A n c) ∧ w'.ownsRow w.heap.size 170 7 (.slice A n c) n (l.flatMap rtEnc) ∧ (∀ x ∈ l, RtG x) ∧ l.length = n ∧ n ≤ 9 ∧ Strm 25 w' B sb (m + 120) ∧ w.grownBy w' (some sb)) := by
 refine gw_enter ⟨64, w, (some sb), []⟩ Tryz.func186 rfl Tryz.ntmps186 rfl (memS (X := []) hS allF_nil allL_nil) ?_
 refine sr_ (sg_ rfl (nn_ (sr_ (sg_ rfl (nn_ (gw_seq (sr_ ?_)))))))
 refine wl_buildSlice (e := 9) (cs := [.string ⟨#[109, 97, 120, 105]⟩, .string ⟨#[109, 105, 100, 105]⟩, .string ⟨#[109, 105, 110, 105]⟩]) rfl (by kernel_rfl) rfl fun g1 => ?_
 refine wl_ov (ov_len es36 rfl) rfl ?_
 refine wl_set 9 (v' := .int .i64 3) rfl rfl ?_
 refine mv_ rfl (nn_ (gw_block ?_))
 refine gw_nilOwn 170 7 ?_
 refine gw_loop (γ := Nat × Nat × Value × List Rt × List Value) (fun g => g.1 ≤ 3 ∧ g.2.1 ≤ 3 * g.1 ∧ g.2.2.2.1.length = g.2.1 ∧ (∀ x ∈ g.2.2.2.1, RtG x) ∧ g.2.2.2.2 = g.2.2.2.1.flatMap rtEnc) (fun g => [(0, .pointer (some ⟨sb, 0, none⟩)), (2, .slice none 0 0), (3, g.2.2.1), (8, .slice (some ⟨g1, 0, none⟩) 3 3), (9, .int .i64 3), (10, .int .i64 ((g.1 : Nat) : Int))]) (fun g => fun w => Strm 25 w B sb (m + 40 * g.1)) (fun g => [(g1, 9, [.string ⟨#[109, 97, 120, 105]⟩, .string ⟨#[109, 105, 100, 105]⟩, .string ⟨#[109, 105, 110, 105]⟩])]) (fun g => [⟨g.2.2.1, 170, 7, g.2.1, g.2.2.2.2⟩]) (fun g => []) (fun g => 3 - g.1) (0, 0, .slice none 0 0, [], []) ⟨Nat.zero_le _, Nat.zero_le _, rfl, (fun _ h => by cases h), rfl⟩ ⟨rfl, rfl, rfl, rfl, rfl, rfl, trivial⟩ (fun _ hm => (hm.more rfl (by first | omega | (dsimp only; omega))).pick [0] [0] [] rfl rfl) ?_
 rintro ⟨k, n, v, l, xs⟩ hinv
 replace hinv : k ≤ 3 ∧ n ≤ 3 * k ∧ l.length = n ∧ (∀ x ∈ l, RtG x) ∧ xs = l.flatMap rtEnc := hinv
 dsimp only
 refine sr_ ?_
 obtain ⟨hi0, hi1, hi2, hi3, rfl⟩ := hinv
 refine wl_ov (ov_lss rfl rfl) rfl (nn_ (gw_seq ?_))
 refine gw_cond rfl (fun hh => ?_) (fun hh => ?_)
 ·have hk : ((k : Nat) : Int) < 3 := by simpa using hh
  clear hh
  refine gw_skip (nx_then (gw_seq (gw_block (sr_ ?_))))
  obtain ⟨nm, hx⟩ : ∃ x, ([⟨#[109, 97, 120, 105]⟩, ⟨#[109, 105, 100, 105]⟩, ⟨#[109, 105, 110, 105]⟩] : List ByteArray)[k]? = some x := ⟨_, List.getElem?_eq_getElem (by simp; omega)⟩
  have hnm : nm.size ≤ 100 := mem_sz (List.mem_of_getElem? hx) (by decide)
  refine wl_ov (ov_index (j := k) es36 rfl rfl (by omega)) rfl ?_
  refine wl_ov (ov_elem1 (k := 0) (v := .string nm) sc9 rfl (fun _ hm => (SlT.ofBlk (l := [⟨#[109, 97, 120, 105]⟩, ⟨#[109, 105, 100, 105]⟩, ⟨#[109, 105, 110, 105]⟩]) rst_len (hm.blkI 0 rfl))) hx rfl rfl) rfl ?_
  refine sg_ rfl (nn_ (sr_ (mv_ rfl ?_)))
  refine wl_buildSlice (e := 3) (cs := [.int .i64 0, .int .i64 0, .int .i64 0, .int .i64 3]) rfl (by kernel_rfl) rfl fun g2 => ?_
  refine wl_got (γ := Int) (val := fun v => .int .i64 v) (φ := fun v => v ∈ ([0, 0, 0, 3] : List Int)) rfl cb24 rfl rfl rfl rfl (fun wx hm => (pick_any [0, 0, 0, 3] _ _ _ wx B sb _ hm.k (by omega) (by simp) (by simp) (hm.blkI 0 rfl) (hm.neRow 0 rfl rfl))) fun v3 hv3 => ?_
  have bv3 : 0 ≤ v3 ∧ v3 ≤ 3 := mem_rng hv3 (by decide)
  have bv30 := bv3.1
  have bv31 := bv3.2
  clear bv3
  refine sg_ rfl (nn_ (sr_ (mv_ rfl ?_)))
  refine wl_buildSlice (e := 3) (cs := [.int .i64 0, .int .i64 1, .int .i64 1, .int .i64 2, .int .i64 3]) rfl (by kernel_rfl) rfl fun g4 => ?_
  refine wl_got (γ := Int) (val := fun v => .int .i64 v) (φ := fun v => v ∈ ([0, 1, 1, 2, 3] : List Int)) rfl cb24 rfl rfl rfl rfl (fun wx hm => (pick_any [0, 1, 1, 2, 3] _ _ _ wx B sb _ hm.k (by omega) (by simp) (by simp) (hm.blkI 0 rfl) (hm.neRow 0 rfl rfl))) fun v5 hv5 => ?_
  have bv5 : 0 ≤ v5 ∧ v5 ≤ 3 := mem_rng hv5 (by decide)
  have bv50 := bv5.1
  have bv51 := bv5.2
  clear bv5
  refine mv_ rfl (nn_ (gw_block ?_))
  refine gw_loop (γ := Nat × Int × Nat × Value × List Rt × List Value) (fun (g9 : Nat × Int × Nat × Value × List Rt × List Value) => (g9.1 : Int) ≤ v5 ∧ (0 ≤ g9.2.1 ∧ g9.2.1 ≤ 5000) ∧ g9.2.2.1 ≤ 3 * k + g9.1 ∧ g9.2.2.2.2.1.length = g9.2.2.1 ∧ (∀ x ∈ g9.2.2.2.2.1, RtG x) ∧ g9.2.2.2.2.2 = g9.2.2.2.2.1.flatMap rtEnc) (fun (g9 : Nat × Int × Nat × Value × List Rt × List Value) => [(0, .pointer (some ⟨sb, 0, none⟩)), (2, .slice none 0 0), (3, g9.2.2.2.1), (5, .string nm), (6, .int .i64 g9.2.1), (8, .slice (some ⟨g1, 0, none⟩) 3 3), (9, .int .i64 3), (10, .int .i64 ((k : Nat) : Int)), (19, .int .i64 v5), (20, .int .i64 ((g9.1 : Nat) : Int))]) (fun (g9 : Nat × Int × Nat × Value × List Rt × List Value) => fun w => Strm 25 w B sb (m + 40 * k + 1 + 1 + 8 * g9.1)) (fun (g9 : Nat × Int × Nat × Value × List Rt × List Value) => [(g1, 9, [.string ⟨#[109, 97, 120, 105]⟩, .string ⟨#[109, 105, 100, 105]⟩, .string ⟨#[109, 105, 110, 105]⟩])]) (fun (g9 : Nat × Int × Nat × Value × List Rt × List Value) => [⟨g9.2.2.2.1, 170, 7, g9.2.2.1, g9.2.2.2.2.2⟩]) (fun (g9 : Nat × Int × Nat × Value × List Rt × List Value) => []) (fun (g9 : Nat × Int × Nat × Value × List Rt × List Value) => (v5 - ((g9.1 : Nat) : Int)).toNat) (0, v3, n, v, l, l.flatMap rtEnc) ⟨by dsimp only; omega, ⟨by dsimp only; omega, by dsimp only; omega⟩, by dsimp only; omega, hi2, hi3, rfl⟩ ⟨rfl, rfl, rfl, rfl, rfl, rfl, rfl, rfl, rfl, rfl, trivial⟩ (fun _ hm => (hm.more rfl (by first | omega | (dsimp only; omega))).pick [2] [0] [] rfl rfl) ?_
  rintro ⟨j, fr, n, v, l, xs⟩ hinv
  replace hinv : (j : Int) ≤ v5 ∧ (0 ≤ fr ∧ fr ≤ 5000) ∧ n ≤ 3 * k + j ∧ l.length = n ∧ (∀ x ∈ l, RtG x) ∧ xs = l.flatMap rtEnc := hinv
  dsimp only
  refine sr_ ?_
  obtain ⟨hj0, hj1, hj2, hj3, hj4, rfl⟩ := hinv
  refine wl_ov (ov_lss rfl rfl) rfl (nn_ (gw_seq ?_))
  refine gw_cond rfl (fun hh => ?_) (fun hh => ?_)
  ·have hj : ((j : Nat) : Int) < v5 := by simpa using hh
   clear hh
   refine gw_skip (nx_then (gw_seq (gw_block (sr_ (mv_ rfl (mv_ rfl (mv_ rfl (mv_ rfl ?_))))))))
   refine wl_buildSlice (e := 3) (cs := [.int .i64 1, .int .i64 5, .int .i64 20, .int .i64 4000]) rfl (by kernel_rfl) rfl fun g6 => ?_
   refine wl_got (γ := Int) (val := fun v => .int .i64 v) (φ := fun v => v ∈ ([1, 5, 20, 4000] : List Int)) rfl cb24 rfl rfl rfl rfl (fun wx hm => (pick_any [1, 5, 20, 4000] _ _ _ wx B sb _ hm.k (by omega) (by simp) (by simp) (hm.blkI 0 rfl) (hm.neRow 0 rfl rfl))) fun v7 hv7 => ?_
   have bv7 : 1 ≤ v7 ∧ v7 ≤ 4000 := mem_rng hv7 (by decide)
   have bv70 := bv7.1
   have bv71 := bv7.2
   clear bv7
   refine ad_ rfl rfl (mv_ rfl ?_)
   refine wl_buildSlice (e := 3) (cs := [.int .i64 (-1), .int .i64 5, .int .i64 10, .int .i64 10, .int .i64 0]) rfl (by kernel_rfl) rfl fun g8 => ?_
   refine wl_got (γ := Int) (val := fun v => .int .i64 v) (φ := fun v => v ∈ ([-1, 5, 10, 10, 0] : List Int)) rfl cb24 rfl rfl rfl rfl (fun wx hm => (pick_any [-1, 5, 10, 10, 0] _ _ _ wx B sb _ hm.k (by omega) (by simp) (by simp) (hm.blkI 0 rfl) (hm.neRow 0 rfl rfl))) fun v9 hv9 => ?_
   have bv9 : -1 ≤ v9 ∧ v9 ≤ 10 := mem_rng hv9 (by decide)
   have bv90 := bv9.1
   have bv91 := bv9.2
   clear bv9
   refine mv_ rfl ?_
   refine wl_buildSlice (e := 3) (cs := [.int .i64 (-1), .int .i64 50, .int .i64 50, .int .i64 70, .int .i64 40]) rfl (by kernel_rfl) rfl fun g10 => ?_
   refine wl_got (γ := Int) (val := fun v => .int .i64 v) (φ := fun v => v ∈ ([-1, 50, 50, 70, 40] : List Int)) rfl cb24 rfl rfl rfl rfl (fun wx hm => (pick_any [-1, 50, 50, 70, 40] _ _ _ wx B sb _ hm.k (by omega) (by simp) (by simp) (hm.blkI 0 rfl) (hm.neRow 0 rfl rfl))) fun v11 hv11 => ?_
   have bv11 : -1 ≤ v11 ∧ v11 ≤ 70 := mem_rng hv11 (by decide)
   have bv110 := bv11.1
   have bv111 := bv11.2
   clear bv11
   refine mv_ rfl ?_
   refine wl_buildSlice (e := 3) (cs := [.int .i64 (-1), .int .i64 70, .int .i64 90, .int .i64 100]) rfl (by kernel_rfl) rfl fun g12 => ?_
   refine wl_got (γ := Int) (val := fun v => .int .i64 v) (φ := fun v => v ∈ ([-1, 70, 90, 100] : List Int)) rfl cb24 rfl rfl rfl rfl (fun wx hm => (pick_any [-1, 70, 90, 100] _ _ _ wx B sb _ hm.k (by omega) (by simp) (by simp) (hm.blkI 0 rfl) (hm.neRow 0 rfl rfl))) fun v13 hv13 => ?_
   have bv13 : -1 ≤ v13 ∧ v13 ≤ 100 := mem_rng hv13 (by decide)
   have bv130 := bv13.1
   have bv131 := bv13.2
   clear bv13
   refine mv_ rfl ?_
   refine wl_buildSlice (e := 3) (cs := [.int .i64 (-1), .int .i64 200, .int .i64 250, .int .i64 300]) rfl (by kernel_rfl) rfl fun g14 => ?_
   refine wl_got (γ := Int) (val := fun v => .int .i64 v) (φ := fun v => v ∈ ([-1, 200, 250, 300] : List Int)) rfl cb24 rfl rfl rfl rfl (fun wx hm => (pick_any [-1, 200, 250, 300] _ _ _ wx B sb _ hm.k (by omega) (by simp) (by simp) (hm.blkI 0 rfl) (hm.neRow 0 rfl rfl))) fun v15 hv15 => ?_
   have bv15 : -1 ≤ v15 ∧ v15 ≤ 300 := mem_rng hv15 (by decide)
   have bv150 := bv15.1
   have bv151 := bv15.2
   clear bv15
   refine wl_ov (ov_build (cs := [.string nm, .int .i64 fr, .int .i64 (fr + v7), .int .i64 v9, .int .i64 v11, .int .i64 v13, .int .i64 v15]) rfl (by kernel_rfl)) rfl ?_
   refine wl_alloc zc170 rfl fun g16 => ?_
   refine wl_stores (cs' := [.string nm, .int .i64 fr, .int .i64 (fr + v7), .int .i64 v9, .int .i64 v11, .int .i64 v13, .int .i64 v15]) 0 rz170 rfl rfl rfl rfl rfl rfl rfl rfl ?_
   refine nn_ (sr_ (fd_ fo170_2 rfl rfl (lk_ sc3 0 rfl rfl rfl ?_)))
   refine wl_ov (ov_min rfl rfl) rfl ?_
   refine fd_ fo170_2 rfl rfl ?_
   refine wl_store 0 sc3 rfl rfl rfl rfl rfl rfl ?_
   refine nn_ (gw_seq (sr_ (fd_ fo170_1 rfl rfl (lk_ sc3 0 rfl rfl rfl (fd_ fo170_2 rfl rfl (lk_ sc3 0 rfl rfl rfl ?_))))))
   refine wl_ov (ov_geq rfl rfl) rfl ?_
   refine nn_ ?_
   refine gw_cond rfl (fun hh => ?_) (fun hh => ?_)
   ·have hb : min (fr + v7) 4001 ≤ fr := by simpa using hh
    clear hh
    refine gw_exit ?_
    refine nx_then_exit ?_
    refine nx_blk_on rfl ?_
    refine nx_then_exit (nx_then_exit ?_)
    refine nx_blk_here ?_
    refine nx_blk_nrm (nx_then (gw_region (ad_ rfl rfl (mv_ rfl (wl_nil ?_)))))
    exact nx_round (k + 1, n, v, l, l.flatMap rtEnc) ⟨by dsimp only; omega, by dsimp only; omega, hj3, hj4, rfl⟩ (by dsimp only; omega) ⟨rfl, rfl, rfl, rfl, rfl, (some_int (by omega)), trivial⟩ (fun _ hm => (hm.more rfl (by first | omega | (dsimp only; omega))).pick [6] [0] [] rfl rfl)
   have hb : ¬ (min (fr + v7) 4001 ≤ fr) := by simpa using hh
   clear hh
   refine gw_skip (nx_then (sr_ (mv_ rfl ?_)))
   refine wl_ov (ov_loads rz170 rfl (fun _ hm => hm.blkI 0 rfl) rfl rfl) rfl ?_
   refine wl_buildSlice (e := 170) (cs := [.string nm, .int .i64 fr, .int .i64 (min (fr + v7) 4001), .int .i64 v9, .int .i64 v11, .int .i64 v13, .int .i64 v15]) rfl (by kernel_rfl) rfl fun g17 => ?_
   refine wl_append (news := [.string nm, .int .i64 fr, .int .i64 (min (fr + v7) 4001), .int .i64 v9, .int .i64 v11, .int .i64 v13, .int .i64 v15]) 0 0 ap26 rfl rfl rfl rfl rfl rfl rfl (by omega) (by unfold maxLen; omega) rfl rfl fun v2 hv2 => ?_
   refine sg_ rfl (nn_ ?_)
   refine gd (fun wz => Blk wz g17 170 [.string nm, .int .i64 fr, .int .i64 (min (fr + v7) 4001), .int .i64 v9, .int .i64 v11, .int .i64 v13, .int .i64 v15] ∧ Blk wz g16 170 [.string nm, .int .i64 fr, .int .i64 (min (fr + v7) 4001), .int .i64 v9, .int .i64 v11, .int .i64 v13, .int .i64 v15] ∧ Blk wz g14 3 [.int .i64 (-1), .int .i64 200, .int .i64 250, .int .i64 300] ∧ Blk wz g12 3 [.int .i64 (-1), .int .i64 70, .int .i64 90, .int .i64 100] ∧ Blk wz g10 3 [.int .i64 (-1), .int .i64 50, .int .i64 50, .int .i64 70, .int .i64 40] ∧ Blk wz g8 3 [.int .i64 (-1), .int .i64 5, .int .i64 10, .int .i64 10, .int .i64 0] ∧ Blk wz g6 3 [.int .i64 1, .int .i64 5, .int .i64 20, .int .i64 4000] ∧ Blk wz g1 9 [.string ⟨#[109, 97, 120, 105]⟩, .string ⟨#[109, 105, 100, 105]⟩, .string ⟨#[109, 105, 110, 105]⟩] ∧ True) mixed (fun _ hm => ⟨hm.bl 0, hm.bl 1, hm.bl 2, hm.bl 3, hm.bl 4, hm.bl 5, hm.bl 6, hm.bl 7, trivial⟩) fun z => ?_
   refine wt 0 7 1 rfl z (ov_field fo170_2 rfl rfl) ?_
   refine wt 1 7 3 rfl z (ov_load sc3 rfl (fun _ hm => hm.2.1) rfl) ?_
   refine wt 2 7 7 rfl z (ov_move rfl) ?_
   refine wa1 3 rfl ?_
   refine wl_buildSlice (e := 3) (cs := [.int .i64 0, .int .i64 0, .int .i64 0, .int .i64 2]) rfl (by kernel_rfl) rfl fun g18 => ?_
   refine wl_nil ?_
   refine nw 7 15 (fun _ hm => ⟨hm.bl 1, hm.bl 2, hm.bl 3, hm.bl 4, hm.bl 5, hm.bl 6, hm.bl 7, hm.bl 8, trivial⟩) fun z => ?_
   refine wa1 4 rfl ?_
   refine wl_got (γ := Int) (val := fun v => .int .i64 v) (φ := fun v => v ∈ ([0, 0, 0, 2] : List Int)) rfl cb24 rfl rfl rfl rfl (fun wx hm => (pick_any [0, 0, 0, 2] _ _ _ wx B sb _ hm.k (by omega) (by simp) (by simp) (hm.blkI 0 rfl) (hm.neRow 0 rfl rfl))) fun v19 hv19 => ?_
   have bv19 : 0 ≤ v19 ∧ v19 ≤ 2 := mem_rng hv19 (by decide)
   have bv190 := bv19.1
   have bv191 := bv19.2
   clear bv19
   refine wl_nil ?_
   refine nw 7 31 (fun _ hm => ⟨hm.bl 1, hm.bl 2, hm.bl 3, hm.bl 4, hm.bl 5, hm.bl 6, hm.bl 7, hm.bl 8, trivial⟩) fun z => ?_
   refine wt 5 7 63 rfl z (ov_add rfl rfl (by omega) (by omega)) ?_
   refine wt 6 7 127 rfl z (ov_assign rfl) ?_
   refine wa_done (by kernel_rfl) ?_
   refine nx_blk_nrm (nx_then (gw_region (ad_ rfl rfl (mv_ rfl (wl_nil ?_)))))
   exact nx_round (j + 1, (min (fr + v7) 4001) + v19, n + 1, v2, l ++ [⟨nm, fr, min (fr + v7) 4001, v9, v11, v13, v15⟩], l.flatMap rtEnc ++ ([.string nm, .int .i64 fr, .int .i64 (min (fr + v7) 4001), .int .i64 v9, .int .i64 v11, .int .i64 v13, .int .i64 v15] : List Value)) ⟨by dsimp only; omega, ⟨by dsimp only; omega, by dsimp only; omega⟩, by dsimp only; omega, by simp [hj3], rt_snoc hj4 ⟨show nm.size ≤ 1000000 by omega, by dsimp only; omega⟩, by simp [rtEnc]⟩ (by dsimp only; omega) ⟨rfl, rfl, rfl, rfl, rfl, rfl, rfl, rfl, rfl, (some_int (by omega)), trivial⟩ (fun _ hm => (hm.more rfl (by first | omega | (dsimp only; omega))).pick [8] [0] [] rfl rfl)
  have hj : ¬ (((j : Nat) : Int) < v5) := by simpa using hh
  clear hh
  refine gw_exit ?_
  refine nx_then_exit (nx_then_exit ?_)
  refine nx_blk_here ?_
  refine nx_blk_nrm (nx_then (gw_region (ad_ rfl rfl (mv_ rfl (wl_nil ?_)))))
  exact nx_round (k + 1, n, v, l, l.flatMap rtEnc) ⟨by dsimp only; omega, by dsimp only; omega, hj3, hj4, rfl⟩ (by dsimp only; omega) ⟨rfl, rfl, rfl, rfl, rfl, (some_int (by omega)), trivial⟩ (fun _ hm => (hm.more rfl (by first | omega | (dsimp only; omega))).pick [0] [0] [] rfl rfl)
 have hk : ¬ (((k : Nat) : Int) < 3) := by simpa using hh
 clear hh
 refine gw_exit ?_
 refine nx_then_exit (nx_then_exit ?_)
 refine nx_blk_here ?_
 refine nx_then (sr_ (mv_ rfl (sg_ rfl (nn_ ?_))))
 refine gw_ret ?_
 refine nx_look (R := ∃ A cc, v = .slice A n cc) (fun wx hm => own_slice (hm.ownI 0 rfl)) ?_
 rintro ⟨A, c, rfl⟩
 refine nx_ret1 rfl rfl fun wx hm => ?_
 exact ⟨A, n, c, l, rfl, hm.ownI 0 rfl, hi3, hi2, by omega, hm.k.more (by omega), hm.g⟩
theorem grates_g (w : World) (B sb m : Nat) (hS : Strm 25 w B sb m) (hm : m ≤ 100000000000) :
  Calls Tryz.prog 88 #[.pointer (some ⟨sb, 0, none⟩)] w (fun e w' => ∃ (A : Option Addr) (n c : Nat) (l : List Rt), e = .returned (.slice A n c) ∧ SlT rtEnc 7 170 w' A n l ∧ (∀ x ∈ l, RtG x) ∧ n ≤ 10 ∧ n ≤ c ∧ Strm 25 w' B sb (m + 200) ∧ w.grownBy w' (some sb)) := by
 refine gw_enter ⟨56, w, (some sb), []⟩ Tryz.func88 rfl Tryz.ntmps88 rfl (memS (X := []) hS allF_nil allL_nil) ?_
 refine sr_ (sg_ rfl (nn_ (sr_ (mv_ rfl ?_))))
 refine wl_callgs (γ := Option Addr × Nat × Nat × List Rt) (val := (fun g => .slice g.1 g.2.1 g.2.2.1)) (φ := (fun g => (∀ x ∈ g.2.2.2, RtG x) ∧ g.2.2.2.length = g.2.1 ∧ g.2.1 ≤ 9)) (m' := m + 120) (fun g => ⟨.slice g.1 g.2.1 g.2.2.1, 170, 7, g.2.1, g.2.2.2.flatMap rtEnc⟩) rfl cb186 rfl rfl rfl rfl (fun wx hm => (grightRates_g wx B sb _ hm.k (by omega)).mono fun _ _ ⟨A, n, c, l, he, ho, hok, hl, hn, hS, hg⟩ => ⟨(A, n, c, l), he, ⟨hok, hl, hn⟩, hS, hg, ho⟩) ?_
 rintro ⟨A, n, c, l⟩ hphi
 dsimp only at hphi ⊢
 obtain ⟨hi3, hi2, hn⟩ := hphi
 refine sg_ rfl (nn_ (gw_seq (sr_ (mv_ rfl (wl_ov (ov_len es26 rfl) rfl ?_)))))
 refine wl_ov (ov_gtr rfl rfl) rfl ?_
 refine mv_ rfl ?_
 rcases Bool.eq_false_or_eq_true (decide (0 < ((n : Nat) : Int))) with hb | hb
 ·refine wl_set 10 rfl (congrArg Value.bool hb) ?_
  have hk0 : 0 < n := by simpa using hb
  refine wl_guard_on rfl rfl rfl (mv_ rfl (wl_guard_on rfl rfl rfl ?_))
  refine wl_got (γ := Bool) (val := fun v => .bool v) (φ := fun v => True) rfl cb70 rfl rfl rfl rfl (fun wx hm => ((flip_any _ wx B sb _ hm.k (by omega) (by omega) (by omega)).mono fun _ _ ⟨v, he, hS, hg⟩ => ⟨v, trivial, he, hS, hg⟩)) fun f1 _ => ?_
  refine pt_ rfl rfl (nn_ ?_)
  refine gw_cond rfl (fun hh => ?_) (fun hh => ?_)
  ·have hf : f1 = true := by simpa using hh
   clear hh
   refine sr_ ?_
   refine wl_look (R := ∃ g, A = some ⟨g, 0, none⟩) (fun wx hm => own_addr (hm.ownI 0 rfl) hk0) ?_
   rintro ⟨bo, rfl⟩
   refine mv_ rfl (mv_ rfl (mv_ rfl (wl_ov (ov_len es26 rfl) rfl ?_)))
   refine wl_got (γ := Int) (val := fun v => .int .i64 v) (φ := fun v => IsBelow ((n : Nat) : Int) v) rfl cb59 rfl rfl rfl rfl (fun wx hm => (next_any _ wx B sb _ hm.k (by omega) (by omega) (by omega))) fun vj hvj => ?_
   have hj := isBelow_lt hvj (by omega)
   obtain ⟨i, rfl⟩ := Int.eq_ofNat_of_zero_le hj.1
   have hij : i < n := by omega
   obtain ⟨y, hy⟩ : ∃ y, l[i]? = some y := ⟨_, List.getElem?_eq_getElem (by omega)⟩
   obtain ⟨y0, y1, y2, y3, y4, y5, y6⟩ := y
   obtain ⟨hy0, hy3⟩ := hi3 _ (List.mem_of_getElem? hy)
   have hy0 : y0.size ≤ 1000000 := hy0
   have hy3 : y3 ≤ 10 := hy3
   obtain ⟨z, hz⟩ : ∃ z, l[0]? = some z := ⟨_, List.getElem?_eq_getElem (by omega)⟩
   obtain ⟨z0, z1, z2, z3, z4, z5, z6⟩ := z
   have hz0 : z0.size ≤ 1000000 ∧ z3 ≤ 10 := hi3 _ (List.mem_of_getElem? hz)
   refine wl_ov (ov_index (j := i) es26 rfl rfl (by omega)) rfl ?_
   refine sg_ rfl (nn_ (sr_ (mv_ rfl ?_)))
   refine wl_got (γ := Int) (val := fun v => .int .i64 v) (φ := fun v => IsBelow 4 v) rfl cb59 rfl rfl rfl rfl (fun wx hm => (next_any _ wx B sb _ hm.k (by omega) (by omega) (by omega))) fun vk hvk => ?_
   refine nn_ (gw_block (sr_ (wl_ov (ov_eql rfl rfl) rfl (sg_ rfl (nn_ ?_)))))
   refine gw_cond rfl (fun hh => ?_) (fun hh => ?_)
   ·have hc0 : vk = 0 := by simpa using hh
    clear hh
    refine gw_region (mv_ rfl (mv_ rfl ?_))
    refine wl_buildSlice (e := 9) (cs := [.string ⟨#[]⟩, .string ⟨#[65]⟩, .string ⟨#[109, 105, 110, 105]⟩, .string ⟨#[122, 101, 100]⟩]) rfl (by kernel_rfl) rfl fun g2 => ?_
    refine wl_got (γ := ByteArray) (val := fun v => .string v) (φ := fun v => v ∈ ([⟨#[]⟩, ⟨#[65]⟩, ⟨#[109, 105, 110, 105]⟩, ⟨#[122, 101, 100]⟩] : List ByteArray)) rfl cb60 rfl rfl rfl rfl (fun wx hm => (some_any [⟨#[]⟩, ⟨#[65]⟩, ⟨#[109, 105, 110, 105]⟩, ⟨#[122, 101, 100]⟩] _ _ _ wx B sb _ hm.k (by omega) (by simp) (by simp) (hm.blkI 0 rfl) (hm.neRow 0 rfl rfl))) fun s3 hs3 => ?_
    have zs3 : s3.size ≤ 100 := mem_sz hs3 (by decide)
    refine wl_ov (ov_nilcheck rfl) rfl (fd_ fo170_0 rfl rfl ?_)
    refine wl_storeE (l := l) (j := i) (r := 0) (el := ⟨y0, y1, y2, y3, y4, y5, y6⟩) (el' := ⟨s3, y1, y2, y3, y4, y5, y6⟩) 0 sc9 rfl rfl rfl rfl rt_len rfl hy hi2 (by decide) rfl rfl ?_
    refine wl_nil (nx_blk_nrm (nx_then (sr_ (mv_ rfl (sg_ rfl (nn_ ?_))))))
    refine gw_ret ?_
    refine nx_ret1 rfl rfl fun wx hm => ?_
    exact ⟨some ⟨bo, 0, none⟩, n, c, (l.set i ⟨s3, y1, y2, y3, y4, y5, y6⟩), rfl, SlT.ofOwn rt_len (hm.ownI 0 rfl) (by simp; exact hi2), rt_set (hi3) ⟨show s3.size ≤ 1000000 by omega, hy3⟩, by omega, own_cap (hm.ownI 0 rfl), hm.k.more (by omega), hm.g⟩
   have hc0 : ¬ (vk = 0) := by simpa using hh
   clear hh
   refine sr_ (wl_ov (ov_eql rfl rfl) rfl (sg_ rfl (nn_ ?_)))
   refine gw_cond rfl (fun hh => ?_) (fun hh => ?_)
   ·have hc1 : vk = 1 := by simpa using hh
    clear hh
    refine gw_region (mv_ rfl (mv_ rfl (mv_ rfl ?_)))
    refine wl_got (γ := Int) (val := fun v => .int .i64 v) (φ := fun v => -2000000000000000 ≤ v ∧ v ≤ 2000000000000000) rfl cb119 rfl rfl rfl rfl (fun wx hm => (odd_any _ _ wx B sb _ hm.k (by omega) (by omega) (by omega) (by omega))) fun v4 hv4 => ?_
    refine mv_ rfl ?_
    refine wl_got (γ := Int) (val := fun v => .int .i64 v) (φ := fun v => -2000000000000000 ≤ v ∧ v ≤ 2000000000000000) rfl cb119 rfl rfl rfl rfl (fun wx hm => (odd_any _ _ wx B sb _ hm.k (by omega) (by omega) (by omega) (by omega))) fun v5 hv5 => ?_
    refine wl_ov (ov_nilcheck rfl) rfl (fd_ fo170_1 rfl rfl ?_)
    refine wl_storeE (l := l) (j := i) (r := 1) (el := ⟨y0, y1, y2, y3, y4, y5, y6⟩) (el' := ⟨y0, v4, y2, y3, y4, y5, y6⟩) 0 sc3 rfl rfl rfl rfl rt_len rfl hy hi2 (by decide) rfl rfl ?_
    refine wl_ov (ov_nilcheck rfl) rfl (fd_ fo170_2 rfl rfl ?_)
    refine wl_storeE (l := (l.set i ⟨y0, v4, y2, y3, y4, y5, y6⟩)) (j := i) (r := 2) (el := ⟨y0, v4, y2, y3, y4, y5, y6⟩) (el' := ⟨y0, v4, v5, y3, y4, y5, y6⟩) 0 sc3 rfl rfl rfl rfl rt_len rfl (List.getElem?_set_self (by first | omega | (simp; omega))) (by simp; exact hi2) (by decide) rfl rfl ?_
    refine wl_nil (nx_blk_nrm (nx_then (sr_ (mv_ rfl (sg_ rfl (nn_ ?_))))))
    refine gw_ret ?_
    refine nx_ret1 rfl rfl fun wx hm => ?_
    exact ⟨some ⟨bo, 0, none⟩, n, c, ((l.set i ⟨y0, v4, y2, y3, y4, y5, y6⟩).set i ⟨y0, v4, v5, y3, y4, y5, y6⟩), rfl, SlT.ofOwn rt_len (hm.ownI 0 rfl) (by simp; exact hi2), rt_set (rt_set (hi3) ⟨show y0.size ≤ 1000000 by omega, hy3⟩) ⟨show y0.size ≤ 1000000 by omega, hy3⟩, by omega, own_cap (hm.ownI 0 rfl), hm.k.more (by omega), hm.g⟩
   have hc1 : ¬ (vk = 1) := by simpa using hh
   clear hh
   refine sr_ (wl_ov (ov_eql rfl rfl) rfl (sg_ rfl (nn_ ?_)))
   refine gw_cond rfl (fun hh => ?_) (fun hh => ?_)
   ·have hc2 : vk = 2 := by simpa using hh
    clear hh
    refine gw_region (mv_ rfl (mv_ rfl ?_))
    refine wl_got (γ := Int) (val := fun v => .int .i64 v) (φ := fun v => -2000000000000000 ≤ v ∧ v ≤ 2000000000000000) rfl cb119 rfl rfl rfl rfl (fun wx hm => (odd_any _ _ wx B sb _ hm.k (by omega) (by omega) (by omega) (by omega))) fun v6 hv6 => ?_
    refine wl_ov (ov_nilcheck rfl) rfl (fd_ fo170_4 rfl rfl ?_)
    refine wl_storeE (l := l) (j := i) (r := 4) (el := ⟨y0, y1, y2, y3, y4, y5, y6⟩) (el' := ⟨y0, y1, y2, y3, v6, y5, y6⟩) 0 sc3 rfl rfl rfl rfl rt_len rfl hy hi2 (by decide) rfl rfl ?_
    refine wl_nil (nx_blk_nrm (nx_then (sr_ (mv_ rfl (sg_ rfl (nn_ ?_))))))
    refine gw_ret ?_
    refine nx_ret1 rfl rfl fun wx hm => ?_
    exact ⟨some ⟨bo, 0, none⟩, n, c, (l.set i ⟨y0, y1, y2, y3, v6, y5, y6⟩), rfl, SlT.ofOwn rt_len (hm.ownI 0 rfl) (by simp; exact hi2), rt_set (hi3) ⟨show y0.size ≤ 1000000 by omega, hy3⟩, by omega, own_cap (hm.ownI 0 rfl), hm.k.more (by omega), hm.g⟩
   have hc2 : ¬ (vk = 2) := by simpa using hh
   clear hh
   refine gw_region (mv_ rfl (mv_ rfl ?_))
   refine wl_ov (ov_index (j := 0) es26 rfl rfl hk0) rfl ?_
   refine wl_ov (ov_elem (vs := [.string z0, .int .i64 z1, .int .i64 z2, .int .i64 z3, .int .i64 z4, .int .i64 z5, .int .i64 z6]) rz170 rfl (fun _ hm => (SlT.ofOwn rt_len (hm.ownI 0 rfl) hi2)) (show l[0]? = some _ from hz) rfl rfl) rfl ?_
   refine wl_buildSlice (e := 170) (cs := [.string z0, .int .i64 z1, .int .i64 z2, .int .i64 z3, .int .i64 z4, .int .i64 z5, .int .i64 z6]) rfl (by kernel_rfl) rfl fun g7 => ?_
   refine wl_append (news := [.string z0, .int .i64 z1, .int .i64 z2, .int .i64 z3, .int .i64 z4, .int .i64 z5, .int .i64 z6]) 0 0 ap26 rfl rfl rfl rfl rfl rfl rfl (by omega) (by unfold maxLen; omega) rfl rfl fun v2 hv2 => ?_
   refine wl_look (R := ∃ A cc, v2 = .slice A (n + 1) cc) (fun wx hm => own_slice (hm.ownI 0 rfl)) ?_
   rintro ⟨A2, c2, rfl⟩
   refine sg_ rfl (wl_nil (nx_blk_nrm (nx_then (sr_ (mv_ rfl (sg_ rfl (nn_ ?_)))))))
   refine gw_ret ?_
   refine nx_ret1 rfl rfl fun wx hm => ?_
   exact ⟨A2, n + 1, c2, l ++ [⟨z0, z1, z2, z3, z4, z5, z6⟩], rfl, SlT.ofOwn (l := l ++ [⟨z0, z1, z2, z3, z4, z5, z6⟩]) rt_len (by have h := hm.ownI 0 rfl; simpa [rtEnc] using h) (by simp [hi2]), rt_snoc hi3 hz0, by omega, own_cap (hm.ownI 0 rfl), hm.k.more (by omega), hm.g⟩
  have hf : f1 = false := by simpa using hh
  clear hh
  refine gw_skip (nx_then (sr_ (mv_ rfl (sg_ rfl (nn_ ?_)))))
  refine gw_ret ?_
  refine nx_ret1 rfl rfl fun wx hm => ?_
  exact ⟨A, n, c, l, rfl, SlT.ofOwn rt_len (hm.ownI 0 rfl) hi2, hi3, by omega, own_cap (hm.ownI 0 rfl), hm.k.more (by omega), hm.g⟩
 refine wl_set 10 rfl (congrArg Value.bool hb) ?_
 refine goff rfl rfl rfl (goff rfl rfl rfl (pf_ rfl rfl (nn_ (cf_ rfl (gw_skip (nx_then (sr_ (mv_ rfl (sg_ rfl (nn_ ?_))))))))))
 refine gw_ret ?_
 refine nx_ret1 rfl rfl fun wx hm => ?_
 exact ⟨A, n, c, l, rfl, SlT.ofOwn rt_len (hm.ownI 0 rfl) hi2, hi3, by omega, own_cap (hm.ownI 0 rfl), hm.k.more (by omega), hm.g⟩
theorem keyFault_any (key : ByteArray) (w : World) (hk : key.size ≤ 1000000) : Calls Tryz.prog 49 #[.string key] w (GotE w (whenE (!keyB key) 5)) := by
 refine gw_enter ⟨7, w, none, []⟩ Tryz.func49 rfl Tryz.ntmps49 rfl (mem0 (X := []) allF_nil allL_nil) ?_
 refine sr_ (sg_ rfl (nn_ (sr_ (mv_ rfl ?_))))
 refine wl_callv rfl cb108 rfl rfl (fun wx hm => (key_any _ wx (by omega))) ?_
 refine wl_ov (ov_un_not rfl) rfl ?_
 refine wl_callw rfl cb29 rfl rfl (fun wx hm => (rwhen_any _ _ wx)) ?_
 refine sg_ rfl (nn_ ?_)
 refine gw_ret ?_
 refine nx_ret1 rfl rfl fun wx hm => ?_
 exact ⟨rfl, hm.g⟩
end Go.Proofs.YtnmpniaocjmkfaaGreatDoor
namespace Go.Proofs.YtnmpniaocjmkfaaGreatDoor
open Go.RowKit
set_option maxRecDepth 100000 in
theorem same_rate_eql (x0 : ByteArray) (x1 : Int) (x2 : Int) (x3 : Int) (x4 : Int) (x5 : Int) (x6 : Int) (w : World) : (binOp .eql 170 (.agg #[.string x0, .int .i64 x1, .int .i64 x2, .int .i64 x3, .int .i64 x4, .int .i64 x5, .int .i64 x6]) (.agg #[.string x0, .int .i64 x1, .int .i64 x2, .int .i64 x3, .int .i64 x4, .int .i64 x5, .int .i64 x6])).run Tryz.prog w = .ok (.bool true) w := by
  have hS : Tryz.prog.underlying 170 = some (.struct (Tryz.prog.fieldsOf 170)) := by kernel_rfl
  have hp : Tryz.prog.stoodInHeld 170 = false := by kernel_rfl
  rw [run_eql_struct, show (10000 : Nat) = 9999 + 1 from rfl, run_equalIn_agg w 9999 170 _ _ hS hp]
  simp only [Program.fieldsOf, Tryz.underlying170]
  have u3 := Tryz.underlying3
  have u9 := Tryz.underlying9
  clear hS hp
  go_simp
theorem guard_rate : Tryz.prog.eqGuardType Tryz.prog.depth 170 = false := by kernel_rfl
end Go.Proofs.YtnmpniaocjmkfaaGreatDoor
namespace Go.Proofs.YtnmpniaocjmkfaaGreatDoor
open Go.RowKit
set_option maxRecDepth 100000 in
/-- Rates of different first days differ. -/
theorem diff_rate (x0 y0 : ByteArray) (x1 x2 x3 x4 x5 x6 y1 y2 y3 y4 y5 y6 : Int) (hne : x1 ≠ y1) (w : World) : (binOp .eql 170 (.agg #[.string x0, .int .i64 x1, .int .i64 x2, .int .i64 x3, .int .i64 x4, .int .i64 x5, .int .i64 x6]) (.agg #[.string y0, .int .i64 y1, .int .i64 y2, .int .i64 y3, .int .i64 y4, .int .i64 y5, .int .i64 y6])).run Tryz.prog w = .ok (.bool false) w := by
  have hS : Tryz.prog.underlying 170 = some (.struct (Tryz.prog.fieldsOf 170)) := by kernel_rfl
  have hp : Tryz.prog.stoodInHeld 170 = false := by kernel_rfl
  rw [run_eql_struct, show (10000 : Nat) = 9999 + 1 from rfl, run_equalIn_agg w 9999 170 _ _ hS hp]
  simp only [Program.fieldsOf, Tryz.underlying170]
  have u3 := Tryz.underlying3
  have u9 := Tryz.underlying9
  clear hS hp
  go_simp
/-- Two seasons of one class are the same rate if they lie at one place. -/
theorem rate_same {l : List Rt} {c : ByteArray} {d e : Int} {j k : Nat} {x y : Rt} (h0 : ratesE l = 0) (hj : l[j]? = some x) (hk : l[k]? = some y) (hx : rateP c d x = true) (hy : rateP c e y = true) : j = k ∨ x.fr ≠ y.fr := by
  by_cases h : j = k
  · exact .inl h
  · refine .inr fun e1 => ?_
    have hp := (ratesE_ok h0).2.1
    obtain ⟨hj1, rfl⟩ := List.getElem?_eq_some_iff.1 hj
    obtain ⟨hk1, rfl⟩ := List.getElem?_eq_some_iff.1 hk
    have ec : l[j].cls.toList = l[k].cls.toList := by
      unfold rateP at hx hy
      simp only [Bool.and_eq_true, beq_iff_eq] at hx hy
      rw [hx.1, hy.1]
    have no : ∀ a b : Rt, a.cls.toList = b.cls.toList → a.fr = b.fr → rtLt a b = false := fun a b e2 e3 => by
      unfold rtLt ltS eqS
      rw [e2, e3, bl_irrefl]; simp
    rcases Nat.lt_or_gt_of_ne h with hlt | hlt
    · have := List.pairwise_iff_getElem.1 hp j k hj1 hk1 hlt
      rw [no _ _ ec e1] at this; cases this
    · have := List.pairwise_iff_getElem.1 hp k j hk1 hj1 hlt
      rw [no _ _ ec.symm e1.symm] at this; cases this
theorem mul_small {a : Int} {k : Nat} (h1 : -1 ≤ a) (h2 : a ≤ 1000000) (h3 : k ≤ 24) : -24 ≤ a * ((k : Nat) : Int) ∧ a * ((k : Nat) : Int) ≤ 24000000 := by
  by_cases h : 0 ≤ a
  · have h4 := Int.mul_nonneg h (show 0 ≤ (k : Int) by omega)
    have h5 := Int.mul_le_mul h2 (show (k : Int) ≤ 24 by omega) (by omega) (by omega)
    omega
  · have e : a = -1 := by omega
    subst e
    omega
theorem rprice_any (l : List Rt) (A : Option Addr) (n c0 : Nat) (c : ByteArray) (fr tt : Int) (D : Nat) (kd : Int) (i : Nat) (mv pc : Int) (w : World) (hl : SlT rtEnc 7 170 w A n l) (hn : n ≤ 1000000) (hr0 : ratesE l = 0) (h0 : 0 ≤ fr) (h00 : fr ≤ 5761439) (ht1 : tt ≤ 5761439) (hi : i ≤ 200) (hD : D ≤ 120) (hm1 : -1000000000 ≤ mv) (hm2 : mv ≤ 1000000000) (hto : ∀ j, j < D → begV fr j < tt) :
  Calls Tryz.prog 208 #[.agg #[.slice A n c0, .string c, .int .i64 fr, .int .i64 tt, .int .i64 ((D : Nat) : Int)], .int .i64 ((i : Nat) : Int), .agg #[.int .i64 kd, .int .i64 mv, .int .i64 pc]] w (fun e w' => ∃ v : Int, e = .returned (.tuple #[.int .i64 v, .bool (priceO l (seasons l c fr D) fr tt kd i mv).isSome]) ∧ (∀ v0, priceO l (seasons l c fr D) fr tt kd i mv = some v0 → v = v0) ∧ w.grownBy w' none) := by
 refine gw_enter ⟨169, w, none, []⟩ Tryz.func208 rfl Tryz.ntmps208 rfl (mem0 (X := [SlOld rtEnc 7 170 w.heap.size none A n l]) (allF_cons hl.old allF_nil) (allL_cons SlOld.lasts allL_nil)) ?_
 refine sr_ ?_
 have hlen := hl.len
 have hpos := rt_pos hr0
 obtain ⟨SB, hSB⟩ : ∃ B, B = seaB l c fr D i := ⟨_, rfl⟩
 obtain ⟨SR, hSR⟩ : ∃ R, R = seaR l c fr D i := ⟨_, rfl⟩
 obtain ⟨cl, rf, rt, ho, dd, we, wk⟩ := SR
 refine wl_box rfl rfl rfl fun g1 => ?_
 refine wl_box rfl rfl rfl fun g2 => ?_
 refine sg_ rfl (sg_ rfl (nn_ (sr_ ?_)))
 refine wl_ov (ov_loads rz276 rfl (fun _ hm => hm.blkI 1 rfl) rfl rfl) rfl ?_
 refine mv_ rfl ?_
 refine wl_callv (v := .tuple #[.agg #[.string cl, .int .i64 rf, .int .i64 rt, .int .i64 ho, .int .i64 dd, .int .i64 we, .int .i64 wk], .bool SB]) rfl cb258 rfl rfl (fun wx hm => (by have h := season_any l A n c0 c fr tt D i wx (hm.fact 0 rfl).1 hn hpos h0 h00 (by omega) (by omega); rw [← hSB, ← hSR] at h; exact h)) ?_
 refine mv_ rfl (wl_ov (ov_extract rfl rfl) rfl (wl_ov (ov_extract rfl rfl) rfl ?_))
 refine wl_alloc zc170 rfl fun g3 => ?_
 refine wl_stores (cs' := [.string cl, .int .i64 rf, .int .i64 rt, .int .i64 ho, .int .i64 dd, .int .i64 we, .int .i64 wk]) 0 rz170 rfl rfl rfl rfl rfl rfl rfl rfl ?_
 refine sg_ rfl (nn_ (sr_ (mv_ rfl (fd_ fo162_1 rfl rfl (lk_ sc3 1 rfl rfl rfl (ad_ rfl rfl ?_))))))
 refine wl_ov (ov_sub rfl rfl (by omega) (by omega)) rfl ?_
 refine sg_ rfl (nn_ (gw_seq (sr_ (mv_ rfl (wl_ov (ov_un_not rfl) rfl (mv_ rfl ?_))))))
 rcases Bool.eq_false_or_eq_true (!SB) with hb | hb
 ·refine wl_set 35 rfl (congrArg Value.bool hb) ?_
  refine goff rfl rfl rfl (goff rfl rfl rfl (goff rfl rfl rfl (pt_ rfl rfl (mv_ rfl (goff rfl rfl rfl (goff rfl rfl rfl (goff rfl rfl rfl (goff rfl rfl rfl (pt_ rfl rfl (nn_ (ct_ rfl (gw_seq ?_))))))))))))
  refine gw_region (sg_ rfl (sg_ rfl (nn_ ?_)))
  refine gw_ret ?_
  refine nx_then_ret ?_
  refine nx_ret2 rfl rfl rfl fun wx hm => ?_
  have hP : priceO l (seasons l c fr D) fr tt kd i mv = none := by
   have hb : seaB l c fr D i = false := by rw [← hSB]; simpa using hb
   by_cases hm1 : mv < 1
   ·exact price_no (.inl hm1)
   by_cases hi : i < D
   ·exact price_no (.inr (.inr (sea_take (j := 0) (seaB_no hb hi) (by omega) hi)))
   exact price_no (.inr (.inl (by rw [seasons_len]; omega)))
  exact ⟨0, by rw [hP]; rfl, fun v0 h => (by rw [hP] at h; cases h), hm.g⟩
 refine wl_set 35 rfl (congrArg Value.bool hb) ?_
 have hb : seaB l c fr D i = true := by rw [← hSB]; simpa using hb
 obtain ⟨hiD, k0, y, hk0, hy, hyp, hyR⟩ := seaB_yes hb
 rw [← hSR] at hyR
 subst hyR
 refine wl_guard_on rfl rfl rfl (fd_ fo162_1 rfl rfl (wl_guard_on rfl rfl rfl (lk_ sc3 1 rfl rfl rfl (wl_guard_on rfl rfl rfl (wl_ov (ov_lss rfl rfl) rfl (pf_ rfl rfl (mv_ rfl ?_)))))))
 rcases Bool.eq_false_or_eq_true (decide (mv < 1)) with h1 | h1
 ·refine wl_set 40 rfl (congrArg Value.bool h1) ?_
  refine goff rfl rfl rfl (goff rfl rfl rfl (goff rfl rfl rfl (goff rfl rfl rfl (pt_ rfl rfl (nn_ (ct_ rfl (sr_ (sg_ rfl (sg_ rfl (nn_ ?_))))))))))
  refine gw_ret ?_
  refine nx_then_ret ?_
  refine nx_ret2 rfl rfl rfl fun wx hm => ?_
  have hP : priceO l (seasons l c fr D) fr tt kd i mv = none := price_no (.inl (of_decide_eq_true h1))
  exact ⟨0, by rw [hP]; rfl, fun v0 h => (by rw [hP] at h; cases h), hm.g⟩
 refine wl_set 40 rfl (congrArg Value.bool h1) ?_
 have h1 := of_decide_eq_false h1
 obtain ⟨mm, hmm⟩ := Int.eq_ofNat_of_zero_le (show 0 ≤ mv by omega)
 subst hmm
 have hm1 : 0 < mm := by omega
 refine wl_guard_on rfl rfl rfl (mv_ rfl (wl_guard_on rfl rfl rfl (fd_ fo276_3 rfl rfl (wl_guard_on rfl rfl rfl (lk_ sc3 2 rfl rfl rfl (wl_guard_on rfl rfl rfl ?_))))))
 refine wl_ov (ov_geq rfl rfl) rfl ?_
 refine pf_ rfl rfl (nn_ ?_)
 refine gw_cond rfl (fun hh => ?_) (fun hh => ?_)
 ·have h2 : ((D : Nat) : Int) ≤ (((i : Nat) : Int) + ((mm : Nat) : Int)) - 1 := by simpa using hh
  clear hh
  refine sr_ (sg_ rfl (sg_ rfl (nn_ ?_)))
  refine gw_ret ?_
  refine nx_then_ret ?_
  refine nx_ret2 rfl rfl rfl fun wx hm => ?_
  have hP : priceO l (seasons l c fr D) fr tt kd i ((mm : Nat) : Int) = none := price_no (.inr (.inl (by rw [seasons_len]; omega)))
  exact ⟨0, by rw [hP]; rfl, fun v0 h => (by rw [hP] at h; cases h), hm.g⟩
 have h2 : ¬ (((D : Nat) : Int) ≤ (((i : Nat) : Int) + ((mm : Nat) : Int)) - 1) := by simpa using hh
 clear hh
 refine gw_skip (nx_then (gw_seq (sr_ ?_)))
 have himm : i + mm ≤ D := by omega
 refine mv_ rfl (sg_ rfl (nn_ (gw_block ?_)))
 refine gw_set 10 (v' := .int .i64 (((i + mm : Nat) : Int) - 1)) rfl (congrArg (Value.int .i64) (by omega)) ?_
 refine gw_loop (γ := Nat) (fun (k : Nat) => k ≤ mm ∧ ∀ j, j < k → 0 ≤ seaV l c fr (i + j)) (fun (k : Nat) => [(1, .int .i64 ((i : Nat) : Int)), (3, .pointer (some ⟨g1, 0, none⟩)), (5, .pointer (some ⟨g2, 0, none⟩)), (8, .pointer (some ⟨g3, 0, none⟩)), (10, .int .i64 (((i + mm : Nat) : Int) - 1)), (11, .int .i64 ((i + k : Nat) : Int))]) (fun (k : Nat) => fun _ => True) (fun (k : Nat) => [(g3, 170, [.string cl, .int .i64 rf, .int .i64 rt, .int .i64 ho, .int .i64 dd, .int .i64 we, .int .i64 wk]), (g2, 162, [.int .i64 kd, .int .i64 ((mm : Nat) : Int), .int .i64 pc]), (g1, 276, [.slice A n c0, .string c, .int .i64 fr, .int .i64 tt, .int .i64 ((D : Nat) : Int)])]) (fun (k : Nat) => []) (fun (k : Nat) => [SlOld rtEnc 7 170 w.heap.size none A n l]) (fun (k : Nat) => mm - k) 0 ⟨Nat.zero_le _, fun j h => absurd h (by omega)⟩ ⟨rfl, rfl, rfl, rfl, rfl, rfl, trivial⟩ (fun _ hm => hm.pick [0, 1, 2] [] [0] rfl rfl) ?_
 intro k hinv
 replace hinv : k ≤ mm ∧ ∀ j, j < k → 0 ≤ seaV l c fr (i + j) := hinv
 refine gw_seq (sr_ (mv_ rfl (mv_ rfl (wl_ov (ov_leq rfl rfl) rfl (nn_ ?_)))))
 refine gw_cond rfl (fun hh => ?_) (fun hh => ?_)
 ·have hk : ((i + k : Nat) : Int) ≤ ((i + mm : Nat) : Int) - 1 := by simpa using hh
  clear hh
  refine gw_skip (nx_then (gw_seq (gw_block (sr_ ?_))))
  have hkm : k < mm := by omega
  obtain ⟨SB2, hSB2⟩ : ∃ B, B = seaB l c fr D (i + k) := ⟨_, rfl⟩
  obtain ⟨SR2, hSR2⟩ : ∃ R, R = seaR l c fr D (i + k) := ⟨_, rfl⟩
  obtain ⟨z0, z1, z2, z3, z4, z5, z6⟩ := SR2
  refine wl_ov (ov_loads rz276 rfl (fun _ hm => hm.blkI 2 rfl) rfl rfl) rfl ?_
  refine mv_ rfl ?_
  refine wl_callv (v := .tuple #[.agg #[.string z0, .int .i64 z1, .int .i64 z2, .int .i64 z3, .int .i64 z4, .int .i64 z5, .int .i64 z6], .bool SB2]) rfl cb258 rfl rfl (fun wx hm => (by have h := season_any l A n c0 c fr tt D (i + k) wx (hm.fact 0 rfl).1 hn hpos h0 h00 (by omega) (by omega); rw [← hSB2, ← hSR2] at h; exact h)) ?_
  refine mv_ rfl (wl_ov (ov_extract rfl rfl) rfl (wl_ov (ov_extract rfl rfl) rfl ?_))
  refine wl_alloc zc170 rfl fun g4 => ?_
  refine wl_stores (cs' := [.string z0, .int .i64 z1, .int .i64 z2, .int .i64 z3, .int .i64 z4, .int .i64 z5, .int .i64 z6]) 0 rz170 rfl rfl rfl rfl rfl rfl rfl rfl ?_
  refine sg_ rfl (nn_ (sr_ (mv_ rfl (wl_ov (ov_un_not rfl) rfl (nn_ ?_)))))
  refine gw_cond rfl (fun hh => ?_) (fun hh => ?_)
  ·have hs : SB2 = false := by simpa using hh
   clear hh
   refine sr_ (sg_ rfl (sg_ rfl (nn_ ?_)))
   refine gw_ret ?_
   refine nx_blk_ret (nx_then_ret (nx_then_ret (nx_blk_ret (nx_then_ret ?_))))
   refine nx_ret2 rfl rfl rfl fun wx hm => ?_
   have hP : priceO l (seasons l c fr D) fr tt kd i ((mm : Nat) : Int) = none := price_no (.inr (.inr (by rw [Int.toNat_natCast]; exact sea_take (seaB_no (by rw [← hSB2]; simpa using hs) (by omega)) hkm (by omega))))
   exact ⟨0, by rw [hP]; rfl, fun v0 h => (by rw [hP] at h; cases h), hm.g⟩
  have hs : SB2 = true := by simpa using hh
  clear hh
  refine gw_skip (nx_blk_nrm (nx_then (gw_region ?_)))
  have hsk := (of_decide_eq_true (show seaB l c fr D (i + k) = true by rw [← hSB2]; simpa using hs)).2
  refine mv_ rfl (ad_ rfl rfl (sg_ rfl (wl_nil ?_)))
  exact nx_round (k + 1) ⟨by omega, fun j hj => by
   by_cases e : j = k
   ·rw [e]; exact hsk
   exact hinv.2 j (by omega)⟩ (by omega) ⟨rfl, rfl, rfl, rfl, rfl, (some_int (by omega)), trivial⟩ (fun _ hm => hm.pick [1, 2, 3] [] [0] rfl rfl)
 have hk : ¬ (((i + k : Nat) : Int) ≤ ((i + mm : Nat) : Int) - 1) := by simpa using hh
 clear hh
 refine gw_exit ?_
 refine nx_then_exit (nx_then_exit ?_)
 refine nx_blk_here ?_
 refine nx_then (gw_seq (sr_ ?_))
 have hall : ∀ j, j < mm → 0 ≤ seaV l c fr (i + j) := fun j hj => hinv.2 j (by omega)
 have hno := sea_none (l := l) (c := c) (fr := fr) (D := D) hall
 have hbad : ¬ (((mm : Nat) : Int) < 1 ∨ ((seasons l c fr D).length : Int) - (i : Int) < ((mm : Nat) : Int) ∨ (-1 : Int) ∈ ((seasons l c fr D).drop i).take (((mm : Nat) : Int)).toNat) := by
  rw [Int.toNat_natCast, seasons_len]
  rintro (h | h | h)
  ·omega
  ·omega
  exact hno h
 have hgi : (seasons l c fr D)[i]? = some ((k0 : Nat) : Int) := by rw [seasons_get hiD, hk0]
 have hgo := price_go (fr := fr) (to_ := tt) (kind := kd) hbad hgi (by rw [Int.toNat_natCast]; exact hy)
 obtain ⟨⟨q1, q2⟩, ⟨q3, q4⟩, ⟨q5, q6⟩, ⟨q7, q8⟩⟩ := rate_ok hr0 _ (List.mem_of_getElem? hy)
 dsimp only at q1 q2 q3 q4 q5 q6 q7 q8
 clear hinv hk
 refine fd_ fo162_0 rfl rfl (lk_ sc3 1 rfl rfl rfl (nn_ (gw_block (sr_ (wl_ov (ov_eql rfl rfl) rfl (sg_ rfl (nn_ ?_)))))))
 refine gw_cond rfl (fun hh => ?_) (fun hh => ?_)
 ·have hkd : kd = 1 := by simpa using hh
  clear hh
  refine sr_ ?_
  obtain ⟨E, hE⟩ : ∃ E, E = endV fr tt i := ⟨_, rfl⟩
  obtain ⟨G, hG⟩ : ∃ E, E = begV fr i := ⟨_, rfl⟩
  have hEG : 0 < E - G ∧ E - G ≤ 1440 := by have hto2 := hto i hiD; rw [hE, hG]; unfold endV; unfold begV at hto2 ⊢; omega
  have hG0 : 0 ≤ G := by rw [hG]; unfold begV; omega
  have hE0 : E ≤ 10000000 := by rw [hE]; unfold endV; omega
  have hEG0 := hEG.1
  have hEG1 := hEG.2
  obtain ⟨HN, hHN⟩ := Int.eq_ofNat_of_zero_le (show 0 ≤ (E - G + 59) / 60 by omega)
  have hHN2 : HN ≤ 24 := by omega
  refine sg_ rfl (nn_ (gw_seq (sr_ ?_)))
  refine wl_ov (ov_loads rz276 rfl (fun _ hm => hm.blkI 2 rfl) rfl rfl) rfl ?_
  refine mv_ rfl ?_
  refine wl_callv (v := .int .i64 G) rfl cb259 rfl rfl (fun wx hm => (by rw [hG]; exact rbegin_any A n c0 c fr tt D i wx h0 h00 (by omega))) ?_
  refine sg_ rfl (nn_ (gw_block ?_))
  refine gw_loop (γ := Nat) (fun (k : Nat) => k ≤ HN) (fun (k : Nat) => [(1, .int .i64 ((i : Nat) : Int)), (3, .pointer (some ⟨g1, 0, none⟩)), (5, .pointer (some ⟨g2, 0, none⟩)), (8, .pointer (some ⟨g3, 0, none⟩)), (14, .int .i64 ((k : Nat) : Int)), (15, .int .i64 (G + ((k : Nat) : Int) * 60))]) (fun (k : Nat) => fun _ => True) (fun (k : Nat) => [(g3, 170, [.string cl, .int .i64 rf, .int .i64 rt, .int .i64 ho, .int .i64 dd, .int .i64 we, .int .i64 wk]), (g2, 162, [.int .i64 kd, .int .i64 ((mm : Nat) : Int), .int .i64 pc]), (g1, 276, [.slice A n c0, .string c, .int .i64 fr, .int .i64 tt, .int .i64 ((D : Nat) : Int)])]) (fun (k : Nat) => []) (fun (k : Nat) => [SlOld rtEnc 7 170 w.heap.size none A n l]) (fun (k : Nat) => HN - k) 0 (Nat.zero_le _) ⟨rfl, rfl, rfl, rfl, rfl, (some_int (by omega)), trivial⟩ (fun _ hm => hm.pick [0, 1, 2] [] [0] rfl rfl) ?_
  intro k hinv
  replace hinv : k ≤ HN := hinv
  refine gw_seq (sr_ (mv_ rfl ?_))
  refine wl_ov (ov_loads rz276 rfl (fun _ hm => hm.blkI 2 rfl) rfl rfl) rfl ?_
  refine mv_ rfl ?_
  refine wl_callv (v := .int .i64 E) rfl cb260 rfl rfl (fun wx hm => (by rw [hE]; exact rend_any A n c0 c fr tt D i wx h0 h00 (by omega))) ?_
  refine wl_ov (ov_lss rfl rfl) rfl (nn_ ?_)
  refine gw_cond rfl (fun hh => ?_) (fun hh => ?_)
  ·have hh1 : G + ((k : Nat) : Int) * 60 < E := by simpa using hh
   clear hh
   refine gw_skip (nx_then (gw_seq (gw_block (gw_region (mv_ rfl (ad_ rfl rfl (sg_ rfl (wl_nil (nx_blk_nrm (nx_then (gw_region (mv_ rfl (ad_ rfl rfl ?_)))))))))))))
   refine sg_ rfl (wl_nil ?_)
   exact nx_round (k + 1) (by omega) (by omega) ⟨rfl, rfl, rfl, rfl, (some_int (by omega)), (some_int (by omega)), trivial⟩ (fun _ hm => hm.pick [0, 1, 2] [] [0] rfl rfl)
  have hh1 : ¬ (G + ((k : Nat) : Int) * 60 < E) := by simpa using hh
  clear hh
  refine gw_exit ?_
  refine nx_then_exit (nx_then_exit ?_)
  refine nx_blk_here ?_
  refine nx_then (gw_seq ?_)
  have hkH : k = HN := by omega
  subst hkH
  have hml0 : -24 ≤ ho * ((k : Nat) : Int) ∧ ho * ((k : Nat) : Int) ≤ 24000000 := mul_small q1 q2 hHN2
  have hml1 := hml0.1
  have hml2 := hml0.2
  refine gd (fun wz => Blk wz g3 170 [.string cl, .int .i64 rf, .int .i64 rt, .int .i64 ho, .int .i64 dd, .int .i64 we, .int .i64 wk] ∧ Blk wz g2 162 [.int .i64 kd, .int .i64 ((mm : Nat) : Int), .int .i64 pc] ∧ Blk wz g1 276 [.slice A n c0, .string c, .int .i64 fr, .int .i64 tt, .int .i64 ((D : Nat) : Int)] ∧ (SlOld rtEnc 7 170 w.heap.size none A n l) wz ∧ True) mixed (fun _ hm => ⟨hm.bl 0, hm.bl 1, hm.bl 2, hm.fa 0, trivial⟩) fun z => ?_
  refine wt 0 21 1 rfl z (ov_field fo170_3 rfl rfl) ?_
  refine wt 1 21 3 rfl z (ov_load sc3 rfl (fun _ hm => hm.1) rfl) ?_
  refine wt 2 21 7 rfl z (ov_move rfl) ?_
  refine wt 3 21 15 rfl z (ov_mul rfl rfl (by omega) (by omega)) ?_
  refine wt 4 21 31 rfl z (ov_field fo162_1 rfl rfl) ?_
  refine wt 5 21 63 rfl z (ov_load sc3 rfl (fun _ hm => hm.2.1) rfl) ?_
  refine wt 6 21 127 rfl z (ov_eql rfl rfl) ?_
  refine wt 7 21 255 rfl z (ov_move rfl) ?_
  rcases Bool.eq_false_or_eq_true (decide (((mm : Nat) : Int) = 1)) with hmm1 | hmm1
  ·refine wa_set 83 rfl (congrArg Value.bool hmm1) ?_
   refine wto 8 21 511 rfl rfl rfl z (ov_move rfl) ?_
   refine wto 9 21 1023 rfl rfl rfl z (ov_field fo276_3 rfl rfl) ?_
   refine wto 10 21 2047 rfl rfl rfl z (ov_load sc3 rfl (fun _ hm => hm.2.2.1) rfl) ?_
   refine wto 11 21 4095 rfl rfl rfl z (ov_sub rfl rfl (by omega) (by omega)) ?_
   refine wto 12 21 8191 rfl rfl rfl z (ov_eql rfl rfl) ?_
   refine wt 13 21 16383 rfl z (ov_pick_t rfl rfl) ?_
   refine wt 14 21 32767 rfl z (ov_move rfl) ?_
   rcases Bool.eq_false_or_eq_true (decide (((i : Nat) : Int) = ((D : Nat) : Int) - 1)) with hL | hL
   ·refine wa_set 90 rfl (congrArg Value.bool hL) ?_
    by_cases hz : 0 ≤ ho
    ·refine wto 15 21 65535 rfl rfl rfl z (ov_field fo170_3 rfl rfl) ?_
     refine wto 16 21 131071 rfl rfl rfl z (ov_load sc3 rfl (fun _ hm => hm.1) rfl) ?_
     refine wto 17 21 262143 rfl rfl rfl z (ov_geq rfl rfl) ?_
     refine wa_set 93 (v' := .bool true) rfl (congrArg Value.bool (decide_eq_true hz)) ?_
     refine wt 18 21 524287 rfl z (ov_pick_t rfl rfl) ?_
     refine wt 19 21 1048575 rfl z (ov_assign rfl) ?_
     refine wt 20 21 2097151 rfl z (ov_assign rfl) ?_
     refine wa_done (by kernel_rfl) ?_
     refine nx_then ?_
     refine gw_ret ?_
     refine nx_blk_ret (nx_then_ret ?_)
     refine nx_ret2 rfl rfl rfl fun wx hm => ?_
     have hP : priceK ⟨cl, rf, rt, ho, dd, we, wk⟩ (seasons l c fr D) fr tt kd i ((mm : Nat) : Int) = some (ho * ((k : Nat) : Int)) := by
      unfold priceK
      rw [if_pos hkd, if_pos ⟨of_decide_eq_true hmm1, by rw [seasons_len]; have h := of_decide_eq_true hL; omega, hz⟩, ← hE, ← hG, hHN]
     exact ⟨ho * ((k : Nat) : Int), by rw [hgo, hP]; rfl, fun v0 h => (by rw [hgo, hP] at h; injection h), hm.g⟩
    refine wto 15 21 65535 rfl rfl rfl z (ov_field fo170_3 rfl rfl) ?_
    refine wto 16 21 131071 rfl rfl rfl z (ov_load sc3 rfl (fun _ hm => hm.1) rfl) ?_
    refine wto 17 21 262143 rfl rfl rfl z (ov_geq rfl rfl) ?_
    refine wa_set 93 (v' := .bool false) rfl (congrArg Value.bool (decide_eq_false hz)) ?_
    refine wt 18 21 524287 rfl z (ov_pick_t rfl rfl) ?_
    refine wt 19 21 1048575 rfl z (ov_assign rfl) ?_
    refine wt 20 21 2097151 rfl z (ov_assign rfl) ?_
    refine wa_done (by kernel_rfl) ?_
    refine nx_then ?_
    refine gw_ret ?_
    refine nx_blk_ret (nx_then_ret ?_)
    refine nx_ret2 rfl rfl rfl fun wx hm => ?_
    have hP : priceK ⟨cl, rf, rt, ho, dd, we, wk⟩ (seasons l c fr D) fr tt kd i ((mm : Nat) : Int) = none := by
     unfold priceK
     rw [if_pos hkd, if_neg (fun h => hz h.2.2)]
    exact ⟨ho * ((k : Nat) : Int), by rw [hgo, hP]; rfl, fun v0 h => (by rw [hgo, hP] at h; cases h), hm.g⟩
   refine wa_set 90 rfl (congrArg Value.bool hL) ?_
   refine wtf 15 21 65535 rfl rfl rfl z ?_
   refine wtf 16 21 131071 rfl rfl rfl z ?_
   refine wtf 17 21 262143 rfl rfl rfl z ?_
   refine wt 18 21 524287 rfl z (ov_pick_f rfl rfl) ?_
   refine wt 19 21 1048575 rfl z (ov_assign rfl) ?_
   refine wt 20 21 2097151 rfl z (ov_assign rfl) ?_
   refine wa_done (by kernel_rfl) ?_
   refine nx_then ?_
   refine gw_ret ?_
   refine nx_blk_ret (nx_then_ret ?_)
   refine nx_ret2 rfl rfl rfl fun wx hm => ?_
   have hP : priceK ⟨cl, rf, rt, ho, dd, we, wk⟩ (seasons l c fr D) fr tt kd i ((mm : Nat) : Int) = none := by
    unfold priceK
    rw [if_pos hkd, if_neg (fun h => of_decide_eq_false hL (by have h := h.2.1; rw [seasons_len] at h; omega))]
   exact ⟨ho * ((k : Nat) : Int), by rw [hgo, hP]; rfl, fun v0 h => (by rw [hgo, hP] at h; cases h), hm.g⟩
  refine wa_set 83 rfl (congrArg Value.bool hmm1) ?_
  refine wtf 8 21 511 rfl rfl rfl z ?_
  refine wtf 9 21 1023 rfl rfl rfl z ?_
  refine wtf 10 21 2047 rfl rfl rfl z ?_
  refine wtf 11 21 4095 rfl rfl rfl z ?_
  refine wtf 12 21 8191 rfl rfl rfl z ?_
  refine wt 13 21 16383 rfl z (ov_pick_f rfl rfl) ?_
  refine wt 14 21 32767 rfl z (ov_move rfl) ?_
  refine wtf 15 21 65535 rfl rfl rfl z ?_
  refine wtf 16 21 131071 rfl rfl rfl z ?_
  refine wtf 17 21 262143 rfl rfl rfl z ?_
  refine wt 18 21 524287 rfl z (ov_pick_f rfl rfl) ?_
  refine wt 19 21 1048575 rfl z (ov_assign rfl) ?_
  refine wt 20 21 2097151 rfl z (ov_assign rfl) ?_
  refine wa_done (by kernel_rfl) ?_
  refine nx_then ?_
  refine gw_ret ?_
  refine nx_blk_ret (nx_then_ret ?_)
  refine nx_ret2 rfl rfl rfl fun wx hm => ?_
  have hP : priceK ⟨cl, rf, rt, ho, dd, we, wk⟩ (seasons l c fr D) fr tt kd i ((mm : Nat) : Int) = none := by
   unfold priceK
   rw [if_pos hkd, if_neg (fun h => of_decide_eq_false hmm1 h.1)]
  exact ⟨ho * ((k : Nat) : Int), by rw [hgo, hP]; rfl, fun v0 h => (by rw [hgo, hP] at h; cases h), hm.g⟩
 have hkd : ¬ (kd = 1) := by simpa using hh
 clear hh
 refine sr_ (wl_ov (ov_eql rfl rfl) rfl (sg_ rfl (nn_ ?_)))
 refine gw_cond rfl (fun hh => ?_) (fun hh => ?_)
 ·have hkd : kd = 2 := by simpa using hh
  clear hh
  refine gw_seq ?_
  have hk1 : ¬ kd = 1 := by omega
  refine gd (fun wz => Blk wz g3 170 [.string cl, .int .i64 rf, .int .i64 rt, .int .i64 ho, .int .i64 dd, .int .i64 we, .int .i64 wk] ∧ Blk wz g2 162 [.int .i64 kd, .int .i64 ((mm : Nat) : Int), .int .i64 pc] ∧ Blk wz g1 276 [.slice A n c0, .string c, .int .i64 fr, .int .i64 tt, .int .i64 ((D : Nat) : Int)] ∧ (SlOld rtEnc 7 170 w.heap.size none A n l) wz ∧ True) mixed (fun _ hm => ⟨hm.bl 0, hm.bl 1, hm.bl 2, hm.fa 0, trivial⟩) fun z => ?_
  refine wt 0 12 1 rfl z (ov_field fo170_4 rfl rfl) ?_
  refine wt 1 12 3 rfl z (ov_load sc3 rfl (fun _ hm => hm.1) rfl) ?_
  refine wt 2 12 7 rfl z (ov_field fo162_1 rfl rfl) ?_
  refine wt 3 12 15 rfl z (ov_load sc3 rfl (fun _ hm => hm.2.1) rfl) ?_
  refine wt 4 12 31 rfl z (ov_eql rfl rfl) ?_
  refine wt 5 12 63 rfl z (ov_move rfl) ?_
  rcases Bool.eq_false_or_eq_true (decide (((mm : Nat) : Int) = 1)) with hmm1 | hmm1
  ·refine wa_set 102 rfl (congrArg Value.bool hmm1) ?_
   by_cases hz : 0 ≤ dd
   ·refine wto 6 12 127 rfl rfl rfl z (ov_field fo170_4 rfl rfl) ?_
    refine wto 7 12 255 rfl rfl rfl z (ov_load sc3 rfl (fun _ hm => hm.1) rfl) ?_
    refine wto 8 12 511 rfl rfl rfl z (ov_geq rfl rfl) ?_
    refine wa_set 105 (v' := .bool true) rfl (congrArg Value.bool (decide_eq_true hz)) ?_
    refine wt 9 12 1023 rfl z (ov_pick_t rfl rfl) ?_
    refine wt 10 12 2047 rfl z (ov_assign rfl) ?_
    refine wt 11 12 4095 rfl z (ov_assign rfl) ?_
    refine wa_done (by kernel_rfl) ?_
    refine nx_then ?_
    refine gw_ret ?_
    refine nx_blk_ret (nx_then_ret ?_)
    refine nx_ret2 rfl rfl rfl fun wx hm => ?_
    have hP : priceK ⟨cl, rf, rt, ho, dd, we, wk⟩ (seasons l c fr D) fr tt kd i ((mm : Nat) : Int) = some (dd) := by
     unfold priceK
     rw [if_neg hk1, if_pos hkd, if_pos ⟨of_decide_eq_true hmm1, hz⟩]
    exact ⟨dd, by rw [hgo, hP]; rfl, fun v0 h => (by rw [hgo, hP] at h; injection h), hm.g⟩
   refine wto 6 12 127 rfl rfl rfl z (ov_field fo170_4 rfl rfl) ?_
   refine wto 7 12 255 rfl rfl rfl z (ov_load sc3 rfl (fun _ hm => hm.1) rfl) ?_
   refine wto 8 12 511 rfl rfl rfl z (ov_geq rfl rfl) ?_
   refine wa_set 105 (v' := .bool false) rfl (congrArg Value.bool (decide_eq_false hz)) ?_
   refine wt 9 12 1023 rfl z (ov_pick_t rfl rfl) ?_
   refine wt 10 12 2047 rfl z (ov_assign rfl) ?_
   refine wt 11 12 4095 rfl z (ov_assign rfl) ?_
   refine wa_done (by kernel_rfl) ?_
   refine nx_then ?_
   refine gw_ret ?_
   refine nx_blk_ret (nx_then_ret ?_)
   refine nx_ret2 rfl rfl rfl fun wx hm => ?_
   have hP : priceK ⟨cl, rf, rt, ho, dd, we, wk⟩ (seasons l c fr D) fr tt kd i ((mm : Nat) : Int) = none := by
    unfold priceK
    rw [if_neg hk1, if_pos hkd, if_neg (fun h => hz h.2)]
   exact ⟨dd, by rw [hgo, hP]; rfl, fun v0 h => (by rw [hgo, hP] at h; cases h), hm.g⟩
  refine wa_set 102 rfl (congrArg Value.bool hmm1) ?_
  refine wtf 6 12 127 rfl rfl rfl z ?_
  refine wtf 7 12 255 rfl rfl rfl z ?_
  refine wtf 8 12 511 rfl rfl rfl z ?_
  refine wt 9 12 1023 rfl z (ov_pick_f rfl rfl) ?_
  refine wt 10 12 2047 rfl z (ov_assign rfl) ?_
  refine wt 11 12 4095 rfl z (ov_assign rfl) ?_
  refine wa_done (by kernel_rfl) ?_
  refine nx_then ?_
  refine gw_ret ?_
  refine nx_blk_ret (nx_then_ret ?_)
  refine nx_ret2 rfl rfl rfl fun wx hm => ?_
  have hP : priceK ⟨cl, rf, rt, ho, dd, we, wk⟩ (seasons l c fr D) fr tt kd i ((mm : Nat) : Int) = none := by
   unfold priceK
   rw [if_neg hk1, if_pos hkd, if_neg (fun h => of_decide_eq_false hmm1 h.1)]
  exact ⟨dd, by rw [hgo, hP]; rfl, fun v0 h => (by rw [hgo, hP] at h; cases h), hm.g⟩
 have hkd : ¬ (kd = 2) := by simpa using hh
 clear hh
 refine sr_ (wl_ov (ov_eql rfl rfl) rfl (sg_ rfl (nn_ ?_)))
 refine gw_cond rfl (fun hh => ?_) (fun hh => ?_)
 ·have hkd : kd = 3 := by simpa using hh
  clear hh
  refine sr_ ?_
  have hk1 : ¬ kd = 1 := by omega
  have hk2 : ¬ kd = 2 := by omega
  obtain ⟨G, hG⟩ : ∃ E, E = begV fr i := ⟨_, rfl⟩
  have hG0 : 0 ≤ G := by rw [hG]; unfold begV; omega
  have hG1 : G ≤ 10000000 := by rw [hG]; unfold begV; omega
  obtain ⟨E2, hE2⟩ : ∃ E, E = endV fr tt (i + mm - 1) := ⟨_, rfl⟩
  refine wl_ov (ov_loads rz276 rfl (fun _ hm => hm.blkI 2 rfl) rfl rfl) rfl ?_
  refine mv_ rfl ?_
  refine wl_callv (v := .int .i64 G) rfl cb259 rfl rfl (fun wx hm => (by rw [hG]; exact rbegin_any A n c0 c fr tt D i wx h0 h00 (by omega))) ?_
  refine wl_callx (γ := Int) (val := (fun g => .tuple #[.int .i64 g, .bool (decide (5760 ≤ (G + 10080 - 720) % 10080))])) (φ := (fun g => (5760 ≤ (G + 10080 - 720) % 10080 ∧ 0 ≤ wkE G ∧ g = wkE G) ∨ (¬ 5760 ≤ (G + 10080 - 720) % 10080 ∧ ¬ 0 ≤ wkE G))) (Y := (fun g => fun _ => True)) rfl cb261 rfl rfl (fun wx hm => (rweekend_any G wx hG0 (by omega)).mono fun _ _ ⟨v, he, hv, hg⟩ => ⟨v, he, hv, hg, trivial⟩) (fun _ => Lasts2.true_) ?_
  rintro W hW
  refine mv_ rfl (wl_ov (ov_extract rfl rfl) rfl (wl_ov (ov_extract rfl rfl) rfl (sg_ rfl (sg_ rfl (nn_ (gw_seq ?_))))))
  refine gd (fun wz => Blk wz g3 170 [.string cl, .int .i64 rf, .int .i64 rt, .int .i64 ho, .int .i64 dd, .int .i64 we, .int .i64 wk] ∧ Blk wz g2 162 [.int .i64 kd, .int .i64 ((mm : Nat) : Int), .int .i64 pc] ∧ Blk wz g1 276 [.slice A n c0, .string c, .int .i64 fr, .int .i64 tt, .int .i64 ((D : Nat) : Int)] ∧ (fun _ => True) wz ∧ (SlOld rtEnc 7 170 w.heap.size none A n l) wz ∧ True) mixed (fun _ hm => ⟨hm.bl 0, hm.bl 1, hm.bl 2, hm.fa 0, hm.fa 1, trivial⟩) fun z => ?_
  refine wt 0 17 1 rfl z (ov_field fo170_5 rfl rfl) ?_
  refine wt 1 17 3 rfl z (ov_load sc3 rfl (fun _ hm => hm.1) rfl) ?_
  refine wt 2 17 7 rfl z (ov_move rfl) ?_
  refine wt 3 17 15 rfl z (ov_move rfl) ?_
  rcases Bool.eq_false_or_eq_true (decide (5760 ≤ (G + 10080 - 720) % 10080)) with hw1 | hw1
  ·refine wa_set 119 rfl (congrArg Value.bool hw1) ?_
   obtain ⟨hw2, rfl⟩ : 0 ≤ wkE G ∧ W = wkE G := by
    have h := of_decide_eq_true hw1
    rcases hW with h2 | h2
    ·exact h2.2
    exact absurd h h2.1
   refine wto 4 17 31 rfl rfl rfl z (ov_loads rz276 rfl (fun _ hm => hm.2.2.1) rfl rfl) ?_
   refine wto 5 17 63 rfl rfl rfl z (ov_move rfl) ?_
   refine wa_set 121 (v' := .int .i64 ((i + mm - 1 : Nat) : Int)) rfl (congrArg (Value.int .i64) (by omega)) ?_
   refine wto 7 17 191 rfl rfl rfl z (ov_move rfl) ?_
   refine wa1 6 rfl ?_
   refine wl_guard_on rfl rfl rfl ?_
   refine wl_callv (v := .int .i64 E2) rfl cb260 rfl rfl (fun wx hm => (by rw [hE2]; exact rend_any A n c0 c fr tt D (i + mm - 1) wx h0 h00 (by omega))) ?_
   refine wl_nil ?_
   refine nw 17 255 (fun _ hm => ⟨hm.bl 0, hm.bl 1, hm.bl 2, hm.fa 0, hm.fa 1, trivial⟩) fun z => ?_
   refine wto 8 17 511 rfl rfl rfl z (ov_leq rfl rfl) ?_
   refine wt 9 17 1023 rfl z (ov_pick_t rfl rfl) ?_
   refine wt 10 17 2047 rfl z (ov_move rfl) ?_
   rcases Bool.eq_false_or_eq_true (decide (E2 ≤ (wkE G))) with hw3 | hw3
   ·refine wa_set 126 rfl (congrArg Value.bool hw3) ?_
    by_cases hz : 0 ≤ we
    ·refine wto 11 17 4095 rfl rfl rfl z (ov_field fo170_5 rfl rfl) ?_
     refine wto 12 17 8191 rfl rfl rfl z (ov_load sc3 rfl (fun _ hm => hm.1) rfl) ?_
     refine wto 13 17 16383 rfl rfl rfl z (ov_geq rfl rfl) ?_
     refine wa_set 129 (v' := .bool true) rfl (congrArg Value.bool (decide_eq_true hz)) ?_
     refine wt 14 17 32767 rfl z (ov_pick_t rfl rfl) ?_
     refine wt 15 17 65535 rfl z (ov_assign rfl) ?_
     refine wt 16 17 131071 rfl z (ov_assign rfl) ?_
     refine wa_done (by kernel_rfl) ?_
     refine nx_then ?_
     refine gw_ret ?_
     refine nx_blk_ret (nx_then_ret ?_)
     refine nx_ret2 rfl rfl rfl fun wx hm => ?_
     have hP : priceK ⟨cl, rf, rt, ho, dd, we, wk⟩ (seasons l c fr D) fr tt kd i ((mm : Nat) : Int) = some (we) := by
      unfold priceK
      rw [if_neg hk1, if_neg hk2, if_pos hkd, Int.toNat_natCast, ← hE2, ← hG]; rw [if_pos ⟨⟨hw2, of_decide_eq_true hw3⟩, hz⟩]
     exact ⟨we, by rw [hgo, hP]; rfl, fun v0 h => (by rw [hgo, hP] at h; injection h), hm.g⟩
    refine wto 11 17 4095 rfl rfl rfl z (ov_field fo170_5 rfl rfl) ?_
    refine wto 12 17 8191 rfl rfl rfl z (ov_load sc3 rfl (fun _ hm => hm.1) rfl) ?_
    refine wto 13 17 16383 rfl rfl rfl z (ov_geq rfl rfl) ?_
    refine wa_set 129 (v' := .bool false) rfl (congrArg Value.bool (decide_eq_false hz)) ?_
    refine wt 14 17 32767 rfl z (ov_pick_t rfl rfl) ?_
    refine wt 15 17 65535 rfl z (ov_assign rfl) ?_
    refine wt 16 17 131071 rfl z (ov_assign rfl) ?_
    refine wa_done (by kernel_rfl) ?_
    refine nx_then ?_
    refine gw_ret ?_
    refine nx_blk_ret (nx_then_ret ?_)
    refine nx_ret2 rfl rfl rfl fun wx hm => ?_
    have hP : priceK ⟨cl, rf, rt, ho, dd, we, wk⟩ (seasons l c fr D) fr tt kd i ((mm : Nat) : Int) = none := by
     unfold priceK
     rw [if_neg hk1, if_neg hk2, if_pos hkd, Int.toNat_natCast, ← hE2, ← hG]; rw [if_neg (fun h => hz h.2)]
    exact ⟨we, by rw [hgo, hP]; rfl, fun v0 h => (by rw [hgo, hP] at h; cases h), hm.g⟩
   refine wa_set 126 rfl (congrArg Value.bool hw3) ?_
   refine wtf 11 17 4095 rfl rfl rfl z ?_
   refine wtf 12 17 8191 rfl rfl rfl z ?_
   refine wtf 13 17 16383 rfl rfl rfl z ?_
   refine wt 14 17 32767 rfl z (ov_pick_f rfl rfl) ?_
   refine wt 15 17 65535 rfl z (ov_assign rfl) ?_
   refine wt 16 17 131071 rfl z (ov_assign rfl) ?_
   refine wa_done (by kernel_rfl) ?_
   refine nx_then ?_
   refine gw_ret ?_
   refine nx_blk_ret (nx_then_ret ?_)
   refine nx_ret2 rfl rfl rfl fun wx hm => ?_
   have hP : priceK ⟨cl, rf, rt, ho, dd, we, wk⟩ (seasons l c fr D) fr tt kd i ((mm : Nat) : Int) = none := by
    unfold priceK
    rw [if_neg hk1, if_neg hk2, if_pos hkd, Int.toNat_natCast, ← hE2, ← hG]; rw [if_neg (fun h => of_decide_eq_false hw3 h.1.2)]
   exact ⟨we, by rw [hgo, hP]; rfl, fun v0 h => (by rw [hgo, hP] at h; cases h), hm.g⟩
  refine wa_set 119 rfl (congrArg Value.bool hw1) ?_
  have hw2 : ¬ 0 ≤ wkE G := by
   have h := of_decide_eq_false hw1
   rcases hW with h2 | h2
   ·exact absurd h2.1 h
   exact h2.2
  refine wtf 4 17 31 rfl rfl rfl z ?_
  refine wtf 5 17 63 rfl rfl rfl z ?_
  refine wtf 6 17 127 rfl rfl rfl z ?_
  refine wtf 7 17 255 rfl rfl rfl z ?_
  refine wtf 8 17 511 rfl rfl rfl z ?_
  refine wt 9 17 1023 rfl z (ov_pick_f rfl rfl) ?_
  refine wt 10 17 2047 rfl z (ov_move rfl) ?_
  refine wtf 11 17 4095 rfl rfl rfl z ?_
  refine wtf 12 17 8191 rfl rfl rfl z ?_
  refine wtf 13 17 16383 rfl rfl rfl z ?_
  refine wt 14 17 32767 rfl z (ov_pick_f rfl rfl) ?_
  refine wt 15 17 65535 rfl z (ov_assign rfl) ?_
  refine wt 16 17 131071 rfl z (ov_assign rfl) ?_
  refine wa_done (by kernel_rfl) ?_
  refine nx_then ?_
  refine gw_ret ?_
  refine nx_blk_ret (nx_then_ret ?_)
  refine nx_ret2 rfl rfl rfl fun wx hm => ?_
  have hP : priceK ⟨cl, rf, rt, ho, dd, we, wk⟩ (seasons l c fr D) fr tt kd i ((mm : Nat) : Int) = none := by
   unfold priceK
   rw [if_neg hk1, if_neg hk2, if_pos hkd, Int.toNat_natCast, ← hE2, ← hG]; rw [if_neg (fun h => hw2 h.1.1)]
  exact ⟨we, by rw [hgo, hP]; rfl, fun v0 h => (by rw [hgo, hP] at h; cases h), hm.g⟩
 have hkd : ¬ (kd = 3) := by simpa using hh
 clear hh
 refine sr_ (wl_ov (ov_eql rfl rfl) rfl (sg_ rfl (nn_ ?_)))
 refine gw_cond rfl (fun hh => ?_) (fun hh => ?_)
 ·have hkd : kd = 4 := by simpa using hh
  clear hh
  refine sr_ ?_
  have hk1 : ¬ kd = 1 := by omega
  have hk2 : ¬ kd = 2 := by omega
  have hk3 : ¬ kd = 3 := by omega
  refine sg_ rfl (nn_ (gw_seq (sr_ (mv_ rfl (sg_ rfl (nn_ (gw_block ?_)))))))
  refine gw_loop (γ := Nat × Bool) (fun g => g.1 ≤ mm ∧ g.2 = ((((seasons l c fr D).drop i).take g.1).all (fun y => decide (y = ((k0 : Nat) : Int))))) (fun g => [(1, .int .i64 ((i : Nat) : Int)), (3, .pointer (some ⟨g1, 0, none⟩)), (5, .pointer (some ⟨g2, 0, none⟩)), (8, .pointer (some ⟨g3, 0, none⟩)), (10, .int .i64 (((i + mm : Nat) : Int) - 1)), (18, .bool g.2), (19, .int .i64 ((i + g.1 : Nat) : Int))]) (fun g => fun _ => True) (fun g => [(g3, 170, [.string cl, .int .i64 rf, .int .i64 rt, .int .i64 ho, .int .i64 dd, .int .i64 we, .int .i64 wk]), (g2, 162, [.int .i64 kd, .int .i64 ((mm : Nat) : Int), .int .i64 pc]), (g1, 276, [.slice A n c0, .string c, .int .i64 fr, .int .i64 tt, .int .i64 ((D : Nat) : Int)])]) (fun g => []) (fun g => [SlOld rtEnc 7 170 w.heap.size none A n l]) (fun g => mm - g.1) (0, true) ⟨Nat.zero_le _, by simp⟩ ⟨rfl, rfl, rfl, rfl, rfl, rfl, rfl, trivial⟩ (fun _ hm => hm.pick [0, 1, 2] [] [0] rfl rfl) ?_
  rintro ⟨k, bb⟩ hinv
  replace hinv : k ≤ mm ∧ bb = ((((seasons l c fr D).drop i).take k).all (fun y => decide (y = ((k0 : Nat) : Int)))) := hinv
  dsimp only
  refine gw_seq (sr_ ?_)
  obtain ⟨hk9, hbb⟩ := hinv
  refine mv_ rfl (mv_ rfl (wl_ov (ov_leq rfl rfl) rfl (nn_ ?_)))
  refine gw_cond rfl (fun hh => ?_) (fun hh => ?_)
  ·have hk : ((i + k : Nat) : Int) ≤ ((i + mm : Nat) : Int) - 1 := by simpa using hh
   clear hh
   refine gw_skip (nx_then (gw_seq (gw_block (sr_ ?_))))
   have hkm : k < mm := by omega
   have hst := same_step (k := ((k0 : Nat) : Int)) (seasons_get (l := l) (c := c) (fr := fr) (show i + k < D by omega))
   obtain ⟨_, k2, z, hk22, hz, hzp, hzR⟩ := seaB_yes (l := l) (c := c) (fr := fr) (D := D) (i := i + k) (decide_eq_true ⟨by omega, hall k hkm⟩)
   obtain ⟨z0, z1, z2, z3, z4, z5, z6⟩ := z
   have hsb : seaB l c fr D (i + k) = true := decide_eq_true ⟨by omega, hall k hkm⟩
   refine wl_ov (ov_loads rz276 rfl (fun _ hm => hm.blkI 2 rfl) rfl rfl) rfl ?_
   refine mv_ rfl ?_
   refine wl_callv (v := .tuple #[.agg #[.string z0, .int .i64 z1, .int .i64 z2, .int .i64 z3, .int .i64 z4, .int .i64 z5, .int .i64 z6], .bool true]) rfl cb258 rfl rfl (fun wx hm => (by have h := season_any l A n c0 c fr tt D (i + k) wx (hm.fact 0 rfl).1 hn hpos h0 h00 (by omega) (by omega); rw [hsb, hzR] at h; exact h)) ?_
   refine mv_ rfl (wl_ov (ov_extract rfl rfl) rfl (wl_ov (ov_extract rfl rfl) rfl ?_))
   refine wl_alloc zc170 rfl fun g6 => ?_
   refine wl_stores (cs' := [.string z0, .int .i64 z1, .int .i64 z2, .int .i64 z3, .int .i64 z4, .int .i64 z5, .int .i64 z6]) 0 rz170 rfl rfl rfl rfl rfl rfl rfl rfl ?_
   refine sg_ rfl (nn_ (gw_region (mv_ rfl (mv_ rfl ?_))))
   rcases Bool.eq_false_or_eq_true bb with hb1 | hb1
   ·refine wl_set 146 rfl (congrArg Value.bool hb1) ?_
    by_cases hkk : k2 = k0
    ·subst hkk
     have hzz : (⟨z0, z1, z2, z3, z4, z5, z6⟩ : Rt) = ⟨cl, rf, rt, ho, dd, we, wk⟩ := Option.some.inj (hz.symm.trans hy)
     obtain ⟨rfl, rfl, rfl, rfl, rfl, rfl, rfl⟩ : z0 = cl ∧ z1 = rf ∧ z2 = rt ∧ z3 = ho ∧ z4 = dd ∧ z5 = we ∧ z6 = wk := by injection hzz with e1 e2 e3 e4 e5 e6 e7; exact ⟨e1, e2, e3, e4, e5, e6, e7⟩
     refine wl_guard_on rfl rfl rfl ?_
     refine wl_ov (ov_loads rz170 rfl (fun _ hm => hm.blkI 0 rfl) rfl rfl) rfl ?_
     refine wl_guard_on rfl rfl rfl ?_
     refine wl_ov (ov_loads rz170 rfl (fun _ hm => hm.blkI 1 rfl) rfl rfl) rfl ?_
     refine wl_guard_on rfl rfl rfl ?_
     refine wl_ov (ov_bin rfl rfl (cmp_agg guard_rate (fun wx => same_rate_eql z0 z1 z2 z3 z4 z5 z6 wx))) rfl ?_
     refine pt_ rfl rfl (sg_ rfl (wl_nil (nx_blk_nrm (nx_then (gw_region (mv_ rfl (ad_ rfl rfl (sg_ rfl (wl_nil ?_)))))))))
     exact nx_round (k + 1, true) ⟨by dsimp only; omega, by dsimp only; rw [hst, ← hbb, hb1, hk22, decide_eq_true rfl, Bool.true_and]⟩ (by dsimp only; omega) ⟨rfl, rfl, rfl, rfl, rfl, rfl, (some_int (by omega)), trivial⟩ (fun _ hm => hm.pick [1, 2, 3] [] [0] rfl rfl)
    have hne : z1 ≠ rf := by
     rcases rate_same hr0 hz hy hzp hyp with h | h
     ·exact absurd h hkk
     exact h
    refine wl_guard_on rfl rfl rfl ?_
    refine wl_ov (ov_loads rz170 rfl (fun _ hm => hm.blkI 0 rfl) rfl rfl) rfl ?_
    refine wl_guard_on rfl rfl rfl ?_
    refine wl_ov (ov_loads rz170 rfl (fun _ hm => hm.blkI 1 rfl) rfl rfl) rfl ?_
    refine wl_guard_on rfl rfl rfl ?_
    refine wl_ov (ov_bin rfl rfl (cmp_agg guard_rate (fun wx => diff_rate z0 cl z1 z2 z3 z4 z5 z6 rf rt ho dd we wk hne wx))) rfl ?_
    refine pt_ rfl rfl (sg_ rfl (wl_nil (nx_blk_nrm (nx_then (gw_region (mv_ rfl (ad_ rfl rfl (sg_ rfl (wl_nil ?_)))))))))
    exact nx_round (k + 1, false) ⟨by dsimp only; omega, by dsimp only; rw [hst, ← hbb, hk22, decide_eq_false (fun e => hkk (by omega)), Bool.and_false]⟩ (by dsimp only; omega) ⟨rfl, rfl, rfl, rfl, rfl, rfl, (some_int (by omega)), trivial⟩ (fun _ hm => hm.pick [1, 2, 3] [] [0] rfl rfl)
   refine wl_set 146 rfl (congrArg Value.bool hb1) ?_
   refine goff rfl rfl rfl (goff rfl rfl rfl (goff rfl rfl rfl (pf_ rfl rfl (sg_ rfl (wl_nil (nx_blk_nrm (nx_then (gw_region (mv_ rfl (ad_ rfl rfl (sg_ rfl (wl_nil ?_))))))))))))
   exact nx_round (k + 1, false) ⟨by dsimp only; omega, by dsimp only; rw [hst, ← hbb, hb1, Bool.false_and]⟩ (by dsimp only; omega) ⟨rfl, rfl, rfl, rfl, rfl, rfl, (some_int (by omega)), trivial⟩ (fun _ hm => hm.pick [1, 2, 3] [] [0] rfl rfl)
  have hk : ¬ (((i + k : Nat) : Int) ≤ ((i + mm : Nat) : Int) - 1) := by simpa using hh
  clear hh
  refine gw_exit ?_
  refine nx_then_exit (nx_then_exit ?_)
  refine nx_blk_here ?_
  refine nx_then (gw_seq ?_)
  have hkm : k = mm := by omega
  subst hkm
  refine gd (fun wz => Blk wz g3 170 [.string cl, .int .i64 rf, .int .i64 rt, .int .i64 ho, .int .i64 dd, .int .i64 we, .int .i64 wk] ∧ Blk wz g2 162 [.int .i64 kd, .int .i64 ((k : Nat) : Int), .int .i64 pc] ∧ Blk wz g1 276 [.slice A n c0, .string c, .int .i64 fr, .int .i64 tt, .int .i64 ((D : Nat) : Int)] ∧ (SlOld rtEnc 7 170 w.heap.size none A n l) wz ∧ True) mixed (fun _ hm => ⟨hm.bl 0, hm.bl 1, hm.bl 2, hm.fa 0, trivial⟩) fun z => ?_
  refine wt 0 20 1 rfl z (ov_field fo170_6 rfl rfl) ?_
  refine wt 1 20 3 rfl z (ov_load sc3 rfl (fun _ hm => hm.1) rfl) ?_
  refine wt 2 20 7 rfl z (ov_field fo162_1 rfl rfl) ?_
  refine wt 3 20 15 rfl z (ov_load sc3 rfl (fun _ hm => hm.2.1) rfl) ?_
  refine wt 4 20 31 rfl z (ov_field fo276_3 rfl rfl) ?_
  refine wt 5 20 63 rfl z (ov_load sc3 rfl (fun _ hm => hm.2.2.1) rfl) ?_
  refine wt 6 20 127 rfl z (ov_move rfl) ?_
  refine wt 7 20 255 rfl z (ov_sub rfl rfl (by omega) (by omega)) ?_
  refine wt 8 20 511 rfl z (ov_min rfl rfl) ?_
  refine wt 9 20 1023 rfl z (ov_eql rfl rfl) ?_
  refine wt 10 20 2047 rfl z (ov_move rfl) ?_
  rcases Bool.eq_false_or_eq_true (decide (((k : Nat) : Int) = min 7 (((D : Nat) : Int) - ((i : Nat) : Int)))) with hmn | hmn
  ·refine wa_set 161 rfl (congrArg Value.bool hmn) ?_
   refine wto 11 20 4095 rfl rfl rfl z (ov_move rfl) ?_
   refine wt 12 20 8191 rfl z (ov_pick_t rfl rfl) ?_
   refine wt 13 20 16383 rfl z (ov_move rfl) ?_
   rcases Bool.eq_false_or_eq_true bb with hb1 | hb1
   ·refine wa_set 164 rfl (congrArg Value.bool hb1) ?_
    by_cases hz : 0 ≤ wk
    ·refine wto 14 20 32767 rfl rfl rfl z (ov_field fo170_6 rfl rfl) ?_
     refine wto 15 20 65535 rfl rfl rfl z (ov_load sc3 rfl (fun _ hm => hm.1) rfl) ?_
     refine wto 16 20 131071 rfl rfl rfl z (ov_geq rfl rfl) ?_
     refine wa_set 167 (v' := .bool true) rfl (congrArg Value.bool (decide_eq_true hz)) ?_
     refine wt 17 20 262143 rfl z (ov_pick_t rfl rfl) ?_
     refine wt 18 20 524287 rfl z (ov_assign rfl) ?_
     refine wt 19 20 1048575 rfl z (ov_assign rfl) ?_
     refine wa_done (by kernel_rfl) ?_
     refine nx_then ?_
     refine gw_ret ?_
     refine nx_blk_ret (nx_then_ret ?_)
     refine nx_ret2 rfl rfl rfl fun wx hm => ?_
     have hP : priceK ⟨cl, rf, rt, ho, dd, we, wk⟩ (seasons l c fr D) fr tt kd i ((k : Nat) : Int) = some (wk) := by
      unfold priceK
      rw [if_neg hk1, if_neg hk2, if_neg hk3, if_pos hkd, Int.toNat_natCast, hgi, seasons_len]; rw [if_pos ⟨⟨of_decide_eq_true hmn, all_same.1 (hbb.symm.trans hb1)⟩, hz⟩]
     exact ⟨wk, by rw [hgo, hP]; rfl, fun v0 h => (by rw [hgo, hP] at h; injection h), hm.g⟩
    refine wto 14 20 32767 rfl rfl rfl z (ov_field fo170_6 rfl rfl) ?_
    refine wto 15 20 65535 rfl rfl rfl z (ov_load sc3 rfl (fun _ hm => hm.1) rfl) ?_
    refine wto 16 20 131071 rfl rfl rfl z (ov_geq rfl rfl) ?_
    refine wa_set 167 (v' := .bool false) rfl (congrArg Value.bool (decide_eq_false hz)) ?_
    refine wt 17 20 262143 rfl z (ov_pick_t rfl rfl) ?_
    refine wt 18 20 524287 rfl z (ov_assign rfl) ?_
    refine wt 19 20 1048575 rfl z (ov_assign rfl) ?_
    refine wa_done (by kernel_rfl) ?_
    refine nx_then ?_
    refine gw_ret ?_
    refine nx_blk_ret (nx_then_ret ?_)
    refine nx_ret2 rfl rfl rfl fun wx hm => ?_
    have hP : priceK ⟨cl, rf, rt, ho, dd, we, wk⟩ (seasons l c fr D) fr tt kd i ((k : Nat) : Int) = none := by
     unfold priceK
     rw [if_neg hk1, if_neg hk2, if_neg hk3, if_pos hkd, Int.toNat_natCast, hgi, seasons_len]; rw [if_neg (fun h => hz h.2)]
    exact ⟨wk, by rw [hgo, hP]; rfl, fun v0 h => (by rw [hgo, hP] at h; cases h), hm.g⟩
   refine wa_set 164 rfl (congrArg Value.bool hb1) ?_
   refine wtf 14 20 32767 rfl rfl rfl z ?_
   refine wtf 15 20 65535 rfl rfl rfl z ?_
   refine wtf 16 20 131071 rfl rfl rfl z ?_
   refine wt 17 20 262143 rfl z (ov_pick_f rfl rfl) ?_
   refine wt 18 20 524287 rfl z (ov_assign rfl) ?_
   refine wt 19 20 1048575 rfl z (ov_assign rfl) ?_
   refine wa_done (by kernel_rfl) ?_
   refine nx_then ?_
   refine gw_ret ?_
   refine nx_blk_ret (nx_then_ret ?_)
   refine nx_ret2 rfl rfl rfl fun wx hm => ?_
   have hP : priceK ⟨cl, rf, rt, ho, dd, we, wk⟩ (seasons l c fr D) fr tt kd i ((k : Nat) : Int) = none := by
    unfold priceK
    rw [if_neg hk1, if_neg hk2, if_neg hk3, if_pos hkd, Int.toNat_natCast, hgi, seasons_len]; rw [if_neg (fun h => by rw [hb1] at hbb; rw [all_same.2 h.1.2] at hbb; cases hbb)]
   exact ⟨wk, by rw [hgo, hP]; rfl, fun v0 h => (by rw [hgo, hP] at h; cases h), hm.g⟩
  refine wa_set 161 rfl (congrArg Value.bool hmn) ?_
  refine wtf 11 20 4095 rfl rfl rfl z ?_
  refine wt 12 20 8191 rfl z (ov_pick_f rfl rfl) ?_
  refine wt 13 20 16383 rfl z (ov_move rfl) ?_
  refine wtf 14 20 32767 rfl rfl rfl z ?_
  refine wtf 15 20 65535 rfl rfl rfl z ?_
  refine wtf 16 20 131071 rfl rfl rfl z ?_
  refine wt 17 20 262143 rfl z (ov_pick_f rfl rfl) ?_
  refine wt 18 20 524287 rfl z (ov_assign rfl) ?_
  refine wt 19 20 1048575 rfl z (ov_assign rfl) ?_
  refine wa_done (by kernel_rfl) ?_
  refine nx_then ?_
  refine gw_ret ?_
  refine nx_blk_ret (nx_then_ret ?_)
  refine nx_ret2 rfl rfl rfl fun wx hm => ?_
  have hP : priceK ⟨cl, rf, rt, ho, dd, we, wk⟩ (seasons l c fr D) fr tt kd i ((k : Nat) : Int) = none := by
   unfold priceK
   rw [if_neg hk1, if_neg hk2, if_neg hk3, if_pos hkd, Int.toNat_natCast, hgi, seasons_len]; rw [if_neg (fun h => of_decide_eq_false hmn h.1.1)]
  exact ⟨wk, by rw [hgo, hP]; rfl, fun v0 h => (by rw [hgo, hP] at h; cases h), hm.g⟩
 have hkd : ¬ (kd = 4) := by simpa using hh
 clear hh
 refine gw_skip (nx_blk_nrm (nx_then (sr_ ?_)))
 have hk1 : ¬ kd = 1 := by omega
 have hk2 : ¬ kd = 2 := by omega
 have hk3 : ¬ kd = 3 := by omega
 refine sg_ rfl (sg_ rfl (nn_ ?_))
 refine gw_ret ?_
 refine nx_ret2 rfl rfl rfl fun wx hm => ?_
 have hP : priceK ⟨cl, rf, rt, ho, dd, we, wk⟩ (seasons l c fr D) fr tt kd i ((mm : Nat) : Int) = none := by
  unfold priceK
  rw [if_neg hk1, if_neg hk2, if_neg hk3, if_neg hkd]
 exact ⟨0, by rw [hgo, hP]; rfl, fun v0 h => (by rw [hgo, hP] at h; cases h), hm.g⟩
end Go.Proofs.YtnmpniaocjmkfaaGreatDoor
namespace Go.Proofs.YtnmpniaocjmkfaaGreatDoor
open Go.RowKit
theorem pc_one (x : Pc) : ∀ v ∈ pcEnc x, v.oneCell' = true := by
  intro v hv
  simp only [pcEnc, List.mem_cons, List.not_mem_nil, or_false] at hv
  rcases hv with rfl | rfl | rfl <;> rfl
theorem piece_info : ∃ i z, Tryz.prog.info? 162 = some i ∧ i.zero = some z ∧ i.size = 3 ∧ i.bytes = 24 ∧ z.cells.size = 3 := info_parts (by kernel_rfl)
set_option maxRecDepth 100000 in
set_option maxHeartbeats 1000000 in
theorem clonePieces_pos (l : List Pc) (A : Option Addr) (n c : Nat) (w : World) (hl : SlT pcEnc 3 162 w A n l) (hn0 : 0 < n) (hn : n ≤ 1000000) :
    Calls Tryz.prog 209 #[.slice A n c] w (fun e w' => ∃ A' c', e = .returned (.slice A' n c') ∧ w'.ownsRow w.heap.size 162 3 (.slice A' n c') n (l.flatMap pcEnc) ∧ w.grownBy w' none) := by
  obtain ⟨b, off, rfl, hbl, hfl⟩ := hl.flat pc_len hn0
  have hlen := hl.len
  obtain ⟨i0, z0, hi, hz, hsz, hby, hzs⟩ := piece_info
  have hnews : ∀ (o : Obj) j u, (l.flatMap pcEnc)[j]? = some u → (w.alloc o).cell? ((⟨b, off, none⟩ : Addr).add j) = some u := fun o j u hj =>
    (World.cell?_of_block (Below.heap_alloc w o _ (by unfold Addr.add; split <;> exact hbl))).trans (hfl j u hj)
  have hone := flat_one pcEnc pc_one l
  have hll := flat_len pcEnc 3 pc_len l
  rw [hlen] at hll
  clear hfl hl
  have Hnews := Lib.hid hnews
  clear hnews
  have he : ∀ w : World, (binOp .eql 129 (.slice (some ⟨b, off, none⟩) n c) (.slice none 0 0)).run Tryz.prog w = .ok (.bool false) w := fun _ => rfl
  go_enter Tryz.func209, Tryz.ntmps209
  go_wp2_with (at_builtin; refine wpList_append_own_at _ rfl _ _ 129 rfl w.heap.size 162 i0 z0 3 24 Tryz.underlying129 hi hz hsz hby hzs (by decide) (.slice (some ⟨w.heap.size, 0, none⟩) 0 0) 0 [] rfl ⟨rfl, .inr ⟨w.heap.size, 0, #[], rfl, Nat.le_refl _, heap_alloc_new w _, Nat.le_refl _, by decide, rfl, rfl⟩⟩ ⟨b, off, none⟩ n c (l.flatMap pcEnc) rfl hll (Hnews.out _) hone (by unfold maxLen; omega) (by omega) (by simp) ?_; intro v' w' hown hgrow hnil hat)
  rw [Nat.zero_add, List.nil_append] at hown
  have hown2 := hown
  obtain ⟨_, ho⟩ := hown2
  rcases ho with ⟨_, h0⟩ | ⟨g, cap, cur, rfl, hg, _⟩
  · omega
  · go_ret
    exact ⟨some ⟨g, 0, none⟩, cap, rfl, hown, grow_own (grow_alloc (World.grownBy.refl _ _) _) hgrow (fun k h => by cases h; exact Nat.le_refl _)⟩
set_option maxRecDepth 100000 in
set_option maxHeartbeats 400000 in
theorem clonePieces_nil (w : World) : Calls Tryz.prog 209 #[.slice none 0 0] w (fun e w' => e = .returned (.slice none 0 0) ∧ w = w') := by
  have he : ∀ w : World, (binOp .eql 129 (.slice none 0 0) (.slice none 0 0)).run Tryz.prog w = .ok (.bool true) w := fun _ => rfl
  go_enter Tryz.func209, Tryz.ntmps209
  go_wp2_with fail
  go_ret
  exact ⟨rfl, rfl⟩
theorem clonePieces_any (l : List Pc) (A : Option Addr) (n c : Nat) (w : World) (hl : SlT pcEnc 3 162 w A n l) (hnil : n = 0 → A = none ∧ c = 0) (hn : n ≤ 1000000) :
    Calls Tryz.prog 209 #[.slice A n c] w (fun e w' => ∃ A' c', e = .returned (.slice A' n c') ∧ w'.ownsRow w.heap.size 162 3 (.slice A' n c') n (l.flatMap pcEnc) ∧ w.grownBy w' none) := by
  by_cases h0 : n = 0
  · obtain ⟨rfl, rfl⟩ := hnil h0
    subst h0
    have hl0 : l = [] := List.length_eq_zero_iff.1 hl.len
    subst hl0
    exact (clonePieces_nil w).mono fun e w' ⟨he, hw⟩ => ⟨none, 0, he, ⟨rfl, .inl ⟨rfl, rfl⟩⟩, hw ▸ World.grownBy.refl _ _⟩
  · exact clonePieces_pos l A n c w hl (by omega) hn
end Go.Proofs.YtnmpniaocjmkfaaGreatDoor
namespace Go.Proofs.YtnmpniaocjmkfaaGreatDoor
open Go.RowKit
structure Wy where
  g : Nat
  A : Option Addr
  n : Nat
  c : Nat
  ps : List Pc
def wyEnc : Option Wy → List Value
  | none => [.pointer none]
  | some y => [.pointer (some ⟨y.g, 0, none⟩)]
theorem wy_len (x : Option Wy) : (wyEnc x).length = 1 := by cases x <;> rfl
def wyPs (x : Option Wy) : Option (List Pc) := x.map Wy.ps
/-- A division lies in memory: its sum, its pieces. -/
def Way1 (base : Nat) (y : Wy) (w : World) : Prop := Blk w y.g 280 [.int .i64 (pcSum y.ps), .slice y.A y.n y.c] ∧ w.ownsRow base 162 3 (.slice y.A y.n y.c) y.n (y.ps.flatMap pcEnc)
def WyOk (y : Wy) : Prop := y.ps.length = y.n ∧ (y.n = 0 → y.A = none ∧ y.c = 0)
def Ways (base : Nat) (bs : List (Option Wy)) (w : World) : Prop := ∀ y, some y ∈ bs → WyOk y ∧ Way1 base y w
theorem Way1.lasts {base N : Nat} {row : Option Nat} {y : Wy} : Lasts2 N row [280, 162] (Way1 base y) := Lasts2.and_ (Blk.lasts2 rfl) (own_lasts2 rfl)
theorem Ways.lasts {base N : Nat} {row : Option Nat} {bs : List (Option Wy)} : Lasts2 N row [280, 162] (Ways base bs) :=
  ⟨fun w w' hg hx y hy => ⟨(hx y hy).1, Way1.lasts.gr (N := N) (row := row) w w' hg (hx y hy).2⟩, fun w w' r T c h1 h2 h3 h4 hx y hy => ⟨(hx y hy).1, Way1.lasts.st w w' r T c h1 h2 h3 h4 (hx y hy).2⟩⟩
theorem Ways.set {base j : Nat} {bs : List (Option Wy)} {y : Wy} {w : World} (h : Ways base bs w) (ho : WyOk y) (hy : Way1 base y w) : Ways base (bs.set j (some y)) w := fun z hz => by
  rcases List.mem_or_eq_of_mem_set hz with hz | e
  · exact h z hz
  · injection e with e; subst e; exact ⟨ho, hy⟩
/-- The same, as what lay in memory when the inner walk began. -/
def WayO (N : Nat) (row : Option Nat) (y : Wy) (w : World) : Prop := BlkOld N row y.g 280 [.int .i64 (pcSum y.ps), .slice y.A y.n y.c] w ∧ SlOld pcEnc 3 162 N row y.A y.n y.ps w
def WaysO (N : Nat) (row : Option Nat) (bs : List (Option Wy)) (w : World) : Prop := ∀ y, some y ∈ bs → WayO N row y w
theorem WaysO.lasts {N : Nat} {row : Option Nat} {Tt : List TypeId} {bs : List (Option Wy)} : Lasts2 N row Tt (WaysO N row bs) :=
  ⟨fun w w' hg hx y hy => ⟨BlkOld.lasts.gr (Tt := Tt) w w' hg (hx y hy).1, SlOld.lasts.gr (Tt := Tt) w w' hg (hx y hy).2⟩, fun w w' r T c h1 h2 h3 h4 hx y hy => ⟨BlkOld.lasts.st w w' r T c h1 h2 h3 h4 (hx y hy).1, SlOld.lasts.st w w' r T c h1 h2 h3 h4 (hx y hy).2⟩⟩
theorem Ways.nest {base bo : Nat} {bs : List (Option Wy)} {w : World} {cells : Array Value} (h : Ways base bs w) (hb : w.heap[bo]? = some (.cells cells 278 (0, 0))) : WaysO w.heap.size (some bo) bs w := fun y hy => by
  obtain ⟨ho, hw, hr⟩ := h y hy
  exact ⟨hw.oldRow hb (by decide), (SlT.ofOwn pc_len hr ho.1).oldRow hb (by decide)⟩
/-- What the search knows of every place. -/
def FRow (pr : Int → Nat → Int → Option Int) (i : Nat) (k m : Int) (bs : List (Option Wy)) : Prop := ∀ j x, bs[j]? = some x → FCur pr i k m j (wyPs x)
section
variable {pr : Int → Nat → Int → Option Int} {i D mm g0 : Nat} {k : Int} {bs : List (Option Wy)} {y x z : Wy} {cc : Int}
theorem frow_start : FRow pr 0 1 1 ((List.replicate (D + 1) none).set 0 (some ⟨g0, none, 0, 0, []⟩)) := fun j x hx => by
  by_cases hj : j = 0
  · subst hj
    rw [List.getElem?_set_self (by simp)] at hx
    injection hx with hx; subst hx
    exact fcur_zero
  · rw [List.getElem?_set_ne (by omega), List.getElem?_replicate] at hx
    split at hx
    · injection hx with hx; subst hx
      exact fcur_start (by omega)
    · cases hx
theorem frow_dead (h : FRow pr i 1 1 bs) (hi : bs[i]? = some none) : FRow pr (i + 1) 1 1 bs := fun j x hx => fcur_dead (h j x hx) ((fcur_best (h i none hi)).1 rfl)
theorem frow_none (h : FRow pr i k mm bs) (hno : pr k i mm = none) : FRow pr i k ((mm + 1 : Nat) : Int) bs := fun j x hx => by
  have := fcur_none (h j x hx) hno
  simpa using this
theorem frow_kind (h : FRow pr i k ((8 : Nat) : Int) bs) : FRow pr i (k + 1) 1 bs := fun j x hx => fcur_kind (by simpa using h j x hx)
theorem frow_next (h : FRow pr i 5 1 bs) : FRow pr (i + 1) 1 1 bs := fun j x hx => fcur_next (h j x hx)
theorem frow_best (h : FRow pr i 1 1 bs) (hi : bs[i]? = some (some y)) : Best pr 0 i y.ps := (fcur_best (h i _ hi)).2 y.ps rfl
theorem frow_take (h : FRow pr i k mm bs) (hb : Best pr 0 i y.ps) (hk : 1 ≤ k ∧ k ≤ 4) (hm : 1 ≤ mm ∧ mm ≤ 7) (hp : pr k i mm = some cc) (hx : x.ps = y.ps ++ [⟨k, mm, cc⟩]) (hz : bs[i + mm]? = some none ∨ (bs[i + mm]? = some (some z) ∧ WLt x.ps z.ps)) : FRow pr i k ((mm + 1 : Nat) : Int) (bs.set (i + mm) (some x)) := fun j u hu => by
  have hm2 : (1 : Int) ≤ (mm : Int) ∧ (mm : Int) ≤ 7 := by omega
  by_cases hj : j = i + mm
  · subst hj
    have hlt : i + mm < bs.length := by
      rcases hz with hz | ⟨hz, _⟩ <;> exact (List.getElem?_eq_some_iff.1 hz).1
    rw [List.getElem?_set_self hlt] at hu
    injection hu with hu; subst hu
    rw [Int.natCast_add]
    rcases hz with hz | ⟨hz, hl⟩
    · have := fcur_first (h _ _ hz) hk hm2 hp hb (by simp)
      show FCur pr i k (mm + 1) (i + mm) (some x.ps)
      rw [hx]; exact this
    · have := fcur_better (h _ _ hz) hk hm2 hp hb (by simp) (by rw [← hx]; exact hl)
      show FCur pr i k (mm + 1) (i + mm) (some x.ps)
      rw [hx]; exact this
  · rw [List.getElem?_set_ne (fun e => hj e.symm)] at hu
    have := fcur_other (h j u hu) (by simpa using hj)
    simpa using this
theorem frow_keep (h : FRow pr i k mm bs) (hb : Best pr 0 i y.ps) (hk : 1 ≤ k ∧ k ≤ 4) (hm : 1 ≤ mm ∧ mm ≤ 7) (hp : pr k i mm = some cc) (hz : bs[i + mm]? = some (some z)) (hl : ¬ WLt (y.ps ++ [⟨k, mm, cc⟩]) z.ps) : FRow pr i k ((mm + 1 : Nat) : Int) bs := fun j u hu => by
  have hm2 : (1 : Int) ≤ (mm : Int) ∧ (mm : Int) ≤ 7 := by omega
  rw [Int.natCast_add]
  by_cases hj : j = i + mm
  · subst hj
    obtain rfl : some z = u := Option.some.inj (hz.symm.trans hu)
    exact fcur_keep (h _ _ hz) hk hm2 hp hb (by simp) hl
  · exact fcur_other (h j u hu) (by simpa using hj)
end
/-- The division of the reference. -/
def RefIs (l : List Rt) (c : ByteArray) (fr tt : Int) (ok : Bool) (ps : List Pc) : Prop := (ok = true ∧ Best (prH l c fr tt) 0 (daysN fr tt) ps) ∨ (ok = false ∧ ps = [] ∧ ∀ qs, ¬ Chain (prH l c fr tt) 0 (daysN fr tt) qs)
theorem sum_bound {pr : Int → Nat → Int → Option Int} {i : Nat} {ps : List Pc} (hb : ∀ k i m c, pr k i m = some c → 0 ≤ c ∧ c ≤ 24000000) (h : Chain pr 0 i ps) (hi : i ≤ 200) : 0 ≤ pcSum ps ∧ pcSum ps ≤ 5000000000 := by
  have h1 := chain_sum hb h
  have h2 := chain_le h
  omega
theorem pcSum_snoc (a : List Pc) (p : Pc) : pcSum (a ++ [p]) = pcSum a + p.cents := by rw [pcSum_append]; simp [pcSum]
theorem own_xs {c : Cx} {K : World → Prop} {L : List (Nat × TypeId × List Value)} {X : List (World → Prop)} {w : World} {v : Value} {e : TypeId} {sz n : Nat} {xs ys : List Value} (h : xs = ys) (hm : Mem c K L [⟨v, e, sz, n, xs⟩] X w) : Mem c K L [⟨v, e, sz, n, ys⟩] X w := h ▸ hm
theorem divideOf_any (l : List Rt) (A : Option Addr) (n c0 : Nat) (c : ByteArray) (fr tt : Int) (w : World) (hl : SlT rtEnc 7 170 w A n l) (hn : n ≤ 1000000) (hr0 : ratesE l = 0) (ht : timeE fr tt = 0) :
  Calls Tryz.prog 109 #[.slice A n c0, .string c, .agg #[.int .i64 fr, .int .i64 tt]] w (fun e w' => ∃ (A2 : Option Addr) (n2 c2 : Nat) (ps : List Pc) (ok : Bool), e = .returned (.tuple #[.slice A2 n2 c2, .bool ok]) ∧ w.grownBy w' none ∧ w'.ownsRow w.heap.size 162 3 (.slice A2 n2 c2) n2 (ps.flatMap pcEnc) ∧ RefIs l c fr tt ok ps ∧ ps.length = n2 ∧ (n2 = 0 → A2 = none ∧ c2 = 0)) := by
 refine gw_enter ⟨123, w, none, [280, 162]⟩ Tryz.func109 rfl Tryz.ntmps109 rfl (mem0 (X := [SlOld rtEnc 7 170 w.heap.size none A n l]) (allF_cons hl.old allF_nil) (allL_cons SlOld.lasts allL_nil)) ?_
 refine sr_ ?_
 obtain ⟨h0, hlt, htt, _⟩ := timeE_ok ht
 have hD1 := timeE_days ht
 obtain ⟨D, hD⟩ : ∃ D, D = daysN fr tt := ⟨_, rfl⟩
 have hDv : daysV fr tt = ((D : Nat) : Int) := by rw [hD]; unfold daysN; omega
 have hD2 : 1 ≤ D ∧ D ≤ 120 := by omega
 have hD3 := hD2.1
 have hD4 := hD2.2
 have hto : ∀ j, j < D → begV fr j < tt := fun j hj => by unfold daysV at hDv; unfold begV; omega
 obtain ⟨pr, hpr⟩ : ∃ p, p = prH l c fr tt := ⟨_, rfl⟩
 have hprD : pr = priceO l (seasons l c fr D) fr tt := by rw [hpr, hD]; rfl
 have hpb : ∀ k i m c, pr k i m = some c → 0 ≤ c ∧ c ≤ 24000000 := by rw [hprD]; exact price_all (rate_ok hr0) (fun i hi => by rw [seasons_len] at hi; exact Int.le_of_lt (hto i hi))
 refine wl_box rfl rfl rfl fun g1 => ?_
 refine sg_ rfl (sg_ rfl (nn_ ?_))
 refine gw_cut (γ := Nat) (I := (fun (gt : Nat) => True)) (S' := (fun (gt : Nat) => [(6, .slice none 0 0), (7, .bool false), (8, .pointer (some ⟨gt, 0, none⟩))])) (K' := (fun (gt : Nat) => fun _ => True)) (L' := (fun (gt : Nat) => [(gt, 276, [.slice A n c0, .string c, .int .i64 fr, .int .i64 tt, .int .i64 ((D : Nat) : Int)])])) (O' := (fun (gt : Nat) => [])) (X' := (fun (gt : Nat) => [SlOld rtEnc 7 170 w.heap.size none A n l])) ?_ ?_
 ·refine gd (fun wz => Blk wz g1 35 [.int .i64 fr, .int .i64 tt] ∧ (SlOld rtEnc 7 170 w.heap.size none A n l) wz ∧ True) mixed (fun _ hm => ⟨hm.bl 0, hm.fa 0, trivial⟩) fun z => ?_
  refine wt 0 8 1 rfl z (ov_move rfl) ?_
  refine wt 1 8 3 rfl z (ov_move rfl) ?_
  refine wt 2 8 7 rfl z (ov_loads rz35 rfl (fun _ hm => hm.1) rfl rfl) ?_
  refine wt 3 8 15 rfl z (ov_loads rz35 rfl (fun _ hm => hm.1) rfl rfl) ?_
  refine wa_all [4, 6] (by kernel_rfl) rfl ⟨⟨_, rfl, ?_⟩, ⟨_, rfl, ?_⟩, trivial⟩
  ·refine wl_callv (v := .int .i64 ((D : Nat) : Int)) rfl cb115 rfl rfl (fun wx hm => (by have h := daysOf_any fr tt wx h0 (by omega) htt; rw [hDv] at h; exact h)) ?_
   refine wl_nil ?_
   refine nw 8 31 (fun _ hm => ⟨hm.bl 0, hm.fa 0, trivial⟩) fun z => ?_
   refine wt 5 8 63 rfl z (ov_build (cs := [.slice A n c0, .string c, .int .i64 fr, .int .i64 tt, .int .i64 ((D : Nat) : Int)]) rfl (by kernel_rfl)) ?_
   refine wa1 6 rfl ?_
   refine wl_alloc zc276 rfl fun g2 => ?_
   refine wl_nil ?_
   refine nw 8 127 (fun _ hm => ⟨hm.bl 1, hm.fa 0, trivial⟩) fun z => ?_
   refine wa1 7 rfl ?_
   refine wl_stores (cs' := [.slice A n c0, .string c, .int .i64 fr, .int .i64 tt, .int .i64 ((D : Nat) : Int)]) 0 rz276 rfl rfl rfl rfl rfl rfl rfl rfl ?_
   refine wl_nil ?_
   refine nw 8 255 (fun _ hm => ⟨hm.bl 1, hm.fa 0, trivial⟩) fun z => ?_
   refine wa_done (by kernel_rfl) ?_
   exact nx_meet g2 trivial ⟨rfl, rfl, rfl, trivial⟩ (fun _ hm => hm.pick [0] [] [0] rfl rfl)
  refine wl_alloc zc276 rfl fun g3 => ?_
  refine wl_nil ?_
  refine nw 8 79 (fun _ hm => ⟨hm.bl 1, hm.fa 0, trivial⟩) fun z => ?_
  refine wa1 4 rfl ?_
  refine wl_callv (v := .int .i64 ((D : Nat) : Int)) rfl cb115 rfl rfl (fun wx hm => (by have h := daysOf_any fr tt wx h0 (by omega) htt; rw [hDv] at h; exact h)) ?_
  refine wl_nil ?_
  refine nw 8 95 (fun _ hm => ⟨hm.bl 1, hm.fa 0, trivial⟩) fun z => ?_
  refine wt 5 8 127 rfl z (ov_build (cs := [.slice A n c0, .string c, .int .i64 fr, .int .i64 tt, .int .i64 ((D : Nat) : Int)]) rfl (by kernel_rfl)) ?_
  refine wa1 7 rfl ?_
  refine wl_stores (cs' := [.slice A n c0, .string c, .int .i64 fr, .int .i64 tt, .int .i64 ((D : Nat) : Int)]) 0 rz276 rfl rfl rfl rfl rfl rfl rfl rfl ?_
  refine wl_nil ?_
  refine nw 8 255 (fun _ hm => ⟨hm.bl 1, hm.fa 0, trivial⟩) fun z => ?_
  refine wa_done (by kernel_rfl) ?_
  exact nx_meet g3 trivial ⟨rfl, rfl, rfl, trivial⟩ (fun _ hm => hm.pick [0] [] [0] rfl rfl)
 intro gt hinv
 replace hinv : True := hinv
 refine sr_ ?_
 clear hinv
 refine fd_ fo276_3 rfl rfl (lk_ sc3 0 rfl rfl rfl (ad_ rfl rfl ?_))
 refine wl_makeO (n := (D + 1)) (sz := 1) (e := 278) (by_ := 8) (z := .pointer none) (by kernel_rfl) (by kernel_rfl) rfl rfl (by omega) (by omega) (by omega) (by unfold maxLen; omega) (made_flat (enc := wyEnc) (x := (none : Option Wy)) rfl rfl (by decide) (D + 1)) rfl fun g4 => ?_
 refine sg_ rfl (nn_ (sr_ (mv_ rfl ?_)))
 refine wl_ov (ov_build (cs := [.int .i64 0, .slice none 0 0]) rfl (by kernel_rfl)) rfl ?_
 refine wl_box rfl rfl rfl fun g5 => ?_
 refine wl_ov (ov_index (j := 0) es277 rfl rfl (by omega)) rfl ?_
 refine wl_storeE (l := (List.replicate (D + 1) (none : Option Wy))) (j := 0) (r := 0) (el := none) (el' := (some ⟨g5, none, 0, 0, []⟩)) 0 sc278 rfl rfl rfl rfl wy_len rfl (by rw [List.getElem?_replicate, if_pos (by omega)]) List.length_replicate (by decide) rfl rfl ?_
 refine wl_also (Y := Ways w.heap.size ((List.replicate (D + 1) (none : Option Wy)).set 0 (some ⟨g5, none, 0, 0, []⟩))) (Ways.lasts) (fun wx hm => fun y hy => by
  rcases List.mem_or_eq_of_mem_set hy with hy | e
  ·rw [List.mem_replicate] at hy; cases hy.2
  injection e with e; subst e; exact ⟨⟨rfl, fun _ => ⟨rfl, rfl⟩⟩, hm.bl 0, ⟨rfl, .inl ⟨rfl, rfl⟩⟩⟩) ?_
 refine nn_ (gw_seq (sr_ (fd_ fo276_3 rfl rfl (lk_ sc3 1 rfl rfl rfl (mv_ rfl (nn_ (gw_block ?_)))))))
 refine gw_loop (γ := Nat × List (Option Wy)) (fun g => g.1 ≤ D ∧ g.2.length = D + 1 ∧ FRow pr g.1 1 1 g.2) (fun g => [(6, .slice none 0 0), (7, .bool false), (8, .pointer (some ⟨gt, 0, none⟩)), (9, .slice (some ⟨g4, 0, none⟩) (D + 1) (D + 1)), (32, .int .i64 ((D : Nat) : Int)), (33, .int .i64 ((g.1 : Nat) : Int))]) (fun g => fun _ => True) (fun g => [(gt, 276, [.slice A n c0, .string c, .int .i64 fr, .int .i64 tt, .int .i64 ((D : Nat) : Int)])]) (fun g => [⟨.slice (some ⟨g4, 0, none⟩) (D + 1) (D + 1), 278, 1, (D + 1), g.2.flatMap wyEnc⟩]) (fun g => [Ways w.heap.size g.2, SlOld rtEnc 7 170 w.heap.size none A n l]) (fun g => D - g.1) (0, (List.replicate (D + 1) (none : Option Wy)).set 0 (some ⟨g5, none, 0, 0, []⟩)) ⟨Nat.zero_le _, by simp, frow_start⟩ ⟨rfl, rfl, rfl, rfl, rfl, rfl, trivial⟩ (fun _ hm => hm.pick [1] [0] [0, 1] rfl rfl) ?_
 rintro ⟨i, bs⟩ hinv
 replace hinv : i ≤ D ∧ bs.length = D + 1 ∧ FRow pr i 1 1 bs := hinv
 dsimp only
 refine sr_ ?_
 obtain ⟨hi0, hbl, hfr⟩ := hinv
 refine wl_ov (ov_lss rfl rfl) rfl (nn_ (gw_seq ?_))
 refine gw_cond rfl (fun hh => ?_) (fun hh => ?_)
 ·have hiD : ((i : Nat) : Int) < ((D : Nat) : Int) := by simpa using hh
  clear hh
  refine gw_skip (nx_then (gw_seq (gw_block (sr_ ?_))))
  have hiD2 : i < D := by omega
  obtain ⟨x, hx⟩ : ∃ x, bs[i]? = some x := ⟨_, List.getElem?_eq_getElem (by omega)⟩
  rcases x with _ | ⟨yg, yA, yn, yc, yp⟩
  ·refine mv_ rfl (sg_ rfl (nn_ (gw_seq (sr_ (mv_ rfl (mv_ rfl ?_))))))
   refine wl_ov (ov_index (j := i) es277 rfl rfl (by omega)) rfl ?_
   refine wl_ov (ov_elem1 (k := 0) (v := .pointer none) sc278 rfl (fun _ hm => (SlT.ofOwn wy_len (hm.ownI 0 rfl) hbl)) hx rfl rfl) rfl ?_
   refine wl_ov (ov_bin rfl rfl (fun _ => rfl)) rfl ?_
   refine nn_ (ct_ rfl ?_)
   refine gw_exit ?_
   refine nx_then_exit ?_
   refine nx_blk_here ?_
   refine nx_then (gw_region (ad_ rfl rfl (mv_ rfl (wl_nil ?_))))
   exact nx_round (i + 1, bs) ⟨by dsimp only; omega, hbl, frow_dead hfr hx⟩ (by dsimp only; omega) ⟨rfl, rfl, rfl, rfl, rfl, (some_int (by omega)), trivial⟩ (fun _ hm => hm.pick [0] [0] [0, 1] rfl rfl)
  have hby := frow_best hfr hx
  have hyb := sum_bound hpb hby.1 (by omega)
  dsimp only at hby hyb
  have hyb0 := hyb.1
  have hyb1 := hyb.2
  have hyle := chain_le hby.1
  refine mv_ rfl (sg_ rfl (nn_ (gw_seq (sr_ (mv_ rfl (mv_ rfl ?_))))))
  refine wl_ov (ov_index (j := i) es277 rfl rfl (by omega)) rfl ?_
  refine wl_ov (ov_elem1 (k := 0) (v := .pointer (some ⟨yg, 0, none⟩)) sc278 rfl (fun _ hm => (SlT.ofOwn wy_len (hm.ownI 0 rfl) hbl)) hx rfl rfl) rfl ?_
  refine wl_ov (ov_bin rfl rfl (fun _ => rfl)) rfl ?_
  refine nn_ (cf_ rfl (gw_skip (nx_then (sr_ (sg_ rfl (nn_ (gw_block ?_)))))))
  refine gw_loop (γ := Int × List (Option Wy)) (fun g => (1 ≤ g.1 ∧ g.1 ≤ 5) ∧ g.2.length = D + 1 ∧ g.2[i]? = some (some ⟨yg, yA, yn, yc, yp⟩) ∧ FRow pr i g.1 1 g.2) (fun g => [(6, .slice none 0 0), (7, .bool false), (8, .pointer (some ⟨gt, 0, none⟩)), (9, .slice (some ⟨g4, 0, none⟩) (D + 1) (D + 1)), (10, .int .i64 ((i : Nat) : Int)), (11, .int .i64 g.1), (32, .int .i64 ((D : Nat) : Int)), (33, .int .i64 ((i : Nat) : Int))]) (fun g => fun _ => True) (fun g => [(gt, 276, [.slice A n c0, .string c, .int .i64 fr, .int .i64 tt, .int .i64 ((D : Nat) : Int)])]) (fun g => [⟨.slice (some ⟨g4, 0, none⟩) (D + 1) (D + 1), 278, 1, (D + 1), g.2.flatMap wyEnc⟩]) (fun g => [Ways w.heap.size g.2, SlOld rtEnc 7 170 w.heap.size none A n l]) (fun g => (5 - g.1).toNat) (1, bs) ⟨⟨by dsimp only; omega, by dsimp only; omega⟩, hbl, hx, hfr⟩ ⟨rfl, rfl, rfl, rfl, rfl, rfl, rfl, rfl, trivial⟩ (fun _ hm => hm.pick [0] [0] [0, 1] rfl rfl) ?_
  rintro ⟨kd, bs2⟩ hinv
  replace hinv : (1 ≤ kd ∧ kd ≤ 5) ∧ bs2.length = D + 1 ∧ bs2[i]? = some (some ⟨yg, yA, yn, yc, yp⟩) ∧ FRow pr i kd 1 bs2 := hinv
  dsimp only
  refine gw_seq (sr_ ?_)
  obtain ⟨⟨hk1, hk2⟩, hbl2, hx2, hfr2⟩ := hinv
  refine mv_ rfl (wl_ov (ov_leq rfl rfl) rfl (nn_ ?_))
  refine gw_cond rfl (fun hh => ?_) (fun hh => ?_)
  ·have hk4 : kd ≤ 4 := by simpa using hh
   clear hh
   refine gw_skip (nx_then (gw_seq (gw_block (sr_ (sg_ rfl (nn_ (gw_block ?_)))))))
   refine gw_loop (γ := Nat × List (Option Wy)) (fun g => (1 ≤ g.1 ∧ g.1 ≤ 8) ∧ g.2.length = D + 1 ∧ g.2[i]? = some (some ⟨yg, yA, yn, yc, yp⟩) ∧ FRow pr i kd ((g.1 : Nat) : Int) g.2) (fun g => [(6, .slice none 0 0), (7, .bool false), (8, .pointer (some ⟨gt, 0, none⟩)), (9, .slice (some ⟨g4, 0, none⟩) (D + 1) (D + 1)), (10, .int .i64 ((i : Nat) : Int)), (11, .int .i64 kd), (12, .int .i64 ((g.1 : Nat) : Int)), (32, .int .i64 ((D : Nat) : Int)), (33, .int .i64 ((i : Nat) : Int))]) (fun g => fun _ => True) (fun g => [(gt, 276, [.slice A n c0, .string c, .int .i64 fr, .int .i64 tt, .int .i64 ((D : Nat) : Int)])]) (fun g => [⟨.slice (some ⟨g4, 0, none⟩) (D + 1) (D + 1), 278, 1, (D + 1), g.2.flatMap wyEnc⟩]) (fun g => [Ways w.heap.size g.2, SlOld rtEnc 7 170 w.heap.size none A n l]) (fun g => 8 - g.1) (1, bs2) ⟨⟨by dsimp only; omega, by dsimp only; omega⟩, hbl2, hx2, hfr2⟩ ⟨rfl, rfl, rfl, rfl, rfl, rfl, rfl, rfl, rfl, trivial⟩ (fun _ hm => hm.pick [0] [0] [0, 1] rfl rfl) ?_
   rintro ⟨mm, bs3⟩ hinv
   replace hinv : (1 ≤ mm ∧ mm ≤ 8) ∧ bs3.length = D + 1 ∧ bs3[i]? = some (some ⟨yg, yA, yn, yc, yp⟩) ∧ FRow pr i kd ((mm : Nat) : Int) bs3 := hinv
   dsimp only
   refine gw_seq (sr_ ?_)
   obtain ⟨⟨hm1, hm2⟩, hbl3, hx3, hfr3⟩ := hinv
   refine mv_ rfl (wl_ov (ov_leq rfl rfl) rfl (nn_ ?_))
   refine gw_cond rfl (fun hh => ?_) (fun hh => ?_)
   ·have hm7 : ((mm : Nat) : Int) ≤ 7 := by simpa using hh
    clear hh
    refine gw_skip (nx_then (gw_seq (gw_block (sr_ ?_))))
    refine wl_nest (some g4) [] fun w2 hm_w2 => ?_
    obtain ⟨bcells, hbc⟩ := RowK.cells (show RowK w.heap.size 278 1 (D + 1) (D + 1) g4 (bs3.flatMap wyEnc) w2 from hm_w2.ownI 0 rfl)
    refine ⟨_, _, _, _, nest_mem (X' := [WaysO w2.heap.size (some g4) bs3, SlOld rtEnc 7 170 w2.heap.size (some g4) A n l, BlkOld w2.heap.size (some g4) gt 276 [.slice A n c0, .string c, .int .i64 fr, .int .i64 tt, .int .i64 ((D : Nat) : Int)]]) hm_w2 0 rfl [] (allF_cons (Ways.nest (hm_w2.fact 0 rfl) hbc) (allF_cons (SlT.oldRow (hm_w2.fact 1 rfl).1 hbc (by decide)) (allF_cons ((hm_w2.blkI 0 rfl).oldRow hbc (by decide)) allF_nil))) (allL_cons WaysO.lasts (allL_cons SlOld.lasts (allL_cons BlkOld.lasts allL_nil))), ?_⟩
    rcases hpo : pr kd i ((mm : Nat) : Int) with _ | cc
    ·refine mv_ rfl (mv_ rfl ?_)
     refine wl_ov (ov_build (cs := [.int .i64 kd, .int .i64 ((mm : Nat) : Int), .int .i64 0]) rfl (by kernel_rfl)) rfl ?_
     refine wl_alloc zc162 rfl fun g6 => ?_
     refine wl_stores (cs' := [.int .i64 kd, .int .i64 ((mm : Nat) : Int), .int .i64 0]) 0 rz162 rfl rfl rfl rfl rfl rfl rfl rfl ?_
     refine nn_ (sr_ ?_)
     refine wl_ov (ov_loads (vs := [.slice A n c0, .string c, .int .i64 fr, .int .i64 tt, .int .i64 ((D : Nat) : Int)]) rz276 rfl (fun _ hm => (hm.fact 2 rfl).2) rfl rfl) rfl ?_
     refine mv_ rfl ?_
     refine wl_ov (ov_loads rz162 rfl (fun _ hm => hm.blkI 0 rfl) rfl rfl) rfl ?_
     refine wl_callx (γ := Int) (val := (fun g => .tuple #[.int .i64 g, .bool false])) (φ := (fun g => True)) (Y := (fun g => fun _ => True)) rfl cb208 rfl rfl (fun wx hm => (by have h := rprice_any l A n c0 c fr tt D kd i ((mm : Nat) : Int) 0 wx (hm.fact 1 rfl).1 hn hr0 h0 (by omega) (by omega) (by omega) hD4 (by omega) (by omega) hto; rw [← hprD, hpo] at h; exact h.mono fun _ _ ⟨v, he, hv, hg⟩ => ⟨v, he, trivial, hg, trivial⟩)) (fun _ => Lasts2.true_) ?_
     rintro v1 hphi
     clear hphi
     refine mv_ rfl (wl_ov (ov_extract rfl rfl) rfl (wl_ov (ov_extract rfl rfl) rfl (sg_ rfl (sg_ rfl (nn_ (gw_seq (sr_ (mv_ rfl (wl_ov (ov_un_not rfl) rfl ?_)))))))))
     refine wl_set 60 (v' := .bool true) rfl (congrArg Value.bool (by decide)) ?_
     refine nn_ (ct_ rfl ?_)
     refine gw_exit ?_
     refine nx_then_exit ?_
     refine nx_blk_here ?_
     refine nx_then (gw_region (mv_ rfl (ad_ rfl rfl (sg_ rfl (wl_nil ?_)))))
     refine nx_unnest (c := ⟨123, w, none, [280, 162]⟩) (L' := [(gt, 276, [.slice A n c0, .string c, .int .i64 fr, .int .i64 tt, .int .i64 ((D : Nat) : Int)])]) (O' := [⟨.slice (some ⟨g4, 0, none⟩) (D + 1) (D + 1), 278, 1, (D + 1), (bs3).flatMap wyEnc⟩]) (X' := [(fun _ => True), Ways w.heap.size bs3, SlOld rtEnc 7 170 w.heap.size none A n l]) (K' := fun _ => True) rfl (fun wx hm => back_mem hm_w2 rfl hm (F := fun _ => True) trivial Lasts2.true_) ?_
     exact nx_round (mm + 1, bs3) ⟨⟨by dsimp only; omega, by dsimp only; omega⟩, hbl3, hx3, frow_none hfr3 hpo⟩ (by dsimp only; omega) ⟨rfl, rfl, rfl, rfl, rfl, rfl, (some_int (by omega)), rfl, rfl, trivial⟩ (fun _ hm => hm.pick [0] [0] [1, 2] rfl rfl)
    have hcc := hpb _ _ _ _ hpo
    have hcc0 := hcc.1
    have hcc1 := hcc.2
    have himm : i + mm ≤ D := by
     have h := price_some (by rw [← hprD]; exact hpo)
     rw [seasons_len] at h
     omega
    refine mv_ rfl (mv_ rfl ?_)
    refine wl_ov (ov_build (cs := [.int .i64 kd, .int .i64 ((mm : Nat) : Int), .int .i64 0]) rfl (by kernel_rfl)) rfl ?_
    refine wl_alloc zc162 rfl fun g8 => ?_
    refine wl_stores (cs' := [.int .i64 kd, .int .i64 ((mm : Nat) : Int), .int .i64 0]) 0 rz162 rfl rfl rfl rfl rfl rfl rfl rfl ?_
    refine nn_ (sr_ ?_)
    refine wl_ov (ov_loads (vs := [.slice A n c0, .string c, .int .i64 fr, .int .i64 tt, .int .i64 ((D : Nat) : Int)]) rz276 rfl (fun _ hm => (hm.fact 2 rfl).2) rfl rfl) rfl ?_
    refine mv_ rfl ?_
    refine wl_ov (ov_loads rz162 rfl (fun _ hm => hm.blkI 0 rfl) rfl rfl) rfl ?_
    refine wl_callv (v := .tuple #[.int .i64 cc, .bool true]) rfl cb208 rfl rfl (fun wx hm => (by have h := rprice_any l A n c0 c fr tt D kd i ((mm : Nat) : Int) 0 wx (hm.fact 1 rfl).1 hn hr0 h0 (by omega) (by omega) (by omega) hD4 (by omega) (by omega) hto; rw [← hprD, hpo] at h; exact h.mono fun _ _ ⟨v, he, hv, hg⟩ => ⟨by rw [he, hv cc rfl]; rfl, hg⟩)) ?_
    refine mv_ rfl (wl_ov (ov_extract rfl rfl) rfl (wl_ov (ov_extract rfl rfl) rfl (sg_ rfl (sg_ rfl (nn_ (gw_seq (sr_ (mv_ rfl (wl_ov (ov_un_not rfl) rfl ?_)))))))))
    refine wl_set 60 (v' := .bool false) rfl (congrArg Value.bool (by decide)) ?_
    refine nn_ (cf_ rfl (gw_skip (nx_then (sr_ (mv_ rfl (fd_ fo162_2 rfl rfl ?_))))))
    refine wl_store 0 sc3 rfl rfl rfl rfl rfl rfl ?_
    refine nn_ ?_
    refine gw_cut (γ := Nat × Option Addr × Nat) (I := (fun g => True)) (S' := (fun g => [(6, .slice none 0 0), (7, .bool false), (8, .pointer (some ⟨gt, 0, none⟩)), (9, .slice (some ⟨g4, 0, none⟩) (D + 1) (D + 1)), (10, .int .i64 ((i : Nat) : Int)), (11, .int .i64 kd), (12, .int .i64 ((mm : Nat) : Int)), (16, .pointer (some ⟨g.1, 0, none⟩)), (32, .int .i64 ((D : Nat) : Int)), (33, .int .i64 ((i : Nat) : Int))])) (K' := (fun g => RowK w.heap.size 278 1 (D + 1) (D + 1) g4 (bs3.flatMap wyEnc))) (L' := (fun g => [(g.1, 280, [.int .i64 (pcSum yp + cc), .slice g.2.1 (yn + 1) g.2.2])])) (O' := (fun g => [⟨.slice g.2.1 (yn + 1) g.2.2, 162, 3, (yn + 1), (yp ++ [(⟨kd, ((mm : Nat) : Int), cc⟩ : Pc)]).flatMap pcEnc⟩])) (X' := (fun g => [WaysO w2.heap.size (some g4) bs3, SlOld rtEnc 7 170 w2.heap.size (some g4) A n l, BlkOld w2.heap.size (some g4) gt 276 [.slice A n c0, .string c, .int .i64 fr, .int .i64 tt, .int .i64 ((D : Nat) : Int)]])) ?_ ?_
    ·have hynil : yn = 0 → yA = none ∧ yc = 0 := ((hm_w2.fact 0 rfl : Ways w.heap.size bs3 w2) ⟨yg, yA, yn, yc, yp⟩ (List.mem_of_getElem? hx3)).1.2
     have hyl : yp.length = yn := ((hm_w2.fact 0 rfl : Ways w.heap.size bs3 w2) ⟨yg, yA, yn, yc, yp⟩ (List.mem_of_getElem? hx3)).1.1
     refine gd (fun wz => Blk wz g8 162 [.int .i64 kd, .int .i64 ((mm : Nat) : Int), .int .i64 cc] ∧ (WaysO w2.heap.size (some g4) bs3) wz ∧ (SlOld rtEnc 7 170 w2.heap.size (some g4) A n l) wz ∧ (BlkOld w2.heap.size (some g4) gt 276 [.slice A n c0, .string c, .int .i64 fr, .int .i64 tt, .int .i64 ((D : Nat) : Int)]) wz ∧ (RowK w.heap.size 278 1 (D + 1) (D + 1) g4 (bs3.flatMap wyEnc)) wz ∧ True) mixed (fun _ hm => ⟨hm.bl 0, hm.fa 0, hm.fa 1, hm.fa 2, hm.k, trivial⟩) fun z => ?_
     refine wt 0 23 1 rfl z (ov_move rfl) ?_
     refine wt 1 23 3 rfl z (ov_move rfl) ?_
     refine wt 2 23 7 rfl z (ov_index (j := i) es277 rfl rfl (by omega)) ?_
     refine wt 3 23 15 rfl z (ov_elem1 (k := 0) (v := .pointer (some ⟨yg, 0, none⟩)) sc278 rfl (fun _ hm => (RowK.get (hm.2.2.2.2.1) wy_len hbl3)) hx3 rfl rfl) ?_
     refine wt 4 23 31 rfl z (ov_nilcheck rfl) ?_
     refine wt 5 23 63 rfl z (ov_field fo280_0 rfl rfl) ?_
     refine wt 6 23 127 rfl z (ov_load (v := .int .i64 (pcSum yp)) sc3 rfl (fun _ hm => ((hm.2.1) ⟨yg, yA, yn, yc, yp⟩ (List.mem_of_getElem? hx3)).1.2) rfl) ?_
     refine wt 7 23 255 rfl z (ov_move rfl) ?_
     refine wt 8 23 511 rfl z (ov_add rfl rfl (by omega) (by omega)) ?_
     refine wt 9 23 1023 rfl z (ov_move rfl) ?_
     refine wt 10 23 2047 rfl z (ov_move rfl) ?_
     refine wt 11 23 4095 rfl z (ov_index (j := i) es277 rfl rfl (by omega)) ?_
     refine wt 12 23 8191 rfl z (ov_elem1 (k := 0) (v := .pointer (some ⟨yg, 0, none⟩)) sc278 rfl (fun _ hm => (RowK.get (hm.2.2.2.2.1) wy_len hbl3)) hx3 rfl rfl) ?_
     refine wt 13 23 16383 rfl z (ov_nilcheck rfl) ?_
     refine wt 14 23 32767 rfl z (ov_field fo280_1 rfl rfl) ?_
     refine wt 15 23 65535 rfl z (ov_load (v := .slice yA yn yc) sc129 rfl (fun _ hm => ((hm.2.1) ⟨yg, yA, yn, yc, yp⟩ (List.mem_of_getElem? hx3)).1.2) rfl) ?_
     refine wt 17 23 196607 rfl z (ov_loads rz162 rfl (fun _ hm => hm.1) rfl rfl) ?_
     refine wa_all [16, 18, 21] (by kernel_rfl) rfl ⟨⟨_, rfl, ?_⟩, ⟨_, rfl, ?_⟩, ⟨_, rfl, ?_⟩, trivial⟩
     ·refine wl_callgo (γ := Option Addr × Nat) (val := (fun g => .slice g.1 yn g.2)) (φ := (fun g => True)) (fun g => ⟨.slice g.1 yn g.2, 162, 3, yn, yp.flatMap pcEnc⟩) rfl cb209 rfl rfl (fun wx hm => (by have hW := (hm.fact 0 rfl) ⟨yg, yA, yn, yc, yp⟩ (List.mem_of_getElem? hx3); exact (clonePieces_any yp yA yn yc wx hW.2.1 hynil (by omega)).mono fun _ _ ⟨A2, c2, he, ho, hg⟩ => ⟨(A2, c2), he, trivial, ho, hg⟩)) ?_
      rintro ⟨qA, qc⟩ hphi
      dsimp only at hphi ⊢
      clear hphi
      refine wl_nil ?_
      refine nw 23 262143 (fun _ hm => ⟨hm.bl 0, hm.fa 0, hm.fa 1, hm.fa 2, hm.k, trivial⟩) fun z => ?_
      refine wa_all [18, 21] (by kernel_rfl) rfl ⟨⟨_, rfl, ?_⟩, ⟨_, rfl, ?_⟩, trivial⟩
      ·refine wl_buildSlice (e := 162) (cs := [.int .i64 kd, .int .i64 ((mm : Nat) : Int), .int .i64 cc]) rfl (by kernel_rfl) rfl fun g9 => ?_
       refine wl_nil ?_
       refine nw 23 524287 (fun _ hm => ⟨hm.bl 1, hm.fa 0, hm.fa 1, hm.fa 2, hm.k, trivial⟩) fun z => ?_
       refine wa_all [19, 21] (by kernel_rfl) rfl ⟨⟨_, rfl, ?_⟩, ⟨_, rfl, ?_⟩, trivial⟩
       ·refine wl_append (news := [.int .i64 kd, .int .i64 ((mm : Nat) : Int), .int .i64 cc]) 0 0 ap129 rfl rfl rfl rfl rfl rfl rfl (by omega) (by unfold maxLen; omega) rfl rfl fun v2 hv2 => ?_
        refine wl_look (R := ∃ A cc, v2 = .slice A (yn + 1) cc) (fun wx hm => own_slice (hm.ownI 0 rfl)) ?_
        rintro ⟨xA, xc, rfl⟩
        refine wl_nil ?_
        refine nw 23 1048575 (fun _ hm => ⟨hm.bl 1, hm.fa 0, hm.fa 1, hm.fa 2, hm.k, trivial⟩) fun z => ?_
        refine wt 20 23 2097151 rfl z (ov_build (cs := [.int .i64 ((pcSum yp) + cc), .slice xA (yn + 1) xc]) rfl (by kernel_rfl)) ?_
        refine wa1 21 rfl ?_
        refine wl_alloc zc280 rfl fun g10 => ?_
        refine wl_nil ?_
        refine nw 23 4194303 (fun _ hm => ⟨hm.bl 2, hm.fa 0, hm.fa 1, hm.fa 2, hm.k, trivial⟩) fun z => ?_
        refine wa1 22 rfl ?_
        refine wl_stores (cs' := [.int .i64 ((pcSum yp) + cc), .slice xA (yn + 1) xc]) 0 rz280 rfl rfl rfl rfl rfl rfl rfl rfl ?_
        refine wl_nil ?_
        refine nw 23 8388607 (fun _ hm => ⟨hm.bl 2, hm.fa 0, hm.fa 1, hm.fa 2, hm.k, trivial⟩) fun z => ?_
        refine wa_done (by kernel_rfl) ?_
        have hxs : yp.flatMap pcEnc ++ ([.int .i64 kd, .int .i64 ((mm : Nat) : Int), .int .i64 cc] : List Value) = (yp ++ [(⟨kd, ((mm : Nat) : Int), cc⟩ : Pc)]).flatMap pcEnc := by simp [pcEnc]
        exact nx_meet (g10, xA, xc) trivial ⟨rfl, rfl, rfl, rfl, rfl, rfl, rfl, rfl, rfl, rfl, trivial⟩ (fun _ hm => (own_xs hxs hm).pick [0] [0] [0, 1, 2] rfl rfl)
       refine wl_alloc zc280 rfl fun g11 => ?_
       refine wl_nil ?_
       refine nw 23 2621439 (fun _ hm => ⟨hm.bl 2, hm.fa 0, hm.fa 1, hm.fa 2, hm.k, trivial⟩) fun z => ?_
       refine wa1 19 rfl ?_
       refine wl_append (news := [.int .i64 kd, .int .i64 ((mm : Nat) : Int), .int .i64 cc]) 0 1 ap129 rfl rfl rfl rfl rfl rfl rfl (by omega) (by unfold maxLen; omega) rfl rfl fun v2 hv2 => ?_
       refine wl_look (R := ∃ A cc, v2 = .slice A (yn + 1) cc) (fun wx hm => own_slice (hm.ownI 0 rfl)) ?_
       rintro ⟨xA, xc, rfl⟩
       refine wl_nil ?_
       refine nw 23 3145727 (fun _ hm => ⟨hm.bl 2, hm.fa 0, hm.fa 1, hm.fa 2, hm.k, trivial⟩) fun z => ?_
       refine wt 20 23 4194303 rfl z (ov_build (cs := [.int .i64 ((pcSum yp) + cc), .slice xA (yn + 1) xc]) rfl (by kernel_rfl)) ?_
       refine wa1 22 rfl ?_
       refine wl_stores (cs' := [.int .i64 ((pcSum yp) + cc), .slice xA (yn + 1) xc]) 0 rz280 rfl rfl rfl rfl rfl rfl rfl rfl ?_
       refine wl_nil ?_
       refine nw 23 8388607 (fun _ hm => ⟨hm.bl 2, hm.fa 0, hm.fa 1, hm.fa 2, hm.k, trivial⟩) fun z => ?_
       refine wa_done (by kernel_rfl) ?_
       have hxs : yp.flatMap pcEnc ++ ([.int .i64 kd, .int .i64 ((mm : Nat) : Int), .int .i64 cc] : List Value) = (yp ++ [(⟨kd, ((mm : Nat) : Int), cc⟩ : Pc)]).flatMap pcEnc := by simp [pcEnc]
       exact nx_meet (g11, xA, xc) trivial ⟨rfl, rfl, rfl, rfl, rfl, rfl, rfl, rfl, rfl, rfl, trivial⟩ (fun _ hm => (own_xs hxs hm).pick [0] [0] [0, 1, 2] rfl rfl)
      refine wl_alloc zc280 rfl fun g12 => ?_
      refine wl_nil ?_
      refine nw 23 2359295 (fun _ hm => ⟨hm.bl 1, hm.fa 0, hm.fa 1, hm.fa 2, hm.k, trivial⟩) fun z => ?_
      refine wa1 18 rfl ?_
      refine wl_buildSlice (e := 162) (cs := [.int .i64 kd, .int .i64 ((mm : Nat) : Int), .int .i64 cc]) rfl (by kernel_rfl) rfl fun g13 => ?_
      refine wl_nil ?_
      refine nw 23 2621439 (fun _ hm => ⟨hm.bl 2, hm.fa 0, hm.fa 1, hm.fa 2, hm.k, trivial⟩) fun z => ?_
      refine wa1 19 rfl ?_
      refine wl_append (news := [.int .i64 kd, .int .i64 ((mm : Nat) : Int), .int .i64 cc]) 0 0 ap129 rfl rfl rfl rfl rfl rfl rfl (by omega) (by unfold maxLen; omega) rfl rfl fun v2 hv2 => ?_
      refine wl_look (R := ∃ A cc, v2 = .slice A (yn + 1) cc) (fun wx hm => own_slice (hm.ownI 0 rfl)) ?_
      rintro ⟨xA, xc, rfl⟩
      refine wl_nil ?_
      refine nw 23 3145727 (fun _ hm => ⟨hm.bl 2, hm.fa 0, hm.fa 1, hm.fa 2, hm.k, trivial⟩) fun z => ?_
      refine wt 20 23 4194303 rfl z (ov_build (cs := [.int .i64 ((pcSum yp) + cc), .slice xA (yn + 1) xc]) rfl (by kernel_rfl)) ?_
      refine wa1 22 rfl ?_
      refine wl_stores (cs' := [.int .i64 ((pcSum yp) + cc), .slice xA (yn + 1) xc]) 1 rz280 rfl rfl rfl rfl rfl rfl rfl rfl ?_
      refine wl_nil ?_
      refine nw 23 8388607 (fun _ hm => ⟨hm.bl 2, hm.fa 0, hm.fa 1, hm.fa 2, hm.k, trivial⟩) fun z => ?_
      refine wa_done (by kernel_rfl) ?_
      have hxs : yp.flatMap pcEnc ++ ([.int .i64 kd, .int .i64 ((mm : Nat) : Int), .int .i64 cc] : List Value) = (yp ++ [(⟨kd, ((mm : Nat) : Int), cc⟩ : Pc)]).flatMap pcEnc := by simp [pcEnc]
      exact nx_meet (g12, xA, xc) trivial ⟨rfl, rfl, rfl, rfl, rfl, rfl, rfl, rfl, rfl, rfl, trivial⟩ (fun _ hm => (own_xs hxs hm).pick [1] [0] [0, 1, 2] rfl rfl)
     ·refine wl_buildSlice (e := 162) (cs := [.int .i64 kd, .int .i64 ((mm : Nat) : Int), .int .i64 cc]) rfl (by kernel_rfl) rfl fun g14 => ?_
      refine wl_nil ?_
      refine nw 23 458751 (fun _ hm => ⟨hm.bl 1, hm.fa 0, hm.fa 1, hm.fa 2, hm.k, trivial⟩) fun z => ?_
      refine wa_all [16, 21] (by kernel_rfl) rfl ⟨⟨_, rfl, ?_⟩, ⟨_, rfl, ?_⟩, trivial⟩
      ·refine wl_callgo (γ := Option Addr × Nat) (val := (fun g => .slice g.1 yn g.2)) (φ := (fun g => True)) (fun g => ⟨.slice g.1 yn g.2, 162, 3, yn, yp.flatMap pcEnc⟩) rfl cb209 rfl rfl (fun wx hm => (by have hW := (hm.fact 0 rfl) ⟨yg, yA, yn, yc, yp⟩ (List.mem_of_getElem? hx3); exact (clonePieces_any yp yA yn yc wx hW.2.1 hynil (by omega)).mono fun _ _ ⟨A2, c2, he, ho, hg⟩ => ⟨(A2, c2), he, trivial, ho, hg⟩)) ?_
       rintro ⟨qA, qc⟩ hphi
       dsimp only at hphi ⊢
       clear hphi
       refine wl_nil ?_
       refine nw 23 524287 (fun _ hm => ⟨hm.bl 1, hm.fa 0, hm.fa 1, hm.fa 2, hm.k, trivial⟩) fun z => ?_
       refine wa_all [19, 21] (by kernel_rfl) rfl ⟨⟨_, rfl, ?_⟩, ⟨_, rfl, ?_⟩, trivial⟩
       ·refine wl_append (news := [.int .i64 kd, .int .i64 ((mm : Nat) : Int), .int .i64 cc]) 0 0 ap129 rfl rfl rfl rfl rfl rfl rfl (by omega) (by unfold maxLen; omega) rfl rfl fun v2 hv2 => ?_
        refine wl_look (R := ∃ A cc, v2 = .slice A (yn + 1) cc) (fun wx hm => own_slice (hm.ownI 0 rfl)) ?_
        rintro ⟨xA, xc, rfl⟩
        refine wl_nil ?_
        refine nw 23 1048575 (fun _ hm => ⟨hm.bl 1, hm.fa 0, hm.fa 1, hm.fa 2, hm.k, trivial⟩) fun z => ?_
        refine wt 20 23 2097151 rfl z (ov_build (cs := [.int .i64 ((pcSum yp) + cc), .slice xA (yn + 1) xc]) rfl (by kernel_rfl)) ?_
        refine wa1 21 rfl ?_
        refine wl_alloc zc280 rfl fun g15 => ?_
        refine wl_nil ?_
        refine nw 23 4194303 (fun _ hm => ⟨hm.bl 2, hm.fa 0, hm.fa 1, hm.fa 2, hm.k, trivial⟩) fun z => ?_
        refine wa1 22 rfl ?_
        refine wl_stores (cs' := [.int .i64 ((pcSum yp) + cc), .slice xA (yn + 1) xc]) 0 rz280 rfl rfl rfl rfl rfl rfl rfl rfl ?_
        refine wl_nil ?_
        refine nw 23 8388607 (fun _ hm => ⟨hm.bl 2, hm.fa 0, hm.fa 1, hm.fa 2, hm.k, trivial⟩) fun z => ?_
        refine wa_done (by kernel_rfl) ?_
        have hxs : yp.flatMap pcEnc ++ ([.int .i64 kd, .int .i64 ((mm : Nat) : Int), .int .i64 cc] : List Value) = (yp ++ [(⟨kd, ((mm : Nat) : Int), cc⟩ : Pc)]).flatMap pcEnc := by simp [pcEnc]
        exact nx_meet (g15, xA, xc) trivial ⟨rfl, rfl, rfl, rfl, rfl, rfl, rfl, rfl, rfl, rfl, trivial⟩ (fun _ hm => (own_xs hxs hm).pick [0] [0] [0, 1, 2] rfl rfl)
       refine wl_alloc zc280 rfl fun g16 => ?_
       refine wl_nil ?_
       refine nw 23 2621439 (fun _ hm => ⟨hm.bl 2, hm.fa 0, hm.fa 1, hm.fa 2, hm.k, trivial⟩) fun z => ?_
       refine wa1 19 rfl ?_
       refine wl_append (news := [.int .i64 kd, .int .i64 ((mm : Nat) : Int), .int .i64 cc]) 0 1 ap129 rfl rfl rfl rfl rfl rfl rfl (by omega) (by unfold maxLen; omega) rfl rfl fun v2 hv2 => ?_
       refine wl_look (R := ∃ A cc, v2 = .slice A (yn + 1) cc) (fun wx hm => own_slice (hm.ownI 0 rfl)) ?_
       rintro ⟨xA, xc, rfl⟩
       refine wl_nil ?_
       refine nw 23 3145727 (fun _ hm => ⟨hm.bl 2, hm.fa 0, hm.fa 1, hm.fa 2, hm.k, trivial⟩) fun z => ?_
       refine wt 20 23 4194303 rfl z (ov_build (cs := [.int .i64 ((pcSum yp) + cc), .slice xA (yn + 1) xc]) rfl (by kernel_rfl)) ?_
       refine wa1 22 rfl ?_
       refine wl_stores (cs' := [.int .i64 ((pcSum yp) + cc), .slice xA (yn + 1) xc]) 0 rz280 rfl rfl rfl rfl rfl rfl rfl rfl ?_
       refine wl_nil ?_
       refine nw 23 8388607 (fun _ hm => ⟨hm.bl 2, hm.fa 0, hm.fa 1, hm.fa 2, hm.k, trivial⟩) fun z => ?_
       refine wa_done (by kernel_rfl) ?_
       have hxs : yp.flatMap pcEnc ++ ([.int .i64 kd, .int .i64 ((mm : Nat) : Int), .int .i64 cc] : List Value) = (yp ++ [(⟨kd, ((mm : Nat) : Int), cc⟩ : Pc)]).flatMap pcEnc := by simp [pcEnc]
       exact nx_meet (g16, xA, xc) trivial ⟨rfl, rfl, rfl, rfl, rfl, rfl, rfl, rfl, rfl, rfl, trivial⟩ (fun _ hm => (own_xs hxs hm).pick [0] [0] [0, 1, 2] rfl rfl)
      refine wl_alloc zc280 rfl fun g17 => ?_
      refine wl_nil ?_
      refine nw 23 2555903 (fun _ hm => ⟨hm.bl 2, hm.fa 0, hm.fa 1, hm.fa 2, hm.k, trivial⟩) fun z => ?_
      refine wa1 16 rfl ?_
      refine wl_callgo (γ := Option Addr × Nat) (val := (fun g => .slice g.1 yn g.2)) (φ := (fun g => True)) (fun g => ⟨.slice g.1 yn g.2, 162, 3, yn, yp.flatMap pcEnc⟩) rfl cb209 rfl rfl (fun wx hm => (by have hW := (hm.fact 0 rfl) ⟨yg, yA, yn, yc, yp⟩ (List.mem_of_getElem? hx3); exact (clonePieces_any yp yA yn yc wx hW.2.1 hynil (by omega)).mono fun _ _ ⟨A2, c2, he, ho, hg⟩ => ⟨(A2, c2), he, trivial, ho, hg⟩)) ?_
      rintro ⟨qA, qc⟩ hphi
      dsimp only at hphi ⊢
      clear hphi
      refine wl_nil ?_
      refine nw 23 2621439 (fun _ hm => ⟨hm.bl 2, hm.fa 0, hm.fa 1, hm.fa 2, hm.k, trivial⟩) fun z => ?_
      refine wa1 19 rfl ?_
      refine wl_append (news := [.int .i64 kd, .int .i64 ((mm : Nat) : Int), .int .i64 cc]) 0 1 ap129 rfl rfl rfl rfl rfl rfl rfl (by omega) (by unfold maxLen; omega) rfl rfl fun v2 hv2 => ?_
      refine wl_look (R := ∃ A cc, v2 = .slice A (yn + 1) cc) (fun wx hm => own_slice (hm.ownI 0 rfl)) ?_
      rintro ⟨xA, xc, rfl⟩
      refine wl_nil ?_
      refine nw 23 3145727 (fun _ hm => ⟨hm.bl 2, hm.fa 0, hm.fa 1, hm.fa 2, hm.k, trivial⟩) fun z => ?_
      refine wt 20 23 4194303 rfl z (ov_build (cs := [.int .i64 ((pcSum yp) + cc), .slice xA (yn + 1) xc]) rfl (by kernel_rfl)) ?_
      refine wa1 22 rfl ?_
      refine wl_stores (cs' := [.int .i64 ((pcSum yp) + cc), .slice xA (yn + 1) xc]) 0 rz280 rfl rfl rfl rfl rfl rfl rfl rfl ?_
      refine wl_nil ?_
      refine nw 23 8388607 (fun _ hm => ⟨hm.bl 2, hm.fa 0, hm.fa 1, hm.fa 2, hm.k, trivial⟩) fun z => ?_
      refine wa_done (by kernel_rfl) ?_
      have hxs : yp.flatMap pcEnc ++ ([.int .i64 kd, .int .i64 ((mm : Nat) : Int), .int .i64 cc] : List Value) = (yp ++ [(⟨kd, ((mm : Nat) : Int), cc⟩ : Pc)]).flatMap pcEnc := by simp [pcEnc]
      exact nx_meet (g17, xA, xc) trivial ⟨rfl, rfl, rfl, rfl, rfl, rfl, rfl, rfl, rfl, rfl, trivial⟩ (fun _ hm => (own_xs hxs hm).pick [0] [0] [0, 1, 2] rfl rfl)
     refine wl_alloc zc280 rfl fun g18 => ?_
     refine wl_nil ?_
     refine nw 23 2293759 (fun _ hm => ⟨hm.bl 1, hm.fa 0, hm.fa 1, hm.fa 2, hm.k, trivial⟩) fun z => ?_
     refine wa_all [16, 18] (by kernel_rfl) rfl ⟨⟨_, rfl, ?_⟩, ⟨_, rfl, ?_⟩, trivial⟩
     ·refine wl_callgo (γ := Option Addr × Nat) (val := (fun g => .slice g.1 yn g.2)) (φ := (fun g => True)) (fun g => ⟨.slice g.1 yn g.2, 162, 3, yn, yp.flatMap pcEnc⟩) rfl cb209 rfl rfl (fun wx hm => (by have hW := (hm.fact 0 rfl) ⟨yg, yA, yn, yc, yp⟩ (List.mem_of_getElem? hx3); exact (clonePieces_any yp yA yn yc wx hW.2.1 hynil (by omega)).mono fun _ _ ⟨A2, c2, he, ho, hg⟩ => ⟨(A2, c2), he, trivial, ho, hg⟩)) ?_
      rintro ⟨qA, qc⟩ hphi
      dsimp only at hphi ⊢
      clear hphi
      refine wl_nil ?_
      refine nw 23 2359295 (fun _ hm => ⟨hm.bl 1, hm.fa 0, hm.fa 1, hm.fa 2, hm.k, trivial⟩) fun z => ?_
      refine wa1 18 rfl ?_
      refine wl_buildSlice (e := 162) (cs := [.int .i64 kd, .int .i64 ((mm : Nat) : Int), .int .i64 cc]) rfl (by kernel_rfl) rfl fun g19 => ?_
      refine wl_nil ?_
      refine nw 23 2621439 (fun _ hm => ⟨hm.bl 2, hm.fa 0, hm.fa 1, hm.fa 2, hm.k, trivial⟩) fun z => ?_
      refine wa1 19 rfl ?_
      refine wl_append (news := [.int .i64 kd, .int .i64 ((mm : Nat) : Int), .int .i64 cc]) 0 0 ap129 rfl rfl rfl rfl rfl rfl rfl (by omega) (by unfold maxLen; omega) rfl rfl fun v2 hv2 => ?_
      refine wl_look (R := ∃ A cc, v2 = .slice A (yn + 1) cc) (fun wx hm => own_slice (hm.ownI 0 rfl)) ?_
      rintro ⟨xA, xc, rfl⟩
      refine wl_nil ?_
      refine nw 23 3145727 (fun _ hm => ⟨hm.bl 2, hm.fa 0, hm.fa 1, hm.fa 2, hm.k, trivial⟩) fun z => ?_
      refine wt 20 23 4194303 rfl z (ov_build (cs := [.int .i64 ((pcSum yp) + cc), .slice xA (yn + 1) xc]) rfl (by kernel_rfl)) ?_
      refine wa1 22 rfl ?_
      refine wl_stores (cs' := [.int .i64 ((pcSum yp) + cc), .slice xA (yn + 1) xc]) 1 rz280 rfl rfl rfl rfl rfl rfl rfl rfl ?_
      refine wl_nil ?_
      refine nw 23 8388607 (fun _ hm => ⟨hm.bl 2, hm.fa 0, hm.fa 1, hm.fa 2, hm.k, trivial⟩) fun z => ?_
      refine wa_done (by kernel_rfl) ?_
      have hxs : yp.flatMap pcEnc ++ ([.int .i64 kd, .int .i64 ((mm : Nat) : Int), .int .i64 cc] : List Value) = (yp ++ [(⟨kd, ((mm : Nat) : Int), cc⟩ : Pc)]).flatMap pcEnc := by simp [pcEnc]
      exact nx_meet (g18, xA, xc) trivial ⟨rfl, rfl, rfl, rfl, rfl, rfl, rfl, rfl, rfl, rfl, trivial⟩ (fun _ hm => (own_xs hxs hm).pick [1] [0] [0, 1, 2] rfl rfl)
     refine wl_buildSlice (e := 162) (cs := [.int .i64 kd, .int .i64 ((mm : Nat) : Int), .int .i64 cc]) rfl (by kernel_rfl) rfl fun g20 => ?_
     refine wl_nil ?_
     refine nw 23 2555903 (fun _ hm => ⟨hm.bl 2, hm.fa 0, hm.fa 1, hm.fa 2, hm.k, trivial⟩) fun z => ?_
     refine wa1 16 rfl ?_
     refine wl_callgo (γ := Option Addr × Nat) (val := (fun g => .slice g.1 yn g.2)) (φ := (fun g => True)) (fun g => ⟨.slice g.1 yn g.2, 162, 3, yn, yp.flatMap pcEnc⟩) rfl cb209 rfl rfl (fun wx hm => (by have hW := (hm.fact 0 rfl) ⟨yg, yA, yn, yc, yp⟩ (List.mem_of_getElem? hx3); exact (clonePieces_any yp yA yn yc wx hW.2.1 hynil (by omega)).mono fun _ _ ⟨A2, c2, he, ho, hg⟩ => ⟨(A2, c2), he, trivial, ho, hg⟩)) ?_
     rintro ⟨qA, qc⟩ hphi
     dsimp only at hphi ⊢
     clear hphi
     refine wl_nil ?_
     refine nw 23 2621439 (fun _ hm => ⟨hm.bl 2, hm.fa 0, hm.fa 1, hm.fa 2, hm.k, trivial⟩) fun z => ?_
     refine wa1 19 rfl ?_
     refine wl_append (news := [.int .i64 kd, .int .i64 ((mm : Nat) : Int), .int .i64 cc]) 0 0 ap129 rfl rfl rfl rfl rfl rfl rfl (by omega) (by unfold maxLen; omega) rfl rfl fun v2 hv2 => ?_
     refine wl_look (R := ∃ A cc, v2 = .slice A (yn + 1) cc) (fun wx hm => own_slice (hm.ownI 0 rfl)) ?_
     rintro ⟨xA, xc, rfl⟩
     refine wl_nil ?_
     refine nw 23 3145727 (fun _ hm => ⟨hm.bl 2, hm.fa 0, hm.fa 1, hm.fa 2, hm.k, trivial⟩) fun z => ?_
     refine wt 20 23 4194303 rfl z (ov_build (cs := [.int .i64 ((pcSum yp) + cc), .slice xA (yn + 1) xc]) rfl (by kernel_rfl)) ?_
     refine wa1 22 rfl ?_
     refine wl_stores (cs' := [.int .i64 ((pcSum yp) + cc), .slice xA (yn + 1) xc]) 1 rz280 rfl rfl rfl rfl rfl rfl rfl rfl ?_
     refine wl_nil ?_
     refine nw 23 8388607 (fun _ hm => ⟨hm.bl 2, hm.fa 0, hm.fa 1, hm.fa 2, hm.k, trivial⟩) fun z => ?_
     refine wa_done (by kernel_rfl) ?_
     have hxs : yp.flatMap pcEnc ++ ([.int .i64 kd, .int .i64 ((mm : Nat) : Int), .int .i64 cc] : List Value) = (yp ++ [(⟨kd, ((mm : Nat) : Int), cc⟩ : Pc)]).flatMap pcEnc := by simp [pcEnc]
     exact nx_meet (g18, xA, xc) trivial ⟨rfl, rfl, rfl, rfl, rfl, rfl, rfl, rfl, rfl, rfl, trivial⟩ (fun _ hm => (own_xs hxs hm).pick [1] [0] [0, 1, 2] rfl rfl)
    rintro ⟨gx, xA, xc⟩ hinv
    replace hinv : True := hinv
    dsimp only
    refine gw_seq ?_
    clear hinv
    have hyl : yp.length = yn := ((hm_w2.fact 0 rfl : Ways w.heap.size bs3 w2) ⟨yg, yA, yn, yc, yp⟩ (List.mem_of_getElem? hx3)).1.1
    have hXok : WyOk ⟨gx, xA, yn + 1, xc, yp ++ [(⟨kd, ((mm : Nat) : Int), cc⟩ : Pc)]⟩ := ⟨by dsimp only; simp [hyl], fun h => absurd h (by dsimp only; omega)⟩
    obtain ⟨z, hz⟩ : ∃ z, bs3[i + mm]? = some z := ⟨_, List.getElem?_eq_getElem (by omega)⟩
    rcases z with _ | ⟨zg, zA, zn, zc, zp⟩
    ·refine gd (fun wz => Blk wz gx 280 [.int .i64 (pcSum yp + cc), .slice xA (yn + 1) xc] ∧ (WaysO w2.heap.size (some g4) bs3) wz ∧ (SlOld rtEnc 7 170 w2.heap.size (some g4) A n l) wz ∧ (BlkOld w2.heap.size (some g4) gt 276 [.slice A n c0, .string c, .int .i64 fr, .int .i64 tt, .int .i64 ((D : Nat) : Int)]) wz ∧ (RowK w.heap.size 278 1 (D + 1) (D + 1) g4 (bs3.flatMap wyEnc)) wz ∧ True) mixed (fun _ hm => ⟨hm.bl 0, hm.fa 0, hm.fa 1, hm.fa 2, hm.k, trivial⟩) fun z => ?_
     refine wt 0 19 1 rfl z (ov_move rfl) ?_
     refine wt 1 19 3 rfl z (ov_move rfl) ?_
     refine wt 2 19 7 rfl z (ov_move rfl) ?_
     refine wt 3 19 15 rfl z (ov_add rfl rfl (by omega) (by omega)) ?_
     refine wa_set 87 (v' := .int .i64 ((i + mm : Nat) : Int)) rfl (congrArg (Value.int .i64) (by omega)) ?_
     refine wt 4 19 31 rfl z (ov_index (j := i + mm) es277 rfl rfl (by omega)) ?_
     refine wt 5 19 63 rfl z (ov_elem1 (k := 0) (v := .pointer none) sc278 rfl (fun _ hm => (RowK.get (hm.2.2.2.2.1) wy_len hbl3)) hz rfl rfl) ?_
     refine wt 6 19 127 rfl z (ov_bin rfl rfl (fun _ => rfl)) ?_
     refine wt 7 19 255 rfl z (ov_move rfl) ?_
     refine wtf 8 19 511 rfl rfl rfl z ?_
     refine wtf 9 19 1023 rfl rfl rfl z ?_
     refine wtf 10 19 2047 rfl rfl rfl z ?_
     refine wtf 11 19 4095 rfl rfl rfl z ?_
     refine wtf 12 19 8191 rfl rfl rfl z ?_
     refine wtf 13 19 16383 rfl rfl rfl z ?_
     refine wtf 14 19 32767 rfl rfl rfl z ?_
     refine wtf 15 19 65535 rfl rfl rfl z ?_
     refine wtf 16 19 131071 rfl rfl rfl z ?_
     refine wtf 17 19 262143 rfl rfl rfl z ?_
     refine wt 18 19 524287 rfl z (ov_pick_t rfl rfl) ?_
     refine wa_done (by kernel_rfl) ?_
     refine nx_then (ct_ rfl (gw_region (mv_ rfl (mv_ rfl (mv_ rfl (ad_ rfl rfl ?_))))))
     refine wl_set 106 (v' := .int .i64 ((i + mm : Nat) : Int)) rfl (congrArg (Value.int .i64) (by omega)) ?_
     refine wl_ov (ov_index (j := i + mm) es277 rfl rfl (by omega)) rfl ?_
     refine wl_storeRow (l := bs3) (j := i + mm) (r := 0) (el := none) (el' := some ⟨gx, xA, yn + 1, xc, yp ++ [(⟨kd, ((mm : Nat) : Int), cc⟩ : Pc)]⟩) rfl sc278 rfl rfl rfl wy_len rfl hz hbl3 (by decide) rfl rfl ?_
     refine wl_nil (nx_blk_nrm (nx_then (gw_region (mv_ rfl (ad_ rfl rfl (sg_ rfl (wl_nil ?_)))))))
     refine nx_unnest (c := ⟨123, w, none, [280, 162]⟩) (L' := [(gt, 276, [.slice A n c0, .string c, .int .i64 fr, .int .i64 tt, .int .i64 ((D : Nat) : Int)])]) (O' := [⟨.slice (some ⟨g4, 0, none⟩) (D + 1) (D + 1), 278, 1, (D + 1), (bs3.set (i + mm) (some ⟨gx, xA, yn + 1, xc, yp ++ [(⟨kd, ((mm : Nat) : Int), cc⟩ : Pc)]⟩)).flatMap wyEnc⟩]) (X' := [Way1 w.heap.size ⟨gx, xA, yn + 1, xc, yp ++ [(⟨kd, ((mm : Nat) : Int), cc⟩ : Pc)]⟩, Ways w.heap.size bs3, SlOld rtEnc 7 170 w.heap.size none A n l]) (K' := fun _ => True) rfl (fun wx hm => back_mem hm_w2 rfl hm (F := Way1 w.heap.size ⟨gx, xA, yn + 1, xc, yp ++ [(⟨kd, ((mm : Nat) : Int), cc⟩ : Pc)]⟩) (⟨(by have h := hm.blkI 0 rfl; rw [← pcSum_snoc yp ⟨kd, ((mm : Nat) : Int), cc⟩] at h; exact h), own_base (hm.ownI 0 rfl) hm_w2.g.size⟩) Way1.lasts) ?_
     refine nx_also (Y := Ways w.heap.size (bs3.set (i + mm) (some ⟨gx, xA, yn + 1, xc, yp ++ [(⟨kd, ((mm : Nat) : Int), cc⟩ : Pc)]⟩))) (Ways.lasts) (fun wx hm => Ways.set (hm.fact 1 rfl) hXok (hm.fact 0 rfl)) ?_
     exact nx_round (mm + 1, bs3.set (i + mm) (some ⟨gx, xA, yn + 1, xc, yp ++ [(⟨kd, ((mm : Nat) : Int), cc⟩ : Pc)]⟩)) ⟨⟨by dsimp only; omega, by dsimp only; omega⟩, by simp [hbl3], by rw [List.getElem?_set_ne (by omega)]; exact hx3, frow_take (y := ⟨yg, yA, yn, yc, yp⟩) (z := ⟨0, none, 0, 0, []⟩) hfr3 hby ⟨hk1, hk4⟩ ⟨by omega, by omega⟩ hpo rfl (.inl hz)⟩ (by dsimp only; omega) ⟨rfl, rfl, rfl, rfl, rfl, rfl, (some_int (by omega)), rfl, rfl, trivial⟩ (fun _ hm => hm.pick [0] [0] [0, 3] rfl rfl)
    have hfz : Chain pr 0 (i + mm) zp := (hfr3 _ _ hz).1
    have hsx : Chain pr 0 (i + mm) (yp ++ [(⟨kd, ((mm : Nat) : Int), cc⟩ : Pc)]) := chain_snoc hby.1 ⟨hk1, hk4, by dsimp only; omega, by dsimp only; omega, hpo⟩ (by dsimp only; omega)
    refine gd (fun wz => Blk wz gx 280 [.int .i64 (pcSum yp + cc), .slice xA (yn + 1) xc] ∧ (WaysO w2.heap.size (some g4) bs3) wz ∧ (SlOld rtEnc 7 170 w2.heap.size (some g4) A n l) wz ∧ (BlkOld w2.heap.size (some g4) gt 276 [.slice A n c0, .string c, .int .i64 fr, .int .i64 tt, .int .i64 ((D : Nat) : Int)]) wz ∧ (RowK w.heap.size 278 1 (D + 1) (D + 1) g4 (bs3.flatMap wyEnc)) wz ∧ True) mixed (fun _ hm => ⟨hm.bl 0, hm.fa 0, hm.fa 1, hm.fa 2, hm.k, trivial⟩) fun z => ?_
    refine wt 0 19 1 rfl z (ov_move rfl) ?_
    refine wt 1 19 3 rfl z (ov_move rfl) ?_
    refine wt 2 19 7 rfl z (ov_move rfl) ?_
    refine wt 3 19 15 rfl z (ov_add rfl rfl (by omega) (by omega)) ?_
    refine wa_set 87 (v' := .int .i64 ((i + mm : Nat) : Int)) rfl (congrArg (Value.int .i64) (by omega)) ?_
    refine wt 4 19 31 rfl z (ov_index (j := i + mm) es277 rfl rfl (by omega)) ?_
    refine wt 5 19 63 rfl z (ov_elem1 (k := 0) (v := .pointer (some ⟨zg, 0, none⟩)) sc278 rfl (fun _ hm => (RowK.get (hm.2.2.2.2.1) wy_len hbl3)) hz rfl rfl) ?_
    refine wt 6 19 127 rfl z (ov_bin rfl rfl (fun _ => rfl)) ?_
    refine wt 7 19 255 rfl z (ov_move rfl) ?_
    refine wto 8 19 511 rfl rfl rfl z (ov_loads rz280 rfl (fun _ hm => hm.1) rfl rfl) ?_
    refine wto 9 19 1023 rfl rfl rfl z (ov_move rfl) ?_
    refine wto 10 19 2047 rfl rfl rfl z (ov_move rfl) ?_
    refine wto 11 19 4095 rfl rfl rfl z (ov_move rfl) ?_
    refine wto 12 19 8191 rfl rfl rfl z (ov_add rfl rfl (by omega) (by omega)) ?_
    refine wa_set 96 (v' := .int .i64 ((i + mm : Nat) : Int)) rfl (congrArg (Value.int .i64) (by omega)) ?_
    refine wto 13 19 16383 rfl rfl rfl z (ov_index (j := i + mm) es277 rfl rfl (by omega)) ?_
    refine wto 14 19 32767 rfl rfl rfl z (ov_elem1 (k := 0) (v := .pointer (some ⟨zg, 0, none⟩)) sc278 rfl (fun _ hm => (RowK.get (hm.2.2.2.2.1) wy_len hbl3)) hz rfl rfl) ?_
    refine wto 15 19 65535 rfl rfl rfl z (ov_nilcheck rfl) ?_
    refine wto 16 19 131071 rfl rfl rfl z (ov_loads (vs := [.int .i64 (pcSum zp), .slice zA zn zc]) rz280 rfl (fun _ hm => ((hm.2.1) ⟨zg, zA, zn, zc, zp⟩ (List.mem_of_getElem? hz)).1.2) rfl rfl) ?_
    refine wa1 17 rfl ?_
    refine wl_guard_on rfl rfl rfl ?_
    refine wl_callv (v := .bool (wltB (pcSum (yp ++ [(⟨kd, ((mm : Nat) : Int), cc⟩ : Pc)])) (pcSum zp) (yp ++ [(⟨kd, ((mm : Nat) : Int), cc⟩ : Pc)]) zp)) rfl cb210 rfl rfl (fun wx hm => (by have h := lessWay_any (pcSum yp + cc) (pcSum zp) (yp ++ [(⟨kd, ((mm : Nat) : Int), cc⟩ : Pc)]) zp xA zA (yn + 1) zn xc zc wx (SlT.ofOwn pc_len (hm.ownI 0 rfl) (by simp [hyl])) ((hm.fact 0 rfl) ⟨zg, zA, zn, zc, zp⟩ (List.mem_of_getElem? hz)).2.1 (by omega) (chain_small hsx) (chain_small hfz); rw [show pcSum yp + cc = pcSum (yp ++ [(⟨kd, ((mm : Nat) : Int), cc⟩ : Pc)]) from (pcSum_snoc yp ⟨kd, ((mm : Nat) : Int), cc⟩).symm] at h ⊢; exact h)) ?_
    refine wl_nil ?_
    refine nw 19 262143 (fun _ hm => ⟨hm.bl 0, hm.fa 0, hm.fa 1, hm.fa 2, hm.k, trivial⟩) fun z => ?_
    refine wt 18 19 524287 rfl z (ov_pick_f rfl rfl) ?_
    refine wa_done (by kernel_rfl) ?_
    refine nx_then ?_
    refine gw_cond rfl (fun hh => ?_) (fun hh => ?_)
    ·have hwb : (wltB (pcSum (yp ++ [(⟨kd, ((mm : Nat) : Int), cc⟩ : Pc)])) (pcSum zp) (yp ++ [(⟨kd, ((mm : Nat) : Int), cc⟩ : Pc)]) zp) = true := by simpa using hh
     clear hh
     refine gw_region ?_
     have hwl : WLt (yp ++ [(⟨kd, ((mm : Nat) : Int), cc⟩ : Pc)]) zp := wltB_iff.1 hwb
     refine mv_ rfl (mv_ rfl (mv_ rfl (ad_ rfl rfl ?_)))
     refine wl_set 106 (v' := .int .i64 ((i + mm : Nat) : Int)) rfl (congrArg (Value.int .i64) (by omega)) ?_
     refine wl_ov (ov_index (j := i + mm) es277 rfl rfl (by omega)) rfl ?_
     refine wl_storeRow (l := bs3) (j := i + mm) (r := 0) (el := (some ⟨zg, zA, zn, zc, zp⟩)) (el' := some ⟨gx, xA, yn + 1, xc, yp ++ [(⟨kd, ((mm : Nat) : Int), cc⟩ : Pc)]⟩) rfl sc278 rfl rfl rfl wy_len rfl hz hbl3 (by decide) rfl rfl ?_
     refine wl_nil (nx_blk_nrm (nx_then (gw_region (mv_ rfl (ad_ rfl rfl (sg_ rfl (wl_nil ?_)))))))
     refine nx_unnest (c := ⟨123, w, none, [280, 162]⟩) (L' := [(gt, 276, [.slice A n c0, .string c, .int .i64 fr, .int .i64 tt, .int .i64 ((D : Nat) : Int)])]) (O' := [⟨.slice (some ⟨g4, 0, none⟩) (D + 1) (D + 1), 278, 1, (D + 1), (bs3.set (i + mm) (some ⟨gx, xA, yn + 1, xc, yp ++ [(⟨kd, ((mm : Nat) : Int), cc⟩ : Pc)]⟩)).flatMap wyEnc⟩]) (X' := [Way1 w.heap.size ⟨gx, xA, yn + 1, xc, yp ++ [(⟨kd, ((mm : Nat) : Int), cc⟩ : Pc)]⟩, Ways w.heap.size bs3, SlOld rtEnc 7 170 w.heap.size none A n l]) (K' := fun _ => True) rfl (fun wx hm => back_mem hm_w2 rfl hm (F := Way1 w.heap.size ⟨gx, xA, yn + 1, xc, yp ++ [(⟨kd, ((mm : Nat) : Int), cc⟩ : Pc)]⟩) (⟨(by have h := hm.blkI 0 rfl; rw [← pcSum_snoc yp ⟨kd, ((mm : Nat) : Int), cc⟩] at h; exact h), own_base (hm.ownI 0 rfl) hm_w2.g.size⟩) Way1.lasts) ?_
     refine nx_also (Y := Ways w.heap.size (bs3.set (i + mm) (some ⟨gx, xA, yn + 1, xc, yp ++ [(⟨kd, ((mm : Nat) : Int), cc⟩ : Pc)]⟩))) (Ways.lasts) (fun wx hm => Ways.set (hm.fact 1 rfl) hXok (hm.fact 0 rfl)) ?_
     exact nx_round (mm + 1, bs3.set (i + mm) (some ⟨gx, xA, yn + 1, xc, yp ++ [(⟨kd, ((mm : Nat) : Int), cc⟩ : Pc)]⟩)) ⟨⟨by dsimp only; omega, by dsimp only; omega⟩, by simp [hbl3], by rw [List.getElem?_set_ne (by omega)]; exact hx3, frow_take (y := ⟨yg, yA, yn, yc, yp⟩) (z := ⟨zg, zA, zn, zc, zp⟩) hfr3 hby ⟨hk1, hk4⟩ ⟨by omega, by omega⟩ hpo rfl (.inr ⟨hz, hwl⟩)⟩ (by dsimp only; omega) ⟨rfl, rfl, rfl, rfl, rfl, rfl, (some_int (by omega)), rfl, rfl, trivial⟩ (fun _ hm => hm.pick [0] [0] [0, 3] rfl rfl)
    have hwb : (wltB (pcSum (yp ++ [(⟨kd, ((mm : Nat) : Int), cc⟩ : Pc)])) (pcSum zp) (yp ++ [(⟨kd, ((mm : Nat) : Int), cc⟩ : Pc)]) zp) = false := by simpa using hh
    clear hh
    refine gw_skip (nx_blk_nrm (nx_then (gw_region ?_)))
    have hwl : ¬ WLt (yp ++ [(⟨kd, ((mm : Nat) : Int), cc⟩ : Pc)]) zp := fun h => by rw [wltB_iff.2 h] at hwb; cases hwb
    refine mv_ rfl (ad_ rfl rfl (sg_ rfl (wl_nil ?_)))
    refine nx_unnest (c := ⟨123, w, none, [280, 162]⟩) (L' := [(gt, 276, [.slice A n c0, .string c, .int .i64 fr, .int .i64 tt, .int .i64 ((D : Nat) : Int)])]) (O' := [⟨.slice (some ⟨g4, 0, none⟩) (D + 1) (D + 1), 278, 1, (D + 1), (bs3).flatMap wyEnc⟩]) (X' := [(fun _ => True), Ways w.heap.size bs3, SlOld rtEnc 7 170 w.heap.size none A n l]) (K' := fun _ => True) rfl (fun wx hm => back_mem hm_w2 rfl hm (F := fun _ => True) trivial Lasts2.true_) ?_
    exact nx_round (mm + 1, bs3) ⟨⟨by dsimp only; omega, by dsimp only; omega⟩, hbl3, hx3, frow_keep (y := ⟨yg, yA, yn, yc, yp⟩) (z := ⟨zg, zA, zn, zc, zp⟩) hfr3 hby ⟨hk1, hk4⟩ ⟨by omega, by omega⟩ hpo hz hwl⟩ (by dsimp only; omega) ⟨rfl, rfl, rfl, rfl, rfl, rfl, (some_int (by omega)), rfl, rfl, trivial⟩ (fun _ hm => hm.pick [0] [0] [1, 2] rfl rfl)
   have hm7 : ¬ (((mm : Nat) : Int) ≤ 7) := by simpa using hh
   clear hh
   refine gw_exit ?_
   refine nx_then_exit (nx_then_exit ?_)
   refine nx_blk_here ?_
   refine nx_blk_nrm (nx_then (gw_region ?_))
   have hm8 : mm = 8 := by omega
   subst hm8
   refine mv_ rfl (ad_ rfl rfl (sg_ rfl (wl_nil ?_)))
   exact nx_round (kd + 1, bs3) ⟨⟨by dsimp only; omega, by dsimp only; omega⟩, hbl3, hx3, frow_kind hfr3⟩ (by dsimp only; omega) ⟨rfl, rfl, rfl, rfl, rfl, rfl, rfl, rfl, trivial⟩ (fun _ hm => hm.pick [0] [0] [0, 1] rfl rfl)
  have hk4 : ¬ (kd ≤ 4) := by simpa using hh
  clear hh
  refine gw_exit ?_
  refine nx_then_exit (nx_then_exit ?_)
  refine nx_blk_here ?_
  refine nx_blk_nrm (nx_then (gw_region ?_))
  have hk5 : kd = 5 := by omega
  subst hk5
  refine ad_ rfl rfl (mv_ rfl (wl_nil ?_))
  exact nx_round (i + 1, bs2) ⟨by dsimp only; omega, hbl2, frow_next hfr2⟩ (by dsimp only; omega) ⟨rfl, rfl, rfl, rfl, rfl, (some_int (by omega)), trivial⟩ (fun _ hm => hm.pick [0] [0] [0, 1] rfl rfl)
 have hiD : ¬ (((i : Nat) : Int) < ((D : Nat) : Int)) := by simpa using hh
 clear hh
 refine gw_exit ?_
 refine nx_then_exit (nx_then_exit ?_)
 refine nx_blk_here ?_
 refine nx_then (gw_seq (sr_ ?_))
 have hiD2 : i = D := by omega
 subst hiD2
 obtain ⟨x, hx⟩ : ∃ x, bs[i]? = some x := ⟨_, List.getElem?_eq_getElem (by omega)⟩
 rcases x with _ | ⟨zg, zA, zn, zc, zp⟩
 ·refine mv_ rfl (fd_ fo276_3 rfl rfl (lk_ sc3 0 rfl rfl rfl ?_))
  refine wl_ov (ov_index (j := i) es277 rfl rfl (by omega)) rfl ?_
  refine wl_ov (ov_elem1 (k := 0) (v := .pointer none) sc278 rfl (fun _ hm => (SlT.ofOwn wy_len (hm.ownI 0 rfl) hbl)) hx rfl rfl) rfl ?_
  refine wl_ov (ov_bin rfl rfl (fun _ => rfl)) rfl ?_
  refine nn_ (ct_ rfl (sr_ (sg_ rfl (sg_ rfl (nn_ ?_)))))
  refine gw_ret ?_
  refine nx_then_ret ?_
  refine nx_ret2 rfl rfl rfl fun wx hm => ?_
  have hdead := (fcur_best (hfr i none hx)).1 rfl
  exact ⟨none, 0, 0, [], false, rfl, hm.g, ⟨rfl, .inl ⟨rfl, rfl⟩⟩, .inr ⟨rfl, rfl, by rw [← hpr, ← hD]; exact hdead⟩, rfl, fun _ => ⟨rfl, rfl⟩⟩
 have hbz := frow_best hfr hx
 refine mv_ rfl (fd_ fo276_3 rfl rfl (lk_ sc3 0 rfl rfl rfl ?_))
 refine wl_ov (ov_index (j := i) es277 rfl rfl (by omega)) rfl ?_
 refine wl_ov (ov_elem1 (k := 0) (v := .pointer (some ⟨zg, 0, none⟩)) sc278 rfl (fun _ hm => (SlT.ofOwn wy_len (hm.ownI 0 rfl) hbl)) hx rfl rfl) rfl ?_
 refine wl_ov (ov_bin rfl rfl (fun _ => rfl)) rfl ?_
 refine nn_ (cf_ rfl (gw_skip (nx_then (sr_ (mv_ rfl (fd_ fo276_3 rfl rfl (lk_ sc3 0 rfl rfl rfl ?_)))))))
 refine wl_ov (ov_index (j := i) es277 rfl rfl (by omega)) rfl ?_
 refine wl_ov (ov_elem1 (k := 0) (v := .pointer (some ⟨zg, 0, none⟩)) sc278 rfl (fun _ hm => (SlT.ofOwn wy_len (hm.ownI 0 rfl) hbl)) hx rfl rfl) rfl ?_
 refine wl_ov (ov_nilcheck rfl) rfl (fd_ fo280_1 rfl rfl ?_)
 refine wl_ov (ov_load (v := .slice zA zn zc) sc129 rfl (fun _ hm => ((hm.fact 0 rfl) ⟨zg, zA, zn, zc, zp⟩ (List.mem_of_getElem? hx)).2.1) rfl) rfl ?_
 refine sg_ rfl (sg_ rfl (nn_ ?_))
 refine gw_ret ?_
 refine nx_ret2 rfl rfl rfl fun wx hm => ?_
 obtain ⟨ho, hw⟩ := (hm.fact 0 rfl) ⟨zg, zA, zn, zc, zp⟩ (List.mem_of_getElem? hx)
 have hle := chain_le hbz.1
 have hzl : zp.length = zn := ho.1
 dsimp only at hle
 exact ⟨zA, zn, zc, zp, true, rfl, hm.g, hw.2, .inl ⟨rfl, by rw [← hpr, ← hD]; exact hbz⟩, hzl, ho.2⟩
end Go.Proofs.YtnmpniaocjmkfaaGreatDoor
namespace Go.Proofs.YtnmpniaocjmkfaaGreatDoor
theorem ba_ext {a b : ByteArray} (h : a.toList = b.toList) : a = b := by
  rw [ByteArray.toList_eq, ByteArray.toList_eq] at h
  cases a; cases b
  simp only at h
  exact congrArg ByteArray.mk (Array.toList_inj.1 h)
end Go.Proofs.YtnmpniaocjmkfaaGreatDoor
