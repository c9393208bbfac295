/- Taxes: the checks. -/
import Derived.Test.YtmpomocahgcebaaDoorTe
import Derived.Test.YtmpomocahgcebaaDoorTw
import Derived.Test.YtmpomocahgcebaaDoorPv
import Derived.Test.YtmpomocahgcebaaDoorSi
import Derived.Test.YtmpomocahgcebaaDoorTl
namespace Go.Proofs.YtmpomocahgcebaaDoor
open Go.RowKit

/-- A tax as it lies in a list: its kinds lie elsewhere. -/
structure Tx where
  key : ByteArray
  mille : Int
  A : Option Addr
  n : Nat
  c : Nat
  on : List Int
  over : Bool
def txEnc (x : Tx) : List Value := [.string x.key, .int .i64 x.mille, .slice x.A x.n x.c, .bool x.over]
theorem tx_len (x : Tx) : (txEnc x).length = 4 := rfl
def TxOk (x : Tx) : Prop := x.key.size ≤ 1000000 ∧ x.n ≤ 1000
/-- The kinds of all taxes of the list. -/
def Ons (l : List Tx) (w : World) : Prop := ∀ x ∈ l, SlT itEnc 1 3 w x.A x.n x.on
def OnsOld (N : Nat) (row : Option Nat) (l : List Tx) (w : World) : Prop := ∀ x ∈ l, SlOld itEnc 1 3 N row x.A x.n x.on w
theorem OnsOld.lasts {N : Nat} {row : Option Nat} {Tt : List TypeId} {l : List Tx} : Lasts2 N row Tt (OnsOld N row l) := lasts_all fun _ _ => SlOld.lasts
theorem Ons.lasts {N : Nat} {row : Option Nat} {Tt : List TypeId} {l : List Tx} (hT : Tt.contains 3 = true) : Lasts2 N row Tt (Ons l) := lasts_all fun _ _ => SlT.lasts2 hT
theorem Ons.old {l : List Tx} {w : World} (h : Ons l w) : OnsOld w.heap.size none l w := fun x hx => (h x hx).old
theorem OnsOld.ons {N : Nat} {row : Option Nat} {l : List Tx} {w : World} (h : OnsOld N row l w) : Ons l w := fun x hx => (h x hx).1
def onB (p : Option Int) (k : Int) : Bool := match p with
  | none => false
  | some q => decide (k ≤ q)
def onE (p : Option Int) (k : Int) : Int := if decide (k = 5) || !inB k 1 6 then 4 else if onB p k then 7 else 0
def onsE (l : List Int) : Int := scanE onE none l
def taxP (k : ByteArray) (x : Tx) : Bool := x.key.toList == k.toList
def taxE (pre : List Tx) (x : Tx) : Int := if !keyB x.key then 5 else if pre.any (taxP x.key) then 6 else if !inB x.mille 0 1000 then 1 else onsE x.on
def taxG : List Tx → List Tx → Int
  | _, [] => 0
  | pre, x :: r => if taxE pre x = 0 then taxG (pre ++ [x]) r else taxE pre x
theorem taxG_at {l : List Tx} {i : Nat} {x : Tx} (h : l[i]? = some x) : taxG (l.take i) (l.drop i) = if taxE (l.take i) x = 0 then taxG (l.take (i + 1)) (l.drop (i + 1)) else taxE (l.take i) x := by
  obtain ⟨hi, rfl⟩ := List.getElem?_eq_some_iff.1 h
  rw [List.drop_eq_getElem_cons hi, List.take_add_one, List.getElem?_eq_getElem hi]
  rfl
theorem taxG_end {l : List Tx} {i : Nat} (h : l.length ≤ i) : taxG (l.take i) (l.drop i) = 0 := by rw [List.drop_eq_nil_of_le h]; rfl
def taxesE (l : List Tx) : Int := if 10 < l.length then 2 else taxG [] l
theorem taxG_ok : ∀ {r pre : List Tx}, taxG pre r = 0 → ∀ x ∈ r, ∃ p, taxE p x = 0
  | [], _, _, x, hx => by cases hx
  | y :: t, pre, h, x, hx => by
    unfold taxG at h
    by_cases h0 : taxE pre y = 0
    · rw [if_pos h0] at h
      rcases List.mem_cons.1 hx with rfl | hx
      · exact ⟨_, h0⟩
      · exact taxG_ok h x hx
    · rw [if_neg h0] at h; exact absurd h h0
theorem taxesE_mille {l : List Tx} (h : taxesE l = 0) : l.length ≤ 10 ∧ ∀ x ∈ l, 0 ≤ x.mille ∧ x.mille ≤ 1000 := by
  unfold taxesE at h
  split at h
  · cases h
  · refine ⟨by omega, fun x hx => ?_⟩
    obtain ⟨p, hp⟩ := taxG_ok h x hx
    unfold taxE at hp
    split at hp
    · cases hp
    · split at hp
      · cases hp
      · split at hp
        · cases hp
        · rename_i h3
          exact inB_iff.1 (by simpa using h3)

set_option maxRecDepth 100000 in
set_option maxHeartbeats 400000 in
theorem predTax_c (key : ByteArray) (mi : Int) (At : Option Addr) (nt ct : Nat) (on : List Int) (ov : Bool) (gk : Nat) (k0 : ByteArray) (k1 : Int) (k2 : Option Addr) (k3 k4 : Nat) (k5 : Bool) (w : World) (hk : Blk w gk 205 [.string k0, .int .i64 k1, .slice k2 k3 k4, .bool k5]) :
    Calls Tryd.prog 139 #[.agg #[.string key, .int .i64 mi, .slice At nt ct, .bool ov], .pointer (some ⟨gk, 0, none⟩)] w (fun e w' => e = .returned (.bool (taxP k0 ⟨key, mi, At, nt, ct, on, ov⟩)) ∧ w.grownBy w' none) := by
  refine gw_enter ⟨9, w, none, []⟩ Tryd.func139 rfl Tryd.ntmps139 rfl (mem0 (X := [BlkOld w.heap.size none gk 205 [.string k0, .int .i64 k1, .slice k2 k3 k4, .bool k5]]) (allF_cons hk.old allF_nil) (allL_cons BlkOld.lasts allL_nil)) ?_
  refine gw_seq ?_
  refine gw_region ?_
  refine wl_box rfl rfl rfl fun g1 => ?_
  refine wl_ov (ov_assign rfl) rfl ?_
  refine wl_nil ?_
  refine nx_then ?_
  refine gw_seq ?_
  refine gw_region ?_
  refine wl_ov (ov_field fo205_0 rfl rfl) rfl ?_
  refine wl_ov (ov_load sc9 rfl (fun _ hm => hm.blkI 0 rfl) rfl) rfl ?_
  refine wl_ov (ov_field fo205_0 rfl rfl) rfl ?_
  refine wl_ov (ov_load (v := .string k0) sc9 rfl (fun _ hm => (hm.fact 0 rfl).2) rfl) rfl ?_
  refine wl_ov (ov_seql rfl rfl) rfl ?_
  refine wl_ov (ov_assign rfl) rfl ?_
  refine wl_nil ?_
  refine nx_then ?_
  refine gw_ret ?_
  refine nx_ret1 rfl rfl fun wx hm => ?_
  exact ⟨rfl, hm.g⟩

set_option maxRecDepth 100000 in
set_option maxHeartbeats 400000 in
theorem indexTax_c (l : List Tx) (A : Option Addr) (n c0 : Nat) (gk : Nat) (k0 : ByteArray) (k1 : Int) (k2 : Option Addr) (k3 k4 : Nat) (k5 : Bool) (w : World) (hl : SlT txEnc 4 205 w A n l) (hn : n ≤ 1000000) (hk : Blk w gk 205 [.string k0, .int .i64 k1, .slice k2 k3 k4, .bool k5]) :
    Calls Tryd.prog 177 #[.slice A n c0, .func (.func 139) #[] #[.pointer (some ⟨gk, 0, none⟩)]] w (GotE w (ixP (taxP k0) l 0)) := by
  refine gw_enter ⟨19, w, none, []⟩ Tryd.func177 rfl Tryd.ntmps177 rfl (mem0 (X := [SlOld txEnc 4 205 w.heap.size none A n l, BlkOld w.heap.size none gk 205 [.string k0, .int .i64 k1, .slice k2 k3 k4, .bool k5]]) (allF_cons hl.old (allF_cons hk.old allF_nil)) (allL_cons SlOld.lasts (allL_cons BlkOld.lasts allL_nil))) ?_
  refine gw_seq ?_
  refine gw_region ?_
  have hlen := hl.len
  refine wl_ov (ov_assign rfl) rfl ?_
  refine wl_nil ?_
  refine nx_then ?_
  refine gw_seq ?_
  refine gw_seq ?_
  refine gw_region ?_
  refine wl_ov (ov_move rfl) rfl ?_
  refine wl_ov (ov_len es125 rfl) rfl ?_
  refine wl_ov (ov_move rfl) rfl ?_
  refine wl_nil ?_
  refine nx_then ?_
  refine gw_block ?_
  refine gw_loop (γ := Nat) (fun (i : Nat) => i ≤ n ∧ ixP (taxP k0) l 0 = ixP (taxP k0) (l.drop i) i) (fun (i : Nat) => [(0, .slice A n c0), (1, .func (.func 139) #[] #[.pointer (some ⟨gk, 0, none⟩)]), (7, .int .i64 ((n : Nat) : Int)), (8, .int .i64 ((i : Nat) : Int))]) (fun (i : Nat) => fun _ => True) (fun (i : Nat) => []) (fun (i : Nat) => []) (fun (i : Nat) => [SlOld txEnc 4 205 w.heap.size none A n l, BlkOld w.heap.size none gk 205 [.string k0, .int .i64 k1, .slice k2 k3 k4, .bool k5]]) (fun (i : Nat) => n - i) 0 ⟨Nat.zero_le _, rfl⟩ ⟨rfl, rfl, rfl, rfl, trivial⟩ (fun _ hm => hm.pick [] [] [0, 1] rfl rfl) ?_
  intro i hinv
  replace hinv : i ≤ n ∧ ixP (taxP k0) l 0 = ixP (taxP k0) (l.drop i) i := hinv
  refine gw_seq ?_
  refine gw_region ?_
  refine wl_ov (ov_lss rfl rfl) rfl ?_
  refine wl_nil ?_
  refine nx_then ?_
  refine gw_seq ?_
  refine gw_cond rfl (fun hh => ?_) (fun hh => ?_)
  · have hi : ((i : Nat) : Int) < ((n : Nat) : Int) := by simpa using hh
    clear hh
    refine gw_skip ?_
    refine nx_then ?_
    refine gw_seq ?_
    refine gw_block ?_
    refine gw_seq ?_
    refine gw_region ?_
    obtain ⟨b, off, hA, _, _⟩ := hl.get (by omega)
    subst hA
    obtain ⟨x, hx⟩ : ∃ x, l[i]? = some x := ⟨_, List.getElem?_eq_getElem (by omega)⟩
    obtain ⟨key, mi, At, nt, ct, on, ov⟩ := x
    have hat := ixP_at (p := taxP k0) hx
    refine wl_ov (ov_move rfl) rfl ?_
    refine wl_ov (ov_assign rfl) rfl ?_
    refine wl_nil ?_
    refine nx_then ?_
    refine gw_seq ?_
    refine gw_region ?_
    refine wl_ov (ov_move rfl) rfl ?_
    refine wl_ov (ov_move rfl) rfl ?_
    refine wl_ov (ov_move rfl) rfl ?_
    refine wl_ov (ov_index (j := i) es125 rfl rfl (by omega)) rfl ?_
    refine wl_ov (ov_elem (vs := [.string key, .int .i64 mi, .slice At nt ct, .bool ov]) rz205 rfl (fun _ hm => (hm.fact 0 rfl).1) hx rfl rfl) rfl ?_
    refine wl_callv rfl cb139 rfl rfl (fun wx hm => (predTax_c key mi At nt ct on ov gk k0 k1 k2 k3 k4 k5 wx (hm.fact 1 rfl).2)) ?_
    refine wl_nil ?_
    refine nx_then ?_
    refine gw_cond rfl (fun hh => ?_) (fun hh => ?_)
    · have hq : (taxP k0 ⟨key, mi, At, nt, ct, on, ov⟩) = true := by simpa using hh
      clear hh
      refine gw_seq ?_
      refine gw_region ?_
      refine wl_ov (ov_move rfl) rfl ?_
      refine wl_ov (ov_assign rfl) rfl ?_
      refine wl_nil ?_
      refine nx_then ?_
      refine gw_ret ?_
      refine nx_blk_ret ?_
      refine nx_then_ret ?_
      refine nx_then_ret ?_
      refine nx_blk_ret ?_
      refine nx_then_ret ?_
      refine nx_ret1 rfl rfl fun wx hm => ?_
      exact ⟨ret_int (by rw [hinv.2, hat, if_pos hq]), hm.g⟩
    · have hq : (taxP k0 ⟨key, mi, At, nt, ct, on, ov⟩) = false := by simpa using hh
      clear hh
      refine gw_skip ?_
      refine nx_blk_nrm ?_
      refine nx_then ?_
      refine gw_region ?_
      refine wl_ov (ov_add rfl rfl (by omega) (by omega)) rfl ?_
      refine wl_ov (ov_move rfl) rfl ?_
      refine wl_nil ?_
      exact nx_round (i + 1) ⟨by omega, by rw [hinv.2, hat, if_neg (by rw [hq]; decide)]⟩ (by omega) ⟨rfl, rfl, rfl, (some_int (by omega)), trivial⟩ (fun _ hm => hm.pick [] [] [0, 1] rfl rfl)
  · have hi : ¬ (((i : Nat) : Int) < ((n : Nat) : Int)) := by simpa using hh
    clear hh
    refine gw_exit ?_
    refine nx_then_exit ?_
    refine nx_then_exit ?_
    refine nx_blk_here ?_
    refine nx_then ?_
    refine gw_seq ?_
    refine gw_region ?_
    refine wl_ov (ov_assign rfl) rfl ?_
    refine wl_set 4 (v' := .int .i64 (-1)) rfl rfl ?_
    refine wl_nil ?_
    refine nx_then ?_
    refine gw_ret ?_
    refine nx_ret1 rfl rfl fun wx hm => ?_
    exact ⟨ret_int (by rw [hinv.2, List.drop_eq_nil_of_le (by omega)]; rfl), hm.g⟩

set_option maxRecDepth 100000 in
set_option maxHeartbeats 400000 in
theorem hasTax_c (l : List Tx) (A : Option Addr) (n c0 : Nat) (gk : Nat) (k0 : ByteArray) (k1 : Int) (k2 : Option Addr) (k3 k4 : Nat) (k5 : Bool) (w : World) (hl : SlT txEnc 4 205 w A n l) (hn : n ≤ 1000000) (hk : Blk w gk 205 [.string k0, .int .i64 k1, .slice k2 k3 k4, .bool k5]) :
    Calls Tryd.prog 137 #[.slice A n c0, .func (.func 139) #[] #[.pointer (some ⟨gk, 0, none⟩)]] w (fun e w' => e = .returned (.bool (l.any (taxP k0))) ∧ w.grownBy w' none) := by
  refine gw_enter ⟨9, w, none, []⟩ Tryd.func137 rfl Tryd.ntmps137 rfl (mem0 (X := [SlOld txEnc 4 205 w.heap.size none A n l, BlkOld w.heap.size none gk 205 [.string k0, .int .i64 k1, .slice k2 k3 k4, .bool k5]]) (allF_cons hl.old (allF_cons hk.old allF_nil)) (allL_cons SlOld.lasts (allL_cons BlkOld.lasts allL_nil))) ?_
  refine gw_seq ?_
  refine gw_region ?_
  refine wl_ov (ov_assign rfl) rfl ?_
  refine wl_nil ?_
  refine nx_then ?_
  refine gw_seq ?_
  refine gw_region ?_
  refine wl_ov (ov_move rfl) rfl ?_
  refine wl_ov (ov_move rfl) rfl ?_
  refine wl_callv rfl cb177 rfl rfl (fun wx hm => (indexTax_c l A n c0 gk k0 k1 k2 k3 k4 k5 wx (hm.fact 0 rfl).1 hn (hm.fact 1 rfl).2)) ?_
  refine wl_ov (ov_geq rfl rfl) rfl ?_
  refine wl_ov (ov_assign rfl) rfl ?_
  refine wl_nil ?_
  refine nx_then ?_
  refine gw_ret ?_
  refine nx_ret1 rfl rfl fun wx hm => ?_
  exact ⟨by rw [← ix_any], hm.g⟩

set_option maxRecDepth 100000 in
set_option maxHeartbeats 1000000 in
theorem checkTaxes_any (l : List Tx) (A : Option Addr) (n c0 : Nat) (w : World) (hl : SlT txEnc 4 205 w A n l) (hg : Ons l w) (hok : ∀ x ∈ l, TxOk x) (hn : n ≤ 1000000) (hc : n ≤ c0) :
    Calls Tryd.prog 79 #[.slice A n c0] w (GotE w (taxesE l)) := by
  refine gw_enter ⟨64, w, none, []⟩ Tryd.func79 rfl Tryd.ntmps79 rfl (mem0 (X := [SlOld txEnc 4 205 w.heap.size none A n l, OnsOld w.heap.size none l]) (allF_cons hl.old (allF_cons hg.old allF_nil)) (allL_cons SlOld.lasts (allL_cons OnsOld.lasts allL_nil))) ?_
  refine gw_seq ?_
  refine gw_region ?_
  have hlen := hl.len
  refine wl_ov (ov_assign rfl) rfl ?_
  refine wl_nil ?_
  refine nx_then ?_
  refine gw_seq ?_
  refine gw_seq ?_
  refine gw_region ?_
  refine wl_ov (ov_move rfl) rfl ?_
  refine wl_ov (ov_len es125 rfl) rfl ?_
  refine wl_ov (ov_gtr rfl rfl) rfl ?_
  refine wl_nil ?_
  refine nx_then ?_
  refine gw_cond rfl (fun hh => ?_) (fun hh => ?_)
  · have h1 : 10 < ((n : Nat) : Int) := by simpa using hh
    clear hh
    refine gw_seq ?_
    refine gw_region ?_
    refine wl_ov (ov_assign rfl) rfl ?_
    refine wl_nil ?_
    refine nx_then ?_
    refine gw_ret ?_
    refine nx_then_ret ?_
    refine nx_ret1 rfl rfl fun wx hm => ?_
    exact ⟨ret_int (by unfold taxesE; rw [if_pos (by omega)]), hm.g⟩
  · have h1 : ¬ (10 < ((n : Nat) : Int)) := by simpa using hh
    clear hh
    refine gw_skip ?_
    refine nx_then ?_
    refine gw_seq ?_
    refine gw_seq ?_
    refine gw_region ?_
    refine wl_ov (ov_move rfl) rfl ?_
    refine wl_ov (ov_len es125 rfl) rfl ?_
    refine wl_ov (ov_move rfl) rfl ?_
    refine wl_nil ?_
    refine nx_then ?_
    refine gw_block ?_
    obtain ⟨TE, hTE⟩ : ∃ E, E = taxesE l := ⟨_, rfl⟩
    rw [← hTE]
    refine gw_loop (γ := Nat) (fun (k : Nat) => k ≤ n ∧ TE = taxG (l.take k) (l.drop k)) (fun (k : Nat) => [(0, .slice A n c0), (10, .slice A n c0), (11, .int .i64 ((n : Nat) : Int)), (12, .int .i64 ((k : Nat) : Int))]) (fun (k : Nat) => fun _ => True) (fun (k : Nat) => []) (fun (k : Nat) => []) (fun (k : Nat) => [SlOld txEnc 4 205 w.heap.size none A n l, OnsOld w.heap.size none l]) (fun (k : Nat) => n - k) 0 ⟨Nat.zero_le _, by rw [hTE]; unfold taxesE; rw [if_neg (by omega)]; rfl⟩ ⟨rfl, rfl, rfl, rfl, trivial⟩ (fun _ hm => hm.pick [] [] [0, 1] rfl rfl) ?_
    intro k hinv
    replace hinv : k ≤ n ∧ TE = taxG (l.take k) (l.drop k) := hinv
    refine gw_seq ?_
    refine gw_region ?_
    refine wl_ov (ov_lss rfl rfl) rfl ?_
    refine wl_nil ?_
    refine nx_then ?_
    refine gw_seq ?_
    refine gw_cond rfl (fun hh => ?_) (fun hh => ?_)
    · have hk : ((k : Nat) : Int) < ((n : Nat) : Int) := by simpa using hh
      clear hh
      refine gw_skip ?_
      refine nx_then ?_
      refine gw_seq ?_
      refine gw_block ?_
      refine gw_seq ?_
      refine gw_region ?_
      obtain ⟨b, off, hA, _, _⟩ := hl.get (by omega)
      subst hA
      obtain ⟨x, hx⟩ : ∃ x, l[k]? = some x := ⟨_, List.getElem?_eq_getElem (by omega)⟩
      obtain ⟨key, mi, At, nt, ct, on, ov⟩ := x
      have hat := taxG_at hx
      obtain ⟨hk1, hnt⟩ := hok _ (List.mem_of_getElem? hx)
      have hk1 : key.size ≤ 1000000 := hk1
      have hnt : nt ≤ 1000 := hnt
      have hout := hinv
      refine wl_ov (ov_move rfl) rfl ?_
      refine wl_ov (ov_index (j := k) es125 rfl rfl (by omega)) rfl ?_
      refine wl_ov (ov_elem (vs := [.string key, .int .i64 mi, .slice At nt ct, .bool ov]) rz205 rfl (fun _ hm => (hm.fact 0 rfl).1) hx rfl rfl) rfl ?_
      refine wl_alloc zc205 rfl fun g1 => ?_
      refine wl_ov (ov_assign rfl) rfl ?_
      refine wl_stores (cs' := [.string key, .int .i64 mi, .slice At nt ct, .bool ov]) 0 rz205 rfl rfl rfl rfl rfl rfl rfl rfl ?_
      refine wl_nil ?_
      refine nx_then ?_
      refine gw_seq ?_
      refine gw_block ?_
      refine gw_seq ?_
      refine gw_region ?_
      refine wl_ov (ov_field fo205_0 rfl rfl) rfl ?_
      refine wl_ov (ov_load sc9 rfl (fun _ hm => hm.blkI 0 rfl) rfl) rfl ?_
      refine wl_callw rfl cb106 rfl rfl (fun wx hm => (isKey_any _ wx (by omega))) ?_
      refine wl_ov (ov_un_not rfl) rfl ?_
      refine wl_ov (ov_assign rfl) rfl ?_
      refine wl_nil ?_
      refine nx_then ?_
      refine gw_cond rfl (fun hh => ?_) (fun hh => ?_)
      · have h2 : (keyB key) = false := by simpa using hh
        clear hh
        refine gw_seq ?_
        refine gw_region ?_
        refine wl_ov (ov_assign rfl) rfl ?_
        refine wl_nil ?_
        refine nx_then ?_
        refine gw_ret ?_
        refine nx_blk_ret ?_
        refine nx_then_ret ?_
        refine nx_blk_ret ?_
        refine nx_then_ret ?_
        refine nx_then_ret ?_
        refine nx_blk_ret ?_
        refine nx_then_ret ?_
        have hE : taxE (l.take k) ⟨key, mi, At, nt, ct, on, ov⟩ = 5 := by unfold taxE; simp [h2]
        refine nx_ret1 rfl rfl fun wx hm => ?_
        exact ⟨ret_int (by rw [hout.2, hat, if_neg (by rw [hE]; decide), hE]), hm.g⟩
      · have h2 : (keyB key) = true := by simpa using hh
        clear hh
        refine gw_seq ?_
        refine gw_region ?_
        refine wl_ov (ov_move rfl) rfl ?_
        refine wl_ov (ov_move rfl) rfl ?_
        refine wl_ov (ov_sliceHi (hi := k) es125 rfl rfl rfl (by omega)) rfl ?_
        refine wl_ov (ov_makeFunc rfl rfl) rfl ?_
        refine wl_callv rfl cb137 rfl rfl (fun wx hm => (hasTax_c (l.take k) _ k c0 _ _ _ _ _ _ _ wx (SlT.takeT (hm.fact 0 rfl).1 (by omega)) (by omega) (hm.blkI 0 rfl))) ?_
        refine wl_ov (ov_assign rfl) rfl ?_
        refine wl_nil ?_
        refine nx_then ?_
        refine gw_cond rfl (fun hh => ?_) (fun hh => ?_)
        · have h3 : ((l.take k).any (taxP key)) = true := by simpa using hh
          clear hh
          refine gw_seq ?_
          refine gw_region ?_
          refine wl_ov (ov_assign rfl) rfl ?_
          refine wl_nil ?_
          refine nx_then ?_
          refine gw_ret ?_
          refine nx_blk_ret ?_
          refine nx_then_ret ?_
          refine nx_blk_ret ?_
          refine nx_then_ret ?_
          refine nx_then_ret ?_
          refine nx_blk_ret ?_
          refine nx_then_ret ?_
          have hE : taxE (l.take k) ⟨key, mi, At, nt, ct, on, ov⟩ = 6 := by unfold taxE; simp [h2, h3]
          refine nx_ret1 rfl rfl fun wx hm => ?_
          exact ⟨ret_int (by rw [hout.2, hat, if_neg (by rw [hE]; decide), hE]), hm.g⟩
        · have h3 : ((l.take k).any (taxP key)) = false := by simpa using hh
          clear hh
          refine gw_seq ?_
          refine gw_region ?_
          refine wl_ov (ov_field fo205_1 rfl rfl) rfl ?_
          refine wl_ov (ov_load sc3 rfl (fun _ hm => hm.blkI 0 rfl) rfl) rfl ?_
          refine wl_callw rfl cb99 rfl rfl (fun wx hm => (in_any _ _ _ wx)) ?_
          refine wl_ov (ov_un_not rfl) rfl ?_
          refine wl_ov (ov_assign rfl) rfl ?_
          refine wl_nil ?_
          refine nx_then ?_
          refine gw_cond rfl (fun hh => ?_) (fun hh => ?_)
          · have h4 : (inB mi 0 1000) = false := by simpa using hh
            clear hh
            refine gw_seq ?_
            refine gw_region ?_
            refine wl_ov (ov_assign rfl) rfl ?_
            refine wl_nil ?_
            refine nx_then ?_
            refine gw_ret ?_
            refine nx_blk_ret ?_
            refine nx_then_ret ?_
            refine nx_blk_ret ?_
            refine nx_then_ret ?_
            refine nx_then_ret ?_
            refine nx_blk_ret ?_
            refine nx_then_ret ?_
            have hE : taxE (l.take k) ⟨key, mi, At, nt, ct, on, ov⟩ = 1 := by unfold taxE; simp [h2, h3, h4]
            refine nx_ret1 rfl rfl fun wx hm => ?_
            exact ⟨ret_int (by rw [hout.2, hat, if_neg (by rw [hE]; decide), hE]), hm.g⟩
          · have h4 : (inB mi 0 1000) = true := by simpa using hh
            clear hh
            refine gw_skip ?_
            refine nx_blk_nrm ?_
            refine nx_then ?_
            refine gw_seq ?_
            refine gw_region ?_
            have hEo : taxE (l.take k) ⟨key, mi, At, nt, ct, on, ov⟩ = onsE on := by unfold taxE; simp [h2, h3, h4]
            refine wl_also (Y := SlOld itEnc 1 3 w.heap.size none At nt on) (SlOld.lasts) (fun wx hm => (hm.fact 1 rfl) _ (List.mem_of_getElem? hx)) ?_
            refine wl_look (R := on.length = nt) (fun wx hm => ((hm.fact 0 rfl)).1.len) ?_
            intro hol
            refine wl_ov (ov_field fo205_2 rfl rfl) rfl ?_
            refine wl_ov (ov_load sc22 rfl (fun _ hm => hm.blkI 0 rfl) rfl) rfl ?_
            refine wl_ov (ov_len es22 rfl) rfl ?_
            refine wl_ov (ov_move rfl) rfl ?_
            refine wl_nil ?_
            refine nx_then ?_
            refine gw_block ?_
            refine gw_loop (γ := Nat) (fun (q : Nat) => q ≤ nt ∧ onsE on = scanE onE (prevOf on q) (on.drop q)) (fun (q : Nat) => [(0, .slice (some ⟨b, off, none⟩) n c0), (4, .pointer (some ⟨g1, 0, none⟩)), (10, .slice (some ⟨b, off, none⟩) n c0), (11, .int .i64 ((n : Nat) : Int)), (12, .int .i64 ((k : Nat) : Int)), (34, .slice At nt ct), (35, .int .i64 ((nt : Nat) : Int)), (36, .int .i64 ((q : Nat) : Int))]) (fun (q : Nat) => fun _ => True) (fun (q : Nat) => [(g1, 205, [.string key, .int .i64 mi, .slice At nt ct, .bool ov])]) (fun (q : Nat) => []) (fun (q : Nat) => [SlOld itEnc 1 3 w.heap.size none At nt on, SlOld txEnc 4 205 w.heap.size none (some ⟨b, off, none⟩) n l, OnsOld w.heap.size none l]) (fun (q : Nat) => nt - q) 0 ⟨Nat.zero_le _, rfl⟩ ⟨rfl, rfl, rfl, rfl, rfl, rfl, rfl, rfl, trivial⟩ (fun _ hm => hm.pick [0] [] [0, 1, 2] rfl rfl) ?_
            intro q hinv
            replace hinv : q ≤ nt ∧ onsE on = scanE onE (prevOf on q) (on.drop q) := hinv
            refine gw_seq ?_
            refine gw_region ?_
            have hin := hinv
            refine wl_ov (ov_lss rfl rfl) rfl ?_
            refine wl_nil ?_
            refine nx_then ?_
            refine gw_seq ?_
            refine gw_cond rfl (fun hh => ?_) (fun hh => ?_)
            · have hq : ((q : Nat) : Int) < ((nt : Nat) : Int) := by simpa using hh
              clear hh
              refine gw_skip ?_
              refine nx_then ?_
              refine gw_seq ?_
              refine gw_block ?_
              refine gw_seq ?_
              refine gw_region ?_
              refine wl_look (R := SlT itEnc 1 3 w At nt on) (fun wx hm => hg _ (List.mem_of_getElem? hx)) ?_
              intro hso
              obtain ⟨b2, o2, hA, _, _⟩ := hso.get (by omega)
              subst hA
              obtain ⟨z0, hy⟩ : ∃ x, on[q]? = some x := ⟨_, List.getElem?_eq_getElem (by omega)⟩
              have han := scanE_at onE on q _ hy
              refine wl_ov (ov_move rfl) rfl ?_
              refine wl_ov (ov_index (j := q) es22 rfl rfl (by omega)) rfl ?_
              refine wl_ov (ov_elem1 (k := 0) (v := .int .i64 z0) sc3 rfl (fun _ hm => (hm.fact 0 rfl).1) hy rfl rfl) rfl ?_
              refine wl_ov (ov_assign rfl) rfl ?_
              refine wl_ov (ov_assign rfl) rfl ?_
              refine wl_nil ?_
              refine nx_then ?_
              refine gw_block ?_
              refine gw_seq ?_
              refine gw_region ?_
              refine wl_ov (ov_move rfl) rfl ?_
              refine wl_ov (ov_eql rfl rfl) rfl ?_
              refine wl_ov (ov_move rfl) rfl ?_
              rcases Bool.eq_false_or_eq_true (decide (z0 = 5)) with h5 | h5
              · refine wl_set 44 rfl (congrArg Value.bool h5) ?_
                replace h5 : z0 = 5 := of_decide_eq_true h5
                refine wl_guard_off rfl rfl rfl (by decide) rfl ?_
                refine wl_guard_off rfl rfl rfl (by decide) rfl ?_
                refine wl_guard_off rfl rfl rfl (by decide) rfl ?_
                refine wl_ov (ov_pick_t rfl rfl) rfl ?_
                refine wl_ov (ov_assign rfl) rfl ?_
                refine wl_nil ?_
                refine nx_then ?_
                refine gw_cond rfl (fun _ => ?_) (fun hh => by cases hh)
                refine gw_seq ?_
                refine gw_region ?_
                refine wl_ov (ov_assign rfl) rfl ?_
                refine wl_nil ?_
                refine nx_then ?_
                refine gw_ret ?_
                refine nx_blk_ret ?_
                refine nx_blk_ret ?_
                refine nx_then_ret ?_
                refine nx_then_ret ?_
                refine nx_blk_ret ?_
                refine nx_blk_ret ?_
                refine nx_then_ret ?_
                refine nx_then_ret ?_
                refine nx_blk_ret ?_
                refine nx_then_ret ?_
                have hE : onE (prevOf on q) z0 = 4 := by unfold onE; simp [h5]
                have hE2 : onsE on = 4 := by rw [hin.2, han, if_neg (by rw [hE]; decide), hE]
                refine nx_ret1 rfl rfl fun wx hm => ?_
                exact ⟨ret_int (by rw [hout.2, hat, if_neg (by rw [hEo, hE2]; decide), hEo, hE2]), hm.g⟩
              · refine wl_set 44 rfl (congrArg Value.bool h5) ?_
                replace h5 : ¬ z0 = 5 := of_decide_eq_false h5
                refine wl_guard_on rfl rfl rfl ?_
                refine wl_ov (ov_move rfl) rfl ?_
                refine wl_guard_on rfl rfl rfl ?_
                refine wl_callw rfl cb99 rfl rfl (fun wx hm => (in_any _ _ _ wx)) ?_
                refine wl_guard_on rfl rfl rfl ?_
                refine wl_ov (ov_un_not rfl) rfl ?_
                refine wl_ov (ov_pick_f rfl rfl) rfl ?_
                refine wl_ov (ov_assign rfl) rfl ?_
                refine wl_nil ?_
                refine nx_then ?_
                refine gw_cond rfl (fun hh => ?_) (fun hh => ?_)
                · have h6 : (inB z0 1 6) = false := by simpa using hh
                  clear hh
                  refine gw_seq ?_
                  refine gw_region ?_
                  refine wl_ov (ov_assign rfl) rfl ?_
                  refine wl_nil ?_
                  refine nx_then ?_
                  refine gw_ret ?_
                  refine nx_blk_ret ?_
                  refine nx_blk_ret ?_
                  refine nx_then_ret ?_
                  refine nx_then_ret ?_
                  refine nx_blk_ret ?_
                  refine nx_blk_ret ?_
                  refine nx_then_ret ?_
                  refine nx_then_ret ?_
                  refine nx_blk_ret ?_
                  refine nx_then_ret ?_
                  have hE : onE (prevOf on q) z0 = 4 := by unfold onE; simp [h5, h6]
                  have hE2 : onsE on = 4 := by rw [hin.2, han, if_neg (by rw [hE]; decide), hE]
                  refine nx_ret1 rfl rfl fun wx hm => ?_
                  exact ⟨ret_int (by rw [hout.2, hat, if_neg (by rw [hEo, hE2]; decide), hEo, hE2]), hm.g⟩
                · have h6 : (inB z0 1 6) = true := by simpa using hh
                  clear hh
                  refine gw_seq ?_
                  refine gw_region ?_
                  by_cases hq0 : q = 0
                  · have hO : onB (prevOf on q) z0 = false := by rw [prevOf_zero hq0]; rfl
                    refine wl_ov (ov_move rfl) rfl ?_
                    refine wl_ov (ov_gtr rfl rfl) rfl ?_
                    refine wl_set 51 (v' := .bool false) rfl (congrArg Value.bool (decide_eq_false (by omega))) ?_
                    refine wl_ov (ov_move rfl) rfl ?_
                    refine wl_guard_off rfl rfl rfl (by decide) rfl ?_
                    refine wl_guard_off rfl rfl rfl (by decide) rfl ?_
                    refine wl_guard_off rfl rfl rfl (by decide) rfl ?_
                    refine wl_guard_off rfl rfl rfl (by decide) rfl ?_
                    refine wl_guard_off rfl rfl rfl (by decide) rfl ?_
                    refine wl_guard_off rfl rfl rfl (by decide) rfl ?_
                    refine wl_guard_off rfl rfl rfl (by decide) rfl ?_
                    refine wl_guard_off rfl rfl rfl (by decide) rfl ?_
                    refine wl_ov (ov_pick_f rfl rfl) rfl ?_
                    refine wl_ov (ov_assign rfl) rfl ?_
                    refine wl_nil ?_
                    refine nx_then ?_
                    refine gw_cond rfl (fun hh => by cases hh) (fun _ => ?_)
                    refine gw_skip ?_
                    refine nx_blk_nrm ?_
                    refine nx_blk_nrm ?_
                    refine nx_then ?_
                    refine gw_region ?_
                    refine wl_ov (ov_add rfl rfl (by omega) (by omega)) rfl ?_
                    refine wl_ov (ov_move rfl) rfl ?_
                    refine wl_nil ?_
                    have hE : onE (prevOf on q) z0 = 0 := by unfold onE; simp [h5, h6, hO]
                    exact nx_round (q + 1) ⟨by omega, by rw [hin.2, han, if_pos hE]⟩ (by omega) ⟨rfl, rfl, rfl, rfl, rfl, rfl, rfl, (some_int (by omega)), trivial⟩ (fun _ hm => hm.pick [0] [] [0, 1, 2] rfl rfl)
                  · obtain ⟨z1, hz⟩ : ∃ x, on[q - 1]? = some x := ⟨_, List.getElem?_eq_getElem (by omega)⟩
                    refine wl_ov (ov_move rfl) rfl ?_
                    refine wl_ov (ov_gtr rfl rfl) rfl ?_
                    refine wl_set 51 (v' := .bool true) rfl (congrArg Value.bool (decide_eq_true (by omega))) ?_
                    refine wl_ov (ov_move rfl) rfl ?_
                    refine wl_guard_on rfl rfl rfl ?_
                    refine wl_ov (ov_move rfl) rfl ?_
                    refine wl_guard_on rfl rfl rfl ?_
                    refine wl_ov (ov_field fo205_2 rfl rfl) rfl ?_
                    refine wl_guard_on rfl rfl rfl ?_
                    refine wl_ov (ov_load sc22 rfl (fun _ hm => hm.blkI 0 rfl) rfl) rfl ?_
                    refine wl_guard_on rfl rfl rfl ?_
                    refine wl_ov (ov_move rfl) rfl ?_
                    refine wl_guard_on rfl rfl rfl ?_
                    refine wl_ov (ov_sub rfl rfl (by omega) (by omega)) rfl ?_
                    refine wl_set 57 (v' := .int .i64 ((q - 1 : Nat) : Int)) rfl (congrArg (Value.int .i64) (by omega)) ?_
                    refine wl_guard_on rfl rfl rfl ?_
                    refine wl_ov (ov_index (j := q - 1) es22 rfl rfl (by omega)) rfl ?_
                    refine wl_guard_on rfl rfl rfl ?_
                    refine wl_ov (ov_elem1 (k := 0) (v := .int .i64 z1) sc3 rfl (fun _ hm => (hm.fact 0 rfl).1) hz rfl rfl) rfl ?_
                    refine wl_guard_on rfl rfl rfl ?_
                    refine wl_ov (ov_leq rfl rfl) rfl ?_
                    refine wl_ov (ov_pick_t rfl rfl) rfl ?_
                    refine wl_ov (ov_assign rfl) rfl ?_
                    refine wl_nil ?_
                    refine nx_then ?_
                    refine gw_cond rfl (fun hh => ?_) (fun hh => ?_)
                    · have h7 : z0 ≤ z1 := by simpa using hh
                      clear hh
                      refine gw_seq ?_
                      refine gw_region ?_
                      have hO : onB (prevOf on q) z0 = true := by rw [prevOf_pos hq0 hz]; exact decide_eq_true h7
                      refine wl_ov (ov_assign rfl) rfl ?_
                      refine wl_nil ?_
                      refine nx_then ?_
                      refine gw_ret ?_
                      refine nx_blk_ret ?_
                      refine nx_blk_ret ?_
                      refine nx_then_ret ?_
                      refine nx_then_ret ?_
                      refine nx_blk_ret ?_
                      refine nx_blk_ret ?_
                      refine nx_then_ret ?_
                      refine nx_then_ret ?_
                      refine nx_blk_ret ?_
                      refine nx_then_ret ?_
                      have hE : onE (prevOf on q) z0 = 7 := by unfold onE; simp [h5, h6, hO]
                      have hE2 : onsE on = 7 := by rw [hin.2, han, if_neg (by rw [hE]; decide), hE]
                      refine nx_ret1 rfl rfl fun wx hm => ?_
                      exact ⟨ret_int (by rw [hout.2, hat, if_neg (by rw [hEo, hE2]; decide), hEo, hE2]), hm.g⟩
                    · have h7 : ¬ (z0 ≤ z1) := by simpa using hh
                      clear hh
                      refine gw_skip ?_
                      refine nx_blk_nrm ?_
                      refine nx_blk_nrm ?_
                      refine nx_then ?_
                      refine gw_region ?_
                      have hO : onB (prevOf on q) z0 = false := by rw [prevOf_pos hq0 hz]; exact decide_eq_false h7
                      refine wl_ov (ov_add rfl rfl (by omega) (by omega)) rfl ?_
                      refine wl_ov (ov_move rfl) rfl ?_
                      refine wl_nil ?_
                      have hE : onE (prevOf on q) z0 = 0 := by unfold onE; simp [h5, h6, hO]
                      exact nx_round (q + 1) ⟨by omega, by rw [hin.2, han, if_pos hE]⟩ (by omega) ⟨rfl, rfl, rfl, rfl, rfl, rfl, rfl, (some_int (by omega)), trivial⟩ (fun _ hm => hm.pick [0] [] [0, 1, 2] rfl rfl)
            · have hq : ¬ (((q : Nat) : Int) < ((nt : Nat) : Int)) := by simpa using hh
              clear hh
              refine gw_exit ?_
              refine nx_then_exit ?_
              refine nx_then_exit ?_
              refine nx_blk_here ?_
              refine nx_blk_nrm ?_
              refine nx_then ?_
              refine gw_region ?_
              refine wl_ov (ov_add rfl rfl (by omega) (by omega)) rfl ?_
              refine wl_ov (ov_move rfl) rfl ?_
              refine wl_nil ?_
              have hE : taxE (l.take k) ⟨key, mi, At, nt, ct, on, ov⟩ = 0 := by rw [hEo, hin.2, scanE_end _ _ _ _ (by omega)]
              exact nx_round (k + 1) ⟨by omega, by rw [hout.2, hat, if_pos hE]⟩ (by omega) ⟨rfl, rfl, rfl, (some_int (by omega)), trivial⟩ (fun _ hm => hm.pick [] [] [1, 2] rfl rfl)
    · have hk : ¬ (((k : Nat) : Int) < ((n : Nat) : Int)) := by simpa using hh
      clear hh
      refine gw_exit ?_
      refine nx_then_exit ?_
      refine nx_then_exit ?_
      refine nx_blk_here ?_
      refine nx_then ?_
      refine gw_seq ?_
      refine gw_region ?_
      refine wl_ov (ov_assign rfl) rfl ?_
      refine wl_nil ?_
      refine nx_then ?_
      refine gw_ret ?_
      refine nx_ret1 rfl rfl fun wx hm => ?_
      exact ⟨ret_int (by rw [hinv.2, taxG_end (by omega)]), hm.g⟩

set_option maxRecDepth 100000 in
set_option maxHeartbeats 400000 in
theorem predTax_r (key : ByteArray) (mi : Int) (At : Option Addr) (nt ct : Nat) (on : List Int) (ov : Bool) (gk : Nat) (k0 : ByteArray) (k1 : Int) (k2 : Option Addr) (k3 k4 : Nat) (k5 : Bool) (w : World) (hk : Blk w gk 205 [.string k0, .int .i64 k1, .slice k2 k3 k4, .bool k5]) :
    Calls Tryd.prog 138 #[.agg #[.string key, .int .i64 mi, .slice At nt ct, .bool ov], .pointer (some ⟨gk, 0, none⟩)] w (fun e w' => e = .returned (.bool (taxP k0 ⟨key, mi, At, nt, ct, on, ov⟩)) ∧ w.grownBy w' none) := by
  refine gw_enter ⟨9, w, none, []⟩ Tryd.func138 rfl Tryd.ntmps138 rfl (mem0 (X := [BlkOld w.heap.size none gk 205 [.string k0, .int .i64 k1, .slice k2 k3 k4, .bool k5]]) (allF_cons hk.old allF_nil) (allL_cons BlkOld.lasts allL_nil)) ?_
  refine gw_seq ?_
  refine gw_region ?_
  refine wl_box rfl rfl rfl fun g1 => ?_
  refine wl_ov (ov_assign rfl) rfl ?_
  refine wl_nil ?_
  refine nx_then ?_
  refine gw_seq ?_
  refine gw_region ?_
  refine wl_ov (ov_field fo205_0 rfl rfl) rfl ?_
  refine wl_ov (ov_load sc9 rfl (fun _ hm => hm.blkI 0 rfl) rfl) rfl ?_
  refine wl_ov (ov_field fo205_0 rfl rfl) rfl ?_
  refine wl_ov (ov_load (v := .string k0) sc9 rfl (fun _ hm => (hm.fact 0 rfl).2) rfl) rfl ?_
  refine wl_ov (ov_seql rfl rfl) rfl ?_
  refine wl_ov (ov_assign rfl) rfl ?_
  refine wl_nil ?_
  refine nx_then ?_
  refine gw_ret ?_
  refine nx_ret1 rfl rfl fun wx hm => ?_
  exact ⟨rfl, hm.g⟩

set_option maxRecDepth 100000 in
set_option maxHeartbeats 400000 in
theorem indexTax_r (l : List Tx) (A : Option Addr) (n c0 : Nat) (gk : Nat) (k0 : ByteArray) (k1 : Int) (k2 : Option Addr) (k3 k4 : Nat) (k5 : Bool) (w : World) (hl : SlT txEnc 4 205 w A n l) (hn : n ≤ 1000000) (hk : Blk w gk 205 [.string k0, .int .i64 k1, .slice k2 k3 k4, .bool k5]) :
    Calls Tryd.prog 177 #[.slice A n c0, .func (.func 138) #[] #[.pointer (some ⟨gk, 0, none⟩)]] w (GotE w (ixP (taxP k0) l 0)) := by
  refine gw_enter ⟨19, w, none, []⟩ Tryd.func177 rfl Tryd.ntmps177 rfl (mem0 (X := [SlOld txEnc 4 205 w.heap.size none A n l, BlkOld w.heap.size none gk 205 [.string k0, .int .i64 k1, .slice k2 k3 k4, .bool k5]]) (allF_cons hl.old (allF_cons hk.old allF_nil)) (allL_cons SlOld.lasts (allL_cons BlkOld.lasts allL_nil))) ?_
  refine gw_seq ?_
  refine gw_region ?_
  have hlen := hl.len
  refine wl_ov (ov_assign rfl) rfl ?_
  refine wl_nil ?_
  refine nx_then ?_
  refine gw_seq ?_
  refine gw_seq ?_
  refine gw_region ?_
  refine wl_ov (ov_move rfl) rfl ?_
  refine wl_ov (ov_len es125 rfl) rfl ?_
  refine wl_ov (ov_move rfl) rfl ?_
  refine wl_nil ?_
  refine nx_then ?_
  refine gw_block ?_
  refine gw_loop (γ := Nat) (fun (i : Nat) => i ≤ n ∧ ixP (taxP k0) l 0 = ixP (taxP k0) (l.drop i) i) (fun (i : Nat) => [(0, .slice A n c0), (1, .func (.func 138) #[] #[.pointer (some ⟨gk, 0, none⟩)]), (7, .int .i64 ((n : Nat) : Int)), (8, .int .i64 ((i : Nat) : Int))]) (fun (i : Nat) => fun _ => True) (fun (i : Nat) => []) (fun (i : Nat) => []) (fun (i : Nat) => [SlOld txEnc 4 205 w.heap.size none A n l, BlkOld w.heap.size none gk 205 [.string k0, .int .i64 k1, .slice k2 k3 k4, .bool k5]]) (fun (i : Nat) => n - i) 0 ⟨Nat.zero_le _, rfl⟩ ⟨rfl, rfl, rfl, rfl, trivial⟩ (fun _ hm => hm.pick [] [] [0, 1] rfl rfl) ?_
  intro i hinv
  replace hinv : i ≤ n ∧ ixP (taxP k0) l 0 = ixP (taxP k0) (l.drop i) i := hinv
  refine gw_seq ?_
  refine gw_region ?_
  refine wl_ov (ov_lss rfl rfl) rfl ?_
  refine wl_nil ?_
  refine nx_then ?_
  refine gw_seq ?_
  refine gw_cond rfl (fun hh => ?_) (fun hh => ?_)
  · have hi : ((i : Nat) : Int) < ((n : Nat) : Int) := by simpa using hh
    clear hh
    refine gw_skip ?_
    refine nx_then ?_
    refine gw_seq ?_
    refine gw_block ?_
    refine gw_seq ?_
    refine gw_region ?_
    obtain ⟨b, off, hA, _, _⟩ := hl.get (by omega)
    subst hA
    obtain ⟨x, hx⟩ : ∃ x, l[i]? = some x := ⟨_, List.getElem?_eq_getElem (by omega)⟩
    obtain ⟨key, mi, At, nt, ct, on, ov⟩ := x
    have hat := ixP_at (p := taxP k0) hx
    refine wl_ov (ov_move rfl) rfl ?_
    refine wl_ov (ov_assign rfl) rfl ?_
    refine wl_nil ?_
    refine nx_then ?_
    refine gw_seq ?_
    refine gw_region ?_
    refine wl_ov (ov_move rfl) rfl ?_
    refine wl_ov (ov_move rfl) rfl ?_
    refine wl_ov (ov_move rfl) rfl ?_
    refine wl_ov (ov_index (j := i) es125 rfl rfl (by omega)) rfl ?_
    refine wl_ov (ov_elem (vs := [.string key, .int .i64 mi, .slice At nt ct, .bool ov]) rz205 rfl (fun _ hm => (hm.fact 0 rfl).1) hx rfl rfl) rfl ?_
    refine wl_callv rfl cb138 rfl rfl (fun wx hm => (predTax_r key mi At nt ct on ov gk k0 k1 k2 k3 k4 k5 wx (hm.fact 1 rfl).2)) ?_
    refine wl_nil ?_
    refine nx_then ?_
    refine gw_cond rfl (fun hh => ?_) (fun hh => ?_)
    · have hq : (taxP k0 ⟨key, mi, At, nt, ct, on, ov⟩) = true := by simpa using hh
      clear hh
      refine gw_seq ?_
      refine gw_region ?_
      refine wl_ov (ov_move rfl) rfl ?_
      refine wl_ov (ov_assign rfl) rfl ?_
      refine wl_nil ?_
      refine nx_then ?_
      refine gw_ret ?_
      refine nx_blk_ret ?_
      refine nx_then_ret ?_
      refine nx_then_ret ?_
      refine nx_blk_ret ?_
      refine nx_then_ret ?_
      refine nx_ret1 rfl rfl fun wx hm => ?_
      exact ⟨ret_int (by rw [hinv.2, hat, if_pos hq]), hm.g⟩
    · have hq : (taxP k0 ⟨key, mi, At, nt, ct, on, ov⟩) = false := by simpa using hh
      clear hh
      refine gw_skip ?_
      refine nx_blk_nrm ?_
      refine nx_then ?_
      refine gw_region ?_
      refine wl_ov (ov_add rfl rfl (by omega) (by omega)) rfl ?_
      refine wl_ov (ov_move rfl) rfl ?_
      refine wl_nil ?_
      exact nx_round (i + 1) ⟨by omega, by rw [hinv.2, hat, if_neg (by rw [hq]; decide)]⟩ (by omega) ⟨rfl, rfl, rfl, (some_int (by omega)), trivial⟩ (fun _ hm => hm.pick [] [] [0, 1] rfl rfl)
  · have hi : ¬ (((i : Nat) : Int) < ((n : Nat) : Int)) := by simpa using hh
    clear hh
    refine gw_exit ?_
    refine nx_then_exit ?_
    refine nx_then_exit ?_
    refine nx_blk_here ?_
    refine nx_then ?_
    refine gw_seq ?_
    refine gw_region ?_
    refine wl_ov (ov_assign rfl) rfl ?_
    refine wl_set 4 (v' := .int .i64 (-1)) rfl rfl ?_
    refine wl_nil ?_
    refine nx_then ?_
    refine gw_ret ?_
    refine nx_ret1 rfl rfl fun wx hm => ?_
    exact ⟨ret_int (by rw [hinv.2, List.drop_eq_nil_of_le (by omega)]; rfl), hm.g⟩

set_option maxRecDepth 100000 in
set_option maxHeartbeats 400000 in
theorem hasTax_r (l : List Tx) (A : Option Addr) (n c0 : Nat) (gk : Nat) (k0 : ByteArray) (k1 : Int) (k2 : Option Addr) (k3 k4 : Nat) (k5 : Bool) (w : World) (hl : SlT txEnc 4 205 w A n l) (hn : n ≤ 1000000) (hk : Blk w gk 205 [.string k0, .int .i64 k1, .slice k2 k3 k4, .bool k5]) :
    Calls Tryd.prog 137 #[.slice A n c0, .func (.func 138) #[] #[.pointer (some ⟨gk, 0, none⟩)]] w (fun e w' => e = .returned (.bool (l.any (taxP k0))) ∧ w.grownBy w' none) := by
  refine gw_enter ⟨9, w, none, []⟩ Tryd.func137 rfl Tryd.ntmps137 rfl (mem0 (X := [SlOld txEnc 4 205 w.heap.size none A n l, BlkOld w.heap.size none gk 205 [.string k0, .int .i64 k1, .slice k2 k3 k4, .bool k5]]) (allF_cons hl.old (allF_cons hk.old allF_nil)) (allL_cons SlOld.lasts (allL_cons BlkOld.lasts allL_nil))) ?_
  refine gw_seq ?_
  refine gw_region ?_
  refine wl_ov (ov_assign rfl) rfl ?_
  refine wl_nil ?_
  refine nx_then ?_
  refine gw_seq ?_
  refine gw_region ?_
  refine wl_ov (ov_move rfl) rfl ?_
  refine wl_ov (ov_move rfl) rfl ?_
  refine wl_callv rfl cb177 rfl rfl (fun wx hm => (indexTax_r l A n c0 gk k0 k1 k2 k3 k4 k5 wx (hm.fact 0 rfl).1 hn (hm.fact 1 rfl).2)) ?_
  refine wl_ov (ov_geq rfl rfl) rfl ?_
  refine wl_ov (ov_assign rfl) rfl ?_
  refine wl_nil ?_
  refine nx_then ?_
  refine gw_ret ?_
  refine nx_ret1 rfl rfl fun wx hm => ?_
  exact ⟨by rw [← ix_any], hm.g⟩

set_option maxRecDepth 100000 in
set_option maxHeartbeats 1000000 in
theorem taxesFault_any (l : List Tx) (A : Option Addr) (n c0 : Nat) (w : World) (hl : SlT txEnc 4 205 w A n l) (hg : Ons l w) (hok : ∀ x ∈ l, TxOk x) (hn : n ≤ 1000000) (hc : n ≤ c0) :
    Calls Tryd.prog 78 #[.slice A n c0] w (GotE w (taxesE l)) := by
  refine gw_enter ⟨62, w, none, []⟩ Tryd.func78 rfl Tryd.ntmps78 rfl (mem0 (X := [SlOld txEnc 4 205 w.heap.size none A n l, OnsOld w.heap.size none l]) (allF_cons hl.old (allF_cons hg.old allF_nil)) (allL_cons SlOld.lasts (allL_cons OnsOld.lasts allL_nil))) ?_
  refine gw_seq ?_
  refine gw_region ?_
  have hlen := hl.len
  refine wl_ov (ov_assign rfl) rfl ?_
  refine wl_nil ?_
  refine nx_then ?_
  refine gw_seq ?_
  refine gw_seq ?_
  refine gw_region ?_
  refine wl_ov (ov_move rfl) rfl ?_
  refine wl_ov (ov_len es125 rfl) rfl ?_
  refine wl_ov (ov_gtr rfl rfl) rfl ?_
  refine wl_nil ?_
  refine nx_then ?_
  refine gw_cond rfl (fun hh => ?_) (fun hh => ?_)
  · have h1 : 10 < ((n : Nat) : Int) := by simpa using hh
    clear hh
    refine gw_seq ?_
    refine gw_region ?_
    refine wl_ov (ov_assign rfl) rfl ?_
    refine wl_nil ?_
    refine nx_then ?_
    refine gw_ret ?_
    refine nx_then_ret ?_
    refine nx_ret1 rfl rfl fun wx hm => ?_
    exact ⟨ret_int (by unfold taxesE; rw [if_pos (by omega)]), hm.g⟩
  · have h1 : ¬ (10 < ((n : Nat) : Int)) := by simpa using hh
    clear hh
    refine gw_skip ?_
    refine nx_then ?_
    refine gw_seq ?_
    refine gw_seq ?_
    refine gw_region ?_
    refine wl_ov (ov_move rfl) rfl ?_
    refine wl_ov (ov_len es125 rfl) rfl ?_
    refine wl_ov (ov_move rfl) rfl ?_
    refine wl_nil ?_
    refine nx_then ?_
    refine gw_block ?_
    obtain ⟨TE, hTE⟩ : ∃ E, E = taxesE l := ⟨_, rfl⟩
    rw [← hTE]
    refine gw_loop (γ := Nat) (fun (k : Nat) => k ≤ n ∧ TE = taxG (l.take k) (l.drop k)) (fun (k : Nat) => [(0, .slice A n c0), (10, .slice A n c0), (11, .int .i64 ((n : Nat) : Int)), (12, .int .i64 ((k : Nat) : Int))]) (fun (k : Nat) => fun _ => True) (fun (k : Nat) => []) (fun (k : Nat) => []) (fun (k : Nat) => [SlOld txEnc 4 205 w.heap.size none A n l, OnsOld w.heap.size none l]) (fun (k : Nat) => n - k) 0 ⟨Nat.zero_le _, by rw [hTE]; unfold taxesE; rw [if_neg (by omega)]; rfl⟩ ⟨rfl, rfl, rfl, rfl, trivial⟩ (fun _ hm => hm.pick [] [] [0, 1] rfl rfl) ?_
    intro k hinv
    replace hinv : k ≤ n ∧ TE = taxG (l.take k) (l.drop k) := hinv
    refine gw_seq ?_
    refine gw_region ?_
    refine wl_ov (ov_lss rfl rfl) rfl ?_
    refine wl_nil ?_
    refine nx_then ?_
    refine gw_seq ?_
    refine gw_cond rfl (fun hh => ?_) (fun hh => ?_)
    · have hk : ((k : Nat) : Int) < ((n : Nat) : Int) := by simpa using hh
      clear hh
      refine gw_skip ?_
      refine nx_then ?_
      refine gw_seq ?_
      refine gw_block ?_
      refine gw_seq ?_
      refine gw_region ?_
      obtain ⟨b, off, hA, _, _⟩ := hl.get (by omega)
      subst hA
      obtain ⟨x, hx⟩ : ∃ x, l[k]? = some x := ⟨_, List.getElem?_eq_getElem (by omega)⟩
      obtain ⟨key, mi, At, nt, ct, on, ov⟩ := x
      have hat := taxG_at hx
      obtain ⟨hk1, hnt⟩ := hok _ (List.mem_of_getElem? hx)
      have hk1 : key.size ≤ 1000000 := hk1
      have hnt : nt ≤ 1000 := hnt
      have hout := hinv
      refine wl_ov (ov_move rfl) rfl ?_
      refine wl_ov (ov_index (j := k) es125 rfl rfl (by omega)) rfl ?_
      refine wl_ov (ov_elem (vs := [.string key, .int .i64 mi, .slice At nt ct, .bool ov]) rz205 rfl (fun _ hm => (hm.fact 0 rfl).1) hx rfl rfl) rfl ?_
      refine wl_alloc zc205 rfl fun g1 => ?_
      refine wl_ov (ov_assign rfl) rfl ?_
      refine wl_stores (cs' := [.string key, .int .i64 mi, .slice At nt ct, .bool ov]) 0 rz205 rfl rfl rfl rfl rfl rfl rfl rfl ?_
      refine wl_nil ?_
      refine nx_then ?_
      refine gw_seq ?_
      refine gw_block ?_
      refine gw_seq ?_
      refine gw_region ?_
      refine wl_ov (ov_field fo205_0 rfl rfl) rfl ?_
      refine wl_ov (ov_load sc9 rfl (fun _ hm => hm.blkI 0 rfl) rfl) rfl ?_
      refine wl_callv rfl cb90 rfl rfl (fun wx hm => (key_any _ wx (by omega))) ?_
      refine wl_ov (ov_un_not rfl) rfl ?_
      refine wl_ov (ov_assign rfl) rfl ?_
      refine wl_nil ?_
      refine nx_then ?_
      refine gw_cond rfl (fun hh => ?_) (fun hh => ?_)
      · have h2 : (keyB key) = false := by simpa using hh
        clear hh
        refine gw_seq ?_
        refine gw_region ?_
        refine wl_ov (ov_assign rfl) rfl ?_
        refine wl_nil ?_
        refine nx_then ?_
        refine gw_ret ?_
        refine nx_blk_ret ?_
        refine nx_then_ret ?_
        refine nx_blk_ret ?_
        refine nx_then_ret ?_
        refine nx_then_ret ?_
        refine nx_blk_ret ?_
        refine nx_then_ret ?_
        have hE : taxE (l.take k) ⟨key, mi, At, nt, ct, on, ov⟩ = 5 := by unfold taxE; simp [h2]
        refine nx_ret1 rfl rfl fun wx hm => ?_
        exact ⟨ret_int (by rw [hout.2, hat, if_neg (by rw [hE]; decide), hE]), hm.g⟩
      · have h2 : (keyB key) = true := by simpa using hh
        clear hh
        refine gw_seq ?_
        refine gw_region ?_
        refine wl_ov (ov_move rfl) rfl ?_
        refine wl_ov (ov_move rfl) rfl ?_
        refine wl_ov (ov_sliceHi (hi := k) es125 rfl rfl rfl (by omega)) rfl ?_
        refine wl_ov (ov_makeFunc rfl rfl) rfl ?_
        refine wl_callv rfl cb137 rfl rfl (fun wx hm => (hasTax_r (l.take k) _ k c0 _ _ _ _ _ _ _ wx (SlT.takeT (hm.fact 0 rfl).1 (by omega)) (by omega) (hm.blkI 0 rfl))) ?_
        refine wl_ov (ov_assign rfl) rfl ?_
        refine wl_nil ?_
        refine nx_then ?_
        refine gw_cond rfl (fun hh => ?_) (fun hh => ?_)
        · have h3 : ((l.take k).any (taxP key)) = true := by simpa using hh
          clear hh
          refine gw_seq ?_
          refine gw_region ?_
          refine wl_ov (ov_assign rfl) rfl ?_
          refine wl_nil ?_
          refine nx_then ?_
          refine gw_ret ?_
          refine nx_blk_ret ?_
          refine nx_then_ret ?_
          refine nx_blk_ret ?_
          refine nx_then_ret ?_
          refine nx_then_ret ?_
          refine nx_blk_ret ?_
          refine nx_then_ret ?_
          have hE : taxE (l.take k) ⟨key, mi, At, nt, ct, on, ov⟩ = 6 := by unfold taxE; simp [h2, h3]
          refine nx_ret1 rfl rfl fun wx hm => ?_
          exact ⟨ret_int (by rw [hout.2, hat, if_neg (by rw [hE]; decide), hE]), hm.g⟩
        · have h3 : ((l.take k).any (taxP key)) = false := by simpa using hh
          clear hh
          refine gw_seq ?_
          refine gw_region ?_
          refine wl_ov (ov_field fo205_1 rfl rfl) rfl ?_
          refine wl_ov (ov_load sc3 rfl (fun _ hm => hm.blkI 0 rfl) rfl) rfl ?_
          refine wl_callw rfl cb91 rfl rfl (fun wx hm => (rin_any _ _ _ wx)) ?_
          refine wl_ov (ov_un_not rfl) rfl ?_
          refine wl_ov (ov_assign rfl) rfl ?_
          refine wl_nil ?_
          refine nx_then ?_
          refine gw_cond rfl (fun hh => ?_) (fun hh => ?_)
          · have h4 : (inB mi 0 1000) = false := by simpa using hh
            clear hh
            refine gw_seq ?_
            refine gw_region ?_
            refine wl_ov (ov_assign rfl) rfl ?_
            refine wl_nil ?_
            refine nx_then ?_
            refine gw_ret ?_
            refine nx_blk_ret ?_
            refine nx_then_ret ?_
            refine nx_blk_ret ?_
            refine nx_then_ret ?_
            refine nx_then_ret ?_
            refine nx_blk_ret ?_
            refine nx_then_ret ?_
            have hE : taxE (l.take k) ⟨key, mi, At, nt, ct, on, ov⟩ = 1 := by unfold taxE; simp [h2, h3, h4]
            refine nx_ret1 rfl rfl fun wx hm => ?_
            exact ⟨ret_int (by rw [hout.2, hat, if_neg (by rw [hE]; decide), hE]), hm.g⟩
          · have h4 : (inB mi 0 1000) = true := by simpa using hh
            clear hh
            refine gw_skip ?_
            refine nx_blk_nrm ?_
            refine nx_then ?_
            refine gw_seq ?_
            refine gw_region ?_
            have hEo : taxE (l.take k) ⟨key, mi, At, nt, ct, on, ov⟩ = onsE on := by unfold taxE; simp [h2, h3, h4]
            refine wl_also (Y := SlOld itEnc 1 3 w.heap.size none At nt on) (SlOld.lasts) (fun wx hm => (hm.fact 1 rfl) _ (List.mem_of_getElem? hx)) ?_
            refine wl_look (R := on.length = nt) (fun wx hm => ((hm.fact 0 rfl)).1.len) ?_
            intro hol
            refine wl_ov (ov_field fo205_2 rfl rfl) rfl ?_
            refine wl_ov (ov_load sc22 rfl (fun _ hm => hm.blkI 0 rfl) rfl) rfl ?_
            refine wl_ov (ov_len es22 rfl) rfl ?_
            refine wl_ov (ov_move rfl) rfl ?_
            refine wl_nil ?_
            refine nx_then ?_
            refine gw_block ?_
            refine gw_loop (γ := Nat) (fun (q : Nat) => q ≤ nt ∧ onsE on = scanE onE (prevOf on q) (on.drop q)) (fun (q : Nat) => [(0, .slice (some ⟨b, off, none⟩) n c0), (4, .pointer (some ⟨g1, 0, none⟩)), (10, .slice (some ⟨b, off, none⟩) n c0), (11, .int .i64 ((n : Nat) : Int)), (12, .int .i64 ((k : Nat) : Int)), (34, .slice At nt ct), (35, .int .i64 ((nt : Nat) : Int)), (36, .int .i64 ((q : Nat) : Int))]) (fun (q : Nat) => fun _ => True) (fun (q : Nat) => [(g1, 205, [.string key, .int .i64 mi, .slice At nt ct, .bool ov])]) (fun (q : Nat) => []) (fun (q : Nat) => [SlOld itEnc 1 3 w.heap.size none At nt on, SlOld txEnc 4 205 w.heap.size none (some ⟨b, off, none⟩) n l, OnsOld w.heap.size none l]) (fun (q : Nat) => nt - q) 0 ⟨Nat.zero_le _, rfl⟩ ⟨rfl, rfl, rfl, rfl, rfl, rfl, rfl, rfl, trivial⟩ (fun _ hm => hm.pick [0] [] [0, 1, 2] rfl rfl) ?_
            intro q hinv
            replace hinv : q ≤ nt ∧ onsE on = scanE onE (prevOf on q) (on.drop q) := hinv
            refine gw_seq ?_
            refine gw_region ?_
            have hin := hinv
            refine wl_ov (ov_lss rfl rfl) rfl ?_
            refine wl_nil ?_
            refine nx_then ?_
            refine gw_seq ?_
            refine gw_cond rfl (fun hh => ?_) (fun hh => ?_)
            · have hq : ((q : Nat) : Int) < ((nt : Nat) : Int) := by simpa using hh
              clear hh
              refine gw_skip ?_
              refine nx_then ?_
              refine gw_seq ?_
              refine gw_block ?_
              refine gw_seq ?_
              refine gw_region ?_
              refine wl_look (R := SlT itEnc 1 3 w At nt on) (fun wx hm => hg _ (List.mem_of_getElem? hx)) ?_
              intro hso
              obtain ⟨b2, o2, hA, _, _⟩ := hso.get (by omega)
              subst hA
              obtain ⟨z0, hy⟩ : ∃ x, on[q]? = some x := ⟨_, List.getElem?_eq_getElem (by omega)⟩
              have han := scanE_at onE on q _ hy
              refine wl_ov (ov_move rfl) rfl ?_
              refine wl_ov (ov_index (j := q) es22 rfl rfl (by omega)) rfl ?_
              refine wl_ov (ov_elem1 (k := 0) (v := .int .i64 z0) sc3 rfl (fun _ hm => (hm.fact 0 rfl).1) hy rfl rfl) rfl ?_
              refine wl_ov (ov_assign rfl) rfl ?_
              refine wl_ov (ov_assign rfl) rfl ?_
              refine wl_nil ?_
              refine nx_then ?_
              refine gw_seq ?_
              refine gw_seq ?_
              refine gw_region ?_
              refine wl_ov (ov_move rfl) rfl ?_
              refine wl_callw rfl cb91 rfl rfl (fun wx hm => (rin_any _ _ _ wx)) ?_
              refine wl_ov (ov_un_not rfl) rfl ?_
              refine wl_ov (ov_move rfl) rfl ?_
              rcases Bool.eq_false_or_eq_true (!(inB z0 1 6)) with h5 | h5
              · refine wl_set 44 rfl (congrArg Value.bool h5) ?_
                refine wl_guard_off rfl rfl rfl (by decide) rfl ?_
                refine wl_guard_off rfl rfl rfl (by decide) rfl ?_
                refine wl_ov (ov_pick_t rfl rfl) rfl ?_
                refine wl_nil ?_
                refine nx_then ?_
                refine gw_cond rfl (fun _ => ?_) (fun hh => by cases hh)
                refine gw_seq ?_
                refine gw_region ?_
                refine wl_ov (ov_assign rfl) rfl ?_
                refine wl_nil ?_
                refine nx_then ?_
                refine gw_ret ?_
                refine nx_then_ret ?_
                refine nx_blk_ret ?_
                refine nx_then_ret ?_
                refine nx_then_ret ?_
                refine nx_blk_ret ?_
                refine nx_blk_ret ?_
                refine nx_then_ret ?_
                refine nx_then_ret ?_
                refine nx_blk_ret ?_
                refine nx_then_ret ?_
                have hE : onE (prevOf on q) z0 = 4 := by unfold onE; simp [h5]
                have hE2 : onsE on = 4 := by rw [hin.2, han, if_neg (by rw [hE]; decide), hE]
                refine nx_ret1 rfl rfl fun wx hm => ?_
                exact ⟨ret_int (by rw [hout.2, hat, if_neg (by rw [hEo, hE2]; decide), hEo, hE2]), hm.g⟩
              · refine wl_set 44 rfl (congrArg Value.bool h5) ?_
                refine wl_guard_on rfl rfl rfl ?_
                refine wl_ov (ov_move rfl) rfl ?_
                refine wl_guard_on rfl rfl rfl ?_
                refine wl_ov (ov_eql rfl rfl) rfl ?_
                refine wl_ov (ov_pick_f rfl rfl) rfl ?_
                refine wl_nil ?_
                refine nx_then ?_
                refine gw_cond rfl (fun hh => ?_) (fun hh => ?_)
                · have h6 : z0 = 5 := by simpa using hh
                  clear hh
                  refine gw_seq ?_
                  refine gw_region ?_
                  refine wl_ov (ov_assign rfl) rfl ?_
                  refine wl_nil ?_
                  refine nx_then ?_
                  refine gw_ret ?_
                  refine nx_then_ret ?_
                  refine nx_blk_ret ?_
                  refine nx_then_ret ?_
                  refine nx_then_ret ?_
                  refine nx_blk_ret ?_
                  refine nx_blk_ret ?_
                  refine nx_then_ret ?_
                  refine nx_then_ret ?_
                  refine nx_blk_ret ?_
                  refine nx_then_ret ?_
                  have hE : onE (prevOf on q) z0 = 4 := by unfold onE; simp [h6]
                  have hE2 : onsE on = 4 := by rw [hin.2, han, if_neg (by rw [hE]; decide), hE]
                  refine nx_ret1 rfl rfl fun wx hm => ?_
                  exact ⟨ret_int (by rw [hout.2, hat, if_neg (by rw [hEo, hE2]; decide), hEo, hE2]), hm.g⟩
                · have h6 : ¬ (z0 = 5) := by simpa using hh
                  clear hh
                  refine gw_skip ?_
                  refine nx_then ?_
                  refine gw_seq ?_
                  refine gw_region ?_
                  by_cases hq0 : q = 0
                  · have hO : onB (prevOf on q) z0 = false := by rw [prevOf_zero hq0]; rfl
                    refine wl_ov (ov_move rfl) rfl ?_
                    refine wl_ov (ov_gtr rfl rfl) rfl ?_
                    refine wl_set 49 (v' := .bool false) rfl (congrArg Value.bool (decide_eq_false (by omega))) ?_
                    refine wl_ov (ov_move rfl) rfl ?_
                    refine wl_guard_off rfl rfl rfl (by decide) rfl ?_
                    refine wl_guard_off rfl rfl rfl (by decide) rfl ?_
                    refine wl_guard_off rfl rfl rfl (by decide) rfl ?_
                    refine wl_guard_off rfl rfl rfl (by decide) rfl ?_
                    refine wl_guard_off rfl rfl rfl (by decide) rfl ?_
                    refine wl_guard_off rfl rfl rfl (by decide) rfl ?_
                    refine wl_guard_off rfl rfl rfl (by decide) rfl ?_
                    refine wl_guard_off rfl rfl rfl (by decide) rfl ?_
                    refine wl_ov (ov_pick_f rfl rfl) rfl ?_
                    refine wl_nil ?_
                    refine nx_then ?_
                    refine gw_cond rfl (fun hh => by cases hh) (fun _ => ?_)
                    refine gw_skip ?_
                    refine nx_blk_nrm ?_
                    refine nx_then ?_
                    refine gw_region ?_
                    refine wl_ov (ov_add rfl rfl (by omega) (by omega)) rfl ?_
                    refine wl_ov (ov_move rfl) rfl ?_
                    refine wl_nil ?_
                    have hE : onE (prevOf on q) z0 = 0 := by unfold onE; simp [h5, h6, hO]
                    exact nx_round (q + 1) ⟨by omega, by rw [hin.2, han, if_pos hE]⟩ (by omega) ⟨rfl, rfl, rfl, rfl, rfl, rfl, rfl, (some_int (by omega)), trivial⟩ (fun _ hm => hm.pick [0] [] [0, 1, 2] rfl rfl)
                  · obtain ⟨z1, hz⟩ : ∃ x, on[q - 1]? = some x := ⟨_, List.getElem?_eq_getElem (by omega)⟩
                    refine wl_ov (ov_move rfl) rfl ?_
                    refine wl_ov (ov_gtr rfl rfl) rfl ?_
                    refine wl_set 49 (v' := .bool true) rfl (congrArg Value.bool (decide_eq_true (by omega))) ?_
                    refine wl_ov (ov_move rfl) rfl ?_
                    refine wl_guard_on rfl rfl rfl ?_
                    refine wl_ov (ov_move rfl) rfl ?_
                    refine wl_guard_on rfl rfl rfl ?_
                    refine wl_ov (ov_field fo205_2 rfl rfl) rfl ?_
                    refine wl_guard_on rfl rfl rfl ?_
                    refine wl_ov (ov_load sc22 rfl (fun _ hm => hm.blkI 0 rfl) rfl) rfl ?_
                    refine wl_guard_on rfl rfl rfl ?_
                    refine wl_ov (ov_move rfl) rfl ?_
                    refine wl_guard_on rfl rfl rfl ?_
                    refine wl_ov (ov_sub rfl rfl (by omega) (by omega)) rfl ?_
                    refine wl_set 55 (v' := .int .i64 ((q - 1 : Nat) : Int)) rfl (congrArg (Value.int .i64) (by omega)) ?_
                    refine wl_guard_on rfl rfl rfl ?_
                    refine wl_ov (ov_index (j := q - 1) es22 rfl rfl (by omega)) rfl ?_
                    refine wl_guard_on rfl rfl rfl ?_
                    refine wl_ov (ov_elem1 (k := 0) (v := .int .i64 z1) sc3 rfl (fun _ hm => (hm.fact 0 rfl).1) hz rfl rfl) rfl ?_
                    refine wl_guard_on rfl rfl rfl ?_
                    refine wl_ov (ov_leq rfl rfl) rfl ?_
                    refine wl_ov (ov_pick_t rfl rfl) rfl ?_
                    refine wl_nil ?_
                    refine nx_then ?_
                    refine gw_cond rfl (fun hh => ?_) (fun hh => ?_)
                    · have h7 : z0 ≤ z1 := by simpa using hh
                      clear hh
                      refine gw_seq ?_
                      refine gw_region ?_
                      have hO : onB (prevOf on q) z0 = true := by rw [prevOf_pos hq0 hz]; exact decide_eq_true h7
                      refine wl_ov (ov_assign rfl) rfl ?_
                      refine wl_nil ?_
                      refine nx_then ?_
                      refine gw_ret ?_
                      refine nx_blk_ret ?_
                      refine nx_then_ret ?_
                      refine nx_then_ret ?_
                      refine nx_blk_ret ?_
                      refine nx_blk_ret ?_
                      refine nx_then_ret ?_
                      refine nx_then_ret ?_
                      refine nx_blk_ret ?_
                      refine nx_then_ret ?_
                      have hE : onE (prevOf on q) z0 = 7 := by unfold onE; simp [h5, h6, hO]
                      have hE2 : onsE on = 7 := by rw [hin.2, han, if_neg (by rw [hE]; decide), hE]
                      refine nx_ret1 rfl rfl fun wx hm => ?_
                      exact ⟨ret_int (by rw [hout.2, hat, if_neg (by rw [hEo, hE2]; decide), hEo, hE2]), hm.g⟩
                    · have h7 : ¬ (z0 ≤ z1) := by simpa using hh
                      clear hh
                      refine gw_skip ?_
                      refine nx_blk_nrm ?_
                      refine nx_then ?_
                      refine gw_region ?_
                      have hO : onB (prevOf on q) z0 = false := by rw [prevOf_pos hq0 hz]; exact decide_eq_false h7
                      refine wl_ov (ov_add rfl rfl (by omega) (by omega)) rfl ?_
                      refine wl_ov (ov_move rfl) rfl ?_
                      refine wl_nil ?_
                      have hE : onE (prevOf on q) z0 = 0 := by unfold onE; simp [h5, h6, hO]
                      exact nx_round (q + 1) ⟨by omega, by rw [hin.2, han, if_pos hE]⟩ (by omega) ⟨rfl, rfl, rfl, rfl, rfl, rfl, rfl, (some_int (by omega)), trivial⟩ (fun _ hm => hm.pick [0] [] [0, 1, 2] rfl rfl)
            · have hq : ¬ (((q : Nat) : Int) < ((nt : Nat) : Int)) := by simpa using hh
              clear hh
              refine gw_exit ?_
              refine nx_then_exit ?_
              refine nx_then_exit ?_
              refine nx_blk_here ?_
              refine nx_blk_nrm ?_
              refine nx_then ?_
              refine gw_region ?_
              refine wl_ov (ov_add rfl rfl (by omega) (by omega)) rfl ?_
              refine wl_ov (ov_move rfl) rfl ?_
              refine wl_nil ?_
              have hE : taxE (l.take k) ⟨key, mi, At, nt, ct, on, ov⟩ = 0 := by rw [hEo, hin.2, scanE_end _ _ _ _ (by omega)]
              exact nx_round (k + 1) ⟨by omega, by rw [hout.2, hat, if_pos hE]⟩ (by omega) ⟨rfl, rfl, rfl, (some_int (by omega)), trivial⟩ (fun _ hm => hm.pick [] [] [1, 2] rfl rfl)
    · have hk : ¬ (((k : Nat) : Int) < ((n : Nat) : Int)) := by simpa using hh
      clear hh
      refine gw_exit ?_
      refine nx_then_exit ?_
      refine nx_then_exit ?_
      refine nx_blk_here ?_
      refine nx_then ?_
      refine gw_seq ?_
      refine gw_region ?_
      refine wl_ov (ov_assign rfl) rfl ?_
      refine wl_nil ?_
      refine nx_then ?_
      refine gw_ret ?_
      refine nx_ret1 rfl rfl fun wx hm => ?_
      exact ⟨ret_int (by rw [hinv.2, taxG_end (by omega)]), hm.g⟩

end Go.Proofs.YtmpomocahgcebaaDoor
