/- Fees: the checks, FeeOf, FeeFrom, the generator. -/
import Derived.Test.YtmpomocahgcebaaDoorTo
namespace Go.Proofs.YtmpomocahgcebaaDoor
open Go.RowKit

structure Fe where
  a : ByteArray
  b : ByteArray
  cents : Int
def feEnc (x : Fe) : List Value := [.string x.a, .string x.b, .int .i64 x.cents]
theorem fee_len (x : Fe) : (feEnc x).length = 3 := rfl
def FeOk (x : Fe) : Prop := x.a.size ≤ 1000000 ∧ x.b.size ≤ 1000000
def feLt (q r : Fe) : Bool := ltS q.a r.a || (eqS q.a r.a && ltS q.b r.b)
def leFe (p : Option Fe) (x : Fe) : Bool := match p with
  | none => false
  | some q => !feLt q x
def feeE (p : Option Fe) (x : Fe) : Int :=
  if keyB x.a = false then 5 else if keyB x.b = false then 5 else if (x.a.toList == x.b.toList) = true then 14 else
  if leFe p x = true then 7 else if inB x.cents 0 1000000 = false then 1 else 0
def feesE (l : List Fe) : Int := if 500 < l.length then 2 else scanE feeE none l
theorem feesE_ok {l : List Fe} (h : feesE l = 0) : l.length ≤ 500 ∧ ∀ x ∈ l, (x.a.toList == x.b.toList) = false ∧ 0 ≤ x.cents ∧ x.cents ≤ 1000000 := by
  unfold feesE at h
  split at h
  · cases h
  · refine ⟨by omega, fun x hx => ?_⟩
    obtain ⟨q, hq⟩ := scan_each h x hx
    unfold feeE at hq
    repeat (split at hq; · cases hq)
    rename_i h1 h2 h3 h4 h5
    exact ⟨by simpa using h3, inB_iff.1 (by simpa using h5)⟩
theorem cmpS_lt {a b : ByteArray} : (0 ≤ cmpS a b) ↔ ltS a b = false := by
  unfold cmpS ltS
  cases h : Go.Op.bytesLess a.toList b.toList
  · by_cases e : (a.toList == b.toList) = true
    · rw [e]; simp
    · have e : (a.toList == b.toList) = false := by simpa using e
      rw [e]; simp
  · simp
theorem or_fe (q r : Fe) : 0 ≤ firstE [cmpS q.a r.a, cmpS q.b r.b] ↔ feLt q r = false := by
  unfold feLt eqS
  rw [firstE_pair]
  by_cases h : cmpS q.a r.a = 0
  · rw [if_pos h]
    obtain ⟨h1, h2⟩ := cmpS_zero.1 h
    rw [cmpS_lt, h2]
    unfold ltS
    rw [h2, bl_irrefl]; simp
  · rw [if_neg h, cmpS_lt]
    have hne : (q.a.toList == r.a.toList) = false ∨ ltS q.a r.a = true := by
      cases h1 : ltS q.a r.a
      · left
        cases h2 : (q.a.toList == r.a.toList)
        · rfl
        · exact absurd (cmpS_zero.2 ⟨h1, by simpa using h2⟩) h
      · exact .inr rfl
    rcases hne with h1 | h1
    · rw [h1]; simp
    · rw [h1]; simp
theorem lt_fe (q r : Fe) : (Go.Op.bytesLess r.a.toList q.a.toList || (r.a.toList == q.a.toList && (Go.Op.bytesLess r.b.toList q.b.toList || r.b.toList == q.b.toList))) = !feLt q r := by
  have key : ∀ x y : ByteArray, (Go.Op.bytesLess x.toList y.toList || x.toList == y.toList) = !ltS y x := fun x y => by
    unfold ltS
    cases h1 : Go.Op.bytesLess x.toList y.toList
    · cases h2 : Go.Op.bytesLess y.toList x.toList
      · rw [bl_tri h1 h2]; simp
      · have e := bl_ne h2
        have e2 : (x.toList == y.toList) = false := by simpa using fun h => e h.symm
        rw [e2]; rfl
    · rw [bl_asymm h1]; rfl
  unfold feLt eqS
  rw [key r.b q.b]
  unfold ltS
  cases h1 : Go.Op.bytesLess r.a.toList q.a.toList
  · cases h2 : Go.Op.bytesLess q.a.toList r.a.toList
    · rw [bl_tri h1 h2]; simp
    · have e := bl_ne h2
      have e2 : (r.a.toList == q.a.toList) = false := by simpa using fun h => e h.symm
      rw [e2]; simp
  · have e := bl_ne h1
    have e2 : (q.a.toList == r.a.toList) = false := by simpa using fun h => e h.symm
    rw [bl_asymm h1, e2]; simp
theorem ar198 : arrSz Tryd.prog 198 = some (2, 1) := by kernel_rfl

set_option maxRecDepth 100000 in
set_option maxHeartbeats 1000000 in
theorem checkFees_any (l : List Fe) (A : Option Addr) (n c : Nat) (w : World) (hl : SlT feEnc 3 201 w A n l) (hok : ∀ b ∈ l, FeOk b) (hn : n ≤ 1000000) :
    Calls Tryd.prog 73 #[.slice A n c] w (GotE w (feesE l)) := by
  refine gw_enter ⟨64, w, none, []⟩ Tryd.func73 rfl Tryd.ntmps73 rfl (mem0 (X := [SlOld feEnc 3 201 w.heap.size none A n l]) (allF_cons hl.old allF_nil) (allL_cons SlOld.lasts allL_nil)) ?_
  refine gw_seq ?_
  refine gw_region ?_
  have hlen := hl.len
  refine wl_ov (ov_assign rfl) rfl ?_
  refine wl_nil ?_
  refine nx_then ?_
  refine gw_seq ?_
  refine gw_seq ?_
  refine gw_region ?_
  refine wl_ov (ov_move rfl) rfl ?_
  refine wl_ov (ov_len es116 rfl) rfl ?_
  refine wl_ov (ov_gtr rfl rfl) rfl ?_
  refine wl_nil ?_
  refine nx_then ?_
  refine gw_cond rfl (fun hh => ?_) (fun hh => ?_)
  · have h1 : 500 < ((n : Nat) : Int) := by simpa using hh
    clear hh
    refine gw_seq ?_
    refine gw_region ?_
    refine wl_ov (ov_assign rfl) rfl ?_
    refine wl_nil ?_
    refine nx_then ?_
    refine gw_ret ?_
    refine nx_then_ret ?_
    refine nx_ret1 rfl rfl fun wx hm => ?_
    exact ⟨ret_int (by unfold feesE; rw [if_pos (by omega)]), hm.g⟩
  · have h1 : ¬ (500 < ((n : Nat) : Int)) := by simpa using hh
    clear hh
    refine gw_skip ?_
    refine nx_then ?_
    refine gw_seq ?_
    refine gw_seq ?_
    refine gw_region ?_
    refine wl_ov (ov_move rfl) rfl ?_
    refine wl_ov (ov_len es116 rfl) rfl ?_
    refine wl_ov (ov_move rfl) rfl ?_
    refine wl_nil ?_
    refine nx_then ?_
    refine gw_block ?_
    refine gw_loop (γ := Nat) (fun (k : Nat) => k ≤ n ∧ feesE l = scanE feeE (prevOf l k) (l.drop k)) (fun (k : Nat) => [(0, .slice A n c), (8, .slice A n c), (9, .int .i64 ((n : Nat) : Int)), (10, .int .i64 ((k : Nat) : Int))]) (fun (k : Nat) => fun _ => True) (fun (k : Nat) => []) (fun (k : Nat) => []) (fun (k : Nat) => [SlOld feEnc 3 201 w.heap.size none A n l]) (fun (k : Nat) => n - k) 0 ⟨Nat.zero_le _, by unfold feesE; rw [if_neg (by omega)]; rfl⟩ ⟨rfl, rfl, rfl, rfl, trivial⟩ (fun _ hm => hm.pick [] [] [0] rfl rfl) ?_
    intro k hinv
    replace hinv : k ≤ n ∧ feesE l = scanE feeE (prevOf l k) (l.drop k) := hinv
    refine gw_seq ?_
    refine gw_region ?_
    refine wl_ov (ov_lss rfl rfl) rfl ?_
    refine wl_nil ?_
    refine nx_then ?_
    refine gw_seq ?_
    refine gw_cond rfl (fun hh => ?_) (fun hh => ?_)
    · have hk : ((k : Nat) : Int) < ((n : Nat) : Int) := by simpa using hh
      clear hh
      refine gw_skip ?_
      refine nx_then ?_
      refine gw_seq ?_
      refine gw_block ?_
      refine gw_seq ?_
      refine gw_region ?_
      obtain ⟨b, off, hA, _, _⟩ := hl.get (by omega)
      subst hA
      obtain ⟨x, hx⟩ : ∃ x, l[k]? = some x := ⟨_, List.getElem?_eq_getElem (by omega)⟩
      obtain ⟨ka, kb, ce⟩ := x
      have hat := scanE_at feeE l k _ hx
      obtain ⟨hs1, hs2⟩ := hok _ (List.mem_of_getElem? hx)
      have hs1 : ka.size ≤ 1000000 := hs1
      have hs2 : kb.size ≤ 1000000 := hs2
      refine wl_ov (ov_move rfl) rfl ?_
      refine wl_ov (ov_index (j := k) es116 rfl rfl (by omega)) rfl ?_
      refine wl_ov (ov_elem (vs := [.string ka, .string kb, .int .i64 ce]) rz201 rfl (fun _ hm => (hm.fact 0 rfl).1) hx rfl rfl) rfl ?_
      refine wl_alloc zc201 rfl fun g1 => ?_
      refine wl_ov (ov_assign rfl) rfl ?_
      refine wl_stores (cs' := [.string ka, .string kb, .int .i64 ce]) 0 rz201 rfl rfl rfl rfl rfl rfl rfl rfl ?_
      refine wl_nil ?_
      refine nx_then ?_
      refine gw_block ?_
      refine gw_seq ?_
      refine gw_region ?_
      refine wl_ov (ov_field fo201_0 rfl rfl) rfl ?_
      refine wl_ov (ov_load sc9 rfl (fun _ hm => hm.blkI 0 rfl) rfl) rfl ?_
      refine wl_callw rfl cb106 rfl rfl (fun wx hm => (isKey_any _ wx (by omega))) ?_
      refine wl_ov (ov_un_not rfl) rfl ?_
      refine wl_ov (ov_move rfl) rfl ?_
      rcases Bool.eq_false_or_eq_true (!(keyB ka)) with h2 | h2
      · refine wl_set 20 rfl (congrArg Value.bool h2) ?_
        have h2 : keyB ka = false := by simpa using h2
        refine wl_guard_off rfl rfl rfl (by decide) rfl ?_
        refine wl_guard_off rfl rfl rfl (by decide) rfl ?_
        refine wl_guard_off rfl rfl rfl (by decide) rfl ?_
        refine wl_guard_off rfl rfl rfl (by decide) rfl ?_
        refine wl_ov (ov_pick_t rfl rfl) rfl ?_
        refine wl_ov (ov_assign rfl) rfl ?_
        refine wl_nil ?_
        refine nx_then ?_
        refine gw_cond rfl (fun _ => ?_) (fun hh => by cases hh)
        refine gw_seq ?_
        refine gw_region ?_
        refine wl_ov (ov_assign rfl) rfl ?_
        refine wl_nil ?_
        refine nx_then ?_
        refine gw_ret ?_
        refine nx_blk_ret ?_
        refine nx_blk_ret ?_
        refine nx_then_ret ?_
        refine nx_then_ret ?_
        refine nx_blk_ret ?_
        refine nx_then_ret ?_
        have hE : feeE (prevOf l k) ⟨ka, kb, ce⟩ = 5 := by unfold feeE leFe; simp [h2]
        refine nx_ret1 rfl rfl fun wx hm => ?_
        exact ⟨ret_int (by rw [hinv.2, hat, if_neg (by rw [hE]; decide), hE]), hm.g⟩
      · refine wl_set 20 rfl (congrArg Value.bool h2) ?_
        have h2 : keyB ka = true := by simpa using h2
        refine wl_guard_on rfl rfl rfl ?_
        refine wl_ov (ov_field fo201_1 rfl rfl) rfl ?_
        refine wl_guard_on rfl rfl rfl ?_
        refine wl_ov (ov_load sc9 rfl (fun _ hm => hm.blkI 0 rfl) rfl) rfl ?_
        refine wl_guard_on rfl rfl rfl ?_
        refine wl_callw rfl cb106 rfl rfl (fun wx hm => (isKey_any _ wx (by omega))) ?_
        refine wl_guard_on rfl rfl rfl ?_
        refine wl_ov (ov_un_not rfl) rfl ?_
        refine wl_ov (ov_pick_f rfl rfl) rfl ?_
        refine wl_ov (ov_assign rfl) rfl ?_
        refine wl_nil ?_
        refine nx_then ?_
        refine gw_cond rfl (fun hh => ?_) (fun hh => ?_)
        · have h3 : (keyB kb) = false := by simpa using hh
          clear hh
          refine gw_seq ?_
          refine gw_region ?_
          have h3 : keyB kb = false := by simpa using h3
          refine wl_ov (ov_assign rfl) rfl ?_
          refine wl_nil ?_
          refine nx_then ?_
          refine gw_ret ?_
          refine nx_blk_ret ?_
          refine nx_blk_ret ?_
          refine nx_then_ret ?_
          refine nx_then_ret ?_
          refine nx_blk_ret ?_
          refine nx_then_ret ?_
          have hE : feeE (prevOf l k) ⟨ka, kb, ce⟩ = 5 := by unfold feeE leFe; simp [h2, h3]
          refine nx_ret1 rfl rfl fun wx hm => ?_
          exact ⟨ret_int (by rw [hinv.2, hat, if_neg (by rw [hE]; decide), hE]), hm.g⟩
        · have h3 : (keyB kb) = true := by simpa using hh
          clear hh
          refine gw_seq ?_
          refine gw_region ?_
          have h3 : keyB kb = true := by simpa using h3
          refine wl_ov (ov_field fo201_0 rfl rfl) rfl ?_
          refine wl_ov (ov_load sc9 rfl (fun _ hm => hm.blkI 0 rfl) rfl) rfl ?_
          refine wl_ov (ov_field fo201_1 rfl rfl) rfl ?_
          refine wl_ov (ov_load sc9 rfl (fun _ hm => hm.blkI 0 rfl) rfl) rfl ?_
          refine wl_ov (ov_seql rfl rfl) rfl ?_
          refine wl_ov (ov_assign rfl) rfl ?_
          refine wl_nil ?_
          refine nx_then ?_
          refine gw_cond rfl (fun hh => ?_) (fun hh => ?_)
          · have h4 : (ka.toList == kb.toList) = true := by simpa using hh
            clear hh
            refine gw_seq ?_
            refine gw_region ?_
            refine wl_ov (ov_assign rfl) rfl ?_
            refine wl_nil ?_
            refine nx_then ?_
            refine gw_ret ?_
            refine nx_blk_ret ?_
            refine nx_blk_ret ?_
            refine nx_then_ret ?_
            refine nx_then_ret ?_
            refine nx_blk_ret ?_
            refine nx_then_ret ?_
            have hE : feeE (prevOf l k) ⟨ka, kb, ce⟩ = 14 := by unfold feeE leFe; simp [h2, h3, (beq_iff_eq.1 h4)]
            refine nx_ret1 rfl rfl fun wx hm => ?_
            exact ⟨ret_int (by rw [hinv.2, hat, if_neg (by rw [hE]; decide), hE]), hm.g⟩
          · have h4 : (ka.toList == kb.toList) = false := by simpa using hh
            clear hh
            refine gw_seq ?_
            have h4 : ¬ ka.toList = kb.toList := by simpa using h4
            by_cases hk0 : k = 0
            · refine gw_draw (fun wz => Blk wz g1 201 [.string ka, .string kb, .int .i64 ce] ∧ (SlOld feEnc 3 201 w.heap.size none (some ⟨b, off, none⟩) n l) wz ∧ True) mixed ?_
              refine wa_take 0 rfl (by kernel_rfl) (by kernel_rfl) (by kernel_rfl) (listed' := #[true, false, false, false, false, false, false, false, false, false, false, false, false, false, false, false, false, false, false, false, false, false, false, false, false, false]) rfl (fun _ _ _ h => h) (fun _ hm => ⟨hm.blkI 0 rfl, hm.fact 0 rfl, trivial⟩) (ov_move rfl) rfl ?_
              refine wa_take 1 rfl (by kernel_rfl) (by kernel_rfl) (by kernel_rfl) (listed' := #[true, true, false, false, false, false, false, false, false, false, false, false, false, false, false, false, false, false, false, false, false, false, false, false, false, false]) rfl (fun _ _ _ h => h) (fun _ hm => ⟨hm.blkI 0 rfl, hm.fact 0 rfl, trivial⟩) (ov_gtr rfl rfl) rfl ?_
              refine wa_set 34 (v' := .bool false) rfl (congrArg Value.bool (decide_eq_false (by omega))) ?_
              refine wa_take 2 rfl (by kernel_rfl) (by kernel_rfl) (by kernel_rfl) (listed' := #[true, true, true, false, false, false, false, false, false, false, false, false, false, false, false, false, false, false, false, false, false, false, false, false, false, false]) rfl (fun _ _ _ h => h) (fun _ hm => ⟨hm.blkI 0 rfl, hm.fact 0 rfl, trivial⟩) (ov_move rfl) rfl ?_
              refine wa_take_off 3 rfl rfl rfl (by decide) (by kernel_rfl) (by kernel_rfl) (by kernel_rfl) (listed' := #[true, true, true, true, false, false, false, false, false, false, false, false, false, false, false, false, false, false, false, false, false, false, false, false, false, false]) rfl (fun _ _ _ h => h) (fun _ hm => ⟨hm.blkI 0 rfl, hm.fact 0 rfl, trivial⟩) rfl ?_
              refine wa_take_off 4 rfl rfl rfl (by decide) (by kernel_rfl) (by kernel_rfl) (by kernel_rfl) (listed' := #[true, true, true, true, true, false, false, false, false, false, false, false, false, false, false, false, false, false, false, false, false, false, false, false, false, false]) rfl (fun _ _ _ h => h) (fun _ hm => ⟨hm.blkI 0 rfl, hm.fact 0 rfl, trivial⟩) rfl ?_
              refine wa_take_off 5 rfl rfl rfl (by decide) (by kernel_rfl) (by kernel_rfl) (by kernel_rfl) (listed' := #[true, true, true, true, true, true, false, false, false, false, false, false, false, false, false, false, false, false, false, false, false, false, false, false, false, false]) rfl (fun _ _ _ h => h) (fun _ hm => ⟨hm.blkI 0 rfl, hm.fact 0 rfl, trivial⟩) rfl ?_
              refine wa_take_off 6 rfl rfl rfl (by decide) (by kernel_rfl) (by kernel_rfl) (by kernel_rfl) (listed' := #[true, true, true, true, true, true, true, false, false, false, false, false, false, false, false, false, false, false, false, false, false, false, false, false, false, false]) rfl (fun _ _ _ h => h) (fun _ hm => ⟨hm.blkI 0 rfl, hm.fact 0 rfl, trivial⟩) rfl ?_
              refine wa_take_off 7 rfl rfl rfl (by decide) (by kernel_rfl) (by kernel_rfl) (by kernel_rfl) (listed' := #[true, true, true, true, true, true, true, true, false, false, false, false, false, false, false, false, false, false, false, false, false, false, false, false, false, false]) rfl (fun _ _ _ h => h) (fun _ hm => ⟨hm.blkI 0 rfl, hm.fact 0 rfl, trivial⟩) rfl ?_
              refine wa_take_off 8 rfl rfl rfl (by decide) (by kernel_rfl) (by kernel_rfl) (by kernel_rfl) (listed' := #[true, true, true, true, true, true, true, true, true, false, false, false, false, false, false, false, false, false, false, false, false, false, false, false, false, false]) rfl (fun _ _ _ h => h) (fun _ hm => ⟨hm.blkI 0 rfl, hm.fact 0 rfl, trivial⟩) rfl ?_
              refine wa_take_off 9 rfl rfl rfl (by decide) (by kernel_rfl) (by kernel_rfl) (by kernel_rfl) (listed' := #[true, true, true, true, true, true, true, true, true, true, false, false, false, false, false, false, false, false, false, false, false, false, false, false, false, false]) rfl (fun _ _ _ h => h) (fun _ hm => ⟨hm.blkI 0 rfl, hm.fact 0 rfl, trivial⟩) rfl ?_
              refine wa_take_off 10 rfl rfl rfl (by decide) (by kernel_rfl) (by kernel_rfl) (by kernel_rfl) (listed' := #[true, true, true, true, true, true, true, true, true, true, true, false, false, false, false, false, false, false, false, false, false, false, false, false, false, false]) rfl (fun _ _ _ h => h) (fun _ hm => ⟨hm.blkI 0 rfl, hm.fact 0 rfl, trivial⟩) rfl ?_
              refine wa_take_off 11 rfl rfl rfl (by decide) (by kernel_rfl) (by kernel_rfl) (by kernel_rfl) (listed' := #[true, true, true, true, true, true, true, true, true, true, true, true, false, false, false, false, false, false, false, false, false, false, false, false, false, false]) rfl (fun _ _ _ h => h) (fun _ hm => ⟨hm.blkI 0 rfl, hm.fact 0 rfl, trivial⟩) rfl ?_
              refine wa_take_off 12 rfl rfl rfl (by decide) (by kernel_rfl) (by kernel_rfl) (by kernel_rfl) (listed' := #[true, true, true, true, true, true, true, true, true, true, true, true, true, false, false, false, false, false, false, false, false, false, false, false, false, false]) rfl (fun _ _ _ h => h) (fun _ hm => ⟨hm.blkI 0 rfl, hm.fact 0 rfl, trivial⟩) rfl ?_
              refine wa_take_off 13 rfl rfl rfl (by decide) (by kernel_rfl) (by kernel_rfl) (by kernel_rfl) (listed' := #[true, true, true, true, true, true, true, true, true, true, true, true, true, true, false, false, false, false, false, false, false, false, false, false, false, false]) rfl (fun _ _ _ h => h) (fun _ hm => ⟨hm.blkI 0 rfl, hm.fact 0 rfl, trivial⟩) rfl ?_
              refine wa_take_off 14 rfl rfl rfl (by decide) (by kernel_rfl) (by kernel_rfl) (by kernel_rfl) (listed' := #[true, true, true, true, true, true, true, true, true, true, true, true, true, true, true, false, false, false, false, false, false, false, false, false, false, false]) rfl (fun _ _ _ h => h) (fun _ hm => ⟨hm.blkI 0 rfl, hm.fact 0 rfl, trivial⟩) rfl ?_
              refine wa_take_off 15 rfl rfl rfl (by decide) (by kernel_rfl) (by kernel_rfl) (by kernel_rfl) (listed' := #[true, true, true, true, true, true, true, true, true, true, true, true, true, true, true, true, false, false, false, false, false, false, false, false, false, false]) rfl (fun _ _ _ h => h) (fun _ hm => ⟨hm.blkI 0 rfl, hm.fact 0 rfl, trivial⟩) rfl ?_
              refine wa_take_off 16 rfl rfl rfl (by decide) (by kernel_rfl) (by kernel_rfl) (by kernel_rfl) (listed' := #[true, true, true, true, true, true, true, true, true, true, true, true, true, true, true, true, true, false, false, false, false, false, false, false, false, false]) rfl (fun _ _ _ h => h) (fun _ hm => ⟨hm.blkI 0 rfl, hm.fact 0 rfl, trivial⟩) rfl ?_
              refine wa_take_off 17 rfl rfl rfl (by decide) (by kernel_rfl) (by kernel_rfl) (by kernel_rfl) (listed' := #[true, true, true, true, true, true, true, true, true, true, true, true, true, true, true, true, true, true, false, false, false, false, false, false, false, false]) rfl (fun _ _ _ h => h) (fun _ hm => ⟨hm.blkI 0 rfl, hm.fact 0 rfl, trivial⟩) rfl ?_
              refine wa_take_off 18 rfl rfl rfl (by decide) (by kernel_rfl) (by kernel_rfl) (by kernel_rfl) (listed' := #[true, true, true, true, true, true, true, true, true, true, true, true, true, true, true, true, true, true, true, false, false, false, false, false, false, false]) rfl (fun _ _ _ h => h) (fun _ hm => ⟨hm.blkI 0 rfl, hm.fact 0 rfl, trivial⟩) rfl ?_
              refine wa_take_off 19 rfl rfl rfl (by decide) (by kernel_rfl) (by kernel_rfl) (by kernel_rfl) (listed' := #[true, true, true, true, true, true, true, true, true, true, true, true, true, true, true, true, true, true, true, true, false, false, false, false, false, false]) rfl (fun _ _ _ h => h) (fun _ hm => ⟨hm.blkI 0 rfl, hm.fact 0 rfl, trivial⟩) rfl ?_
              refine wa_take_off 20 rfl rfl rfl (by decide) (by kernel_rfl) (by kernel_rfl) (by kernel_rfl) (listed' := #[true, true, true, true, true, true, true, true, true, true, true, true, true, true, true, true, true, true, true, true, true, false, false, false, false, false]) rfl (fun _ _ _ h => h) (fun _ hm => ⟨hm.blkI 0 rfl, hm.fact 0 rfl, trivial⟩) rfl ?_
              refine wa_take_off 21 rfl rfl rfl (by decide) (by kernel_rfl) (by kernel_rfl) (by kernel_rfl) (listed' := #[true, true, true, true, true, true, true, true, true, true, true, true, true, true, true, true, true, true, true, true, true, true, false, false, false, false]) rfl (fun _ _ _ h => h) (fun _ hm => ⟨hm.blkI 0 rfl, hm.fact 0 rfl, trivial⟩) rfl ?_
              refine wa_take_off 22 rfl rfl rfl (by decide) (by kernel_rfl) (by kernel_rfl) (by kernel_rfl) (listed' := #[true, true, true, true, true, true, true, true, true, true, true, true, true, true, true, true, true, true, true, true, true, true, true, false, false, false]) rfl (fun _ _ _ h => h) (fun _ hm => ⟨hm.blkI 0 rfl, hm.fact 0 rfl, trivial⟩) rfl ?_
              refine wa_take_off 23 rfl rfl rfl (by decide) (by kernel_rfl) (by kernel_rfl) (by kernel_rfl) (listed' := #[true, true, true, true, true, true, true, true, true, true, true, true, true, true, true, true, true, true, true, true, true, true, true, true, false, false]) rfl (fun _ _ _ h => h) (fun _ hm => ⟨hm.blkI 0 rfl, hm.fact 0 rfl, trivial⟩) rfl ?_
              refine wa_take 24 rfl (by kernel_rfl) (by kernel_rfl) (by kernel_rfl) (listed' := #[true, true, true, true, true, true, true, true, true, true, true, true, true, true, true, true, true, true, true, true, true, true, true, true, true, false]) rfl (fun _ _ _ h => h) (fun _ hm => ⟨hm.blkI 0 rfl, hm.fact 0 rfl, trivial⟩) (ov_pick_f rfl rfl) rfl ?_
              refine wa_take 25 rfl (by kernel_rfl) (by kernel_rfl) (by kernel_rfl) (listed' := #[true, true, true, true, true, true, true, true, true, true, true, true, true, true, true, true, true, true, true, true, true, true, true, true, true, true]) rfl (fun _ _ _ h => h) (fun _ hm => ⟨hm.blkI 0 rfl, hm.fact 0 rfl, trivial⟩) (ov_assign rfl) rfl ?_
              refine wa_done (by kernel_rfl) ?_
              refine nx_then ?_
              refine gw_cond rfl (fun hh => by cases hh) (fun _ => ?_)
              refine gw_seq ?_
              refine gw_region ?_
              refine wl_ov (ov_field fo201_2 rfl rfl) rfl ?_
              refine wl_ov (ov_load sc3 rfl (fun _ hm => hm.blkI 0 rfl) rfl) rfl ?_
              refine wl_callw rfl cb99 rfl rfl (fun wx hm => (in_any _ _ _ wx)) ?_
              refine wl_ov (ov_un_not rfl) rfl ?_
              refine wl_ov (ov_assign rfl) rfl ?_
              refine wl_nil ?_
              refine nx_then ?_
              refine gw_cond rfl (fun hh => ?_) (fun hh => ?_)
              · have h9 : (inB ce 0 1000000) = false := by simpa using hh
                clear hh
                refine gw_seq ?_
                refine gw_region ?_
                refine wl_ov (ov_assign rfl) rfl ?_
                refine wl_nil ?_
                refine nx_then ?_
                refine gw_ret ?_
                refine nx_blk_ret ?_
                refine nx_blk_ret ?_
                refine nx_then_ret ?_
                refine nx_then_ret ?_
                refine nx_blk_ret ?_
                refine nx_then_ret ?_
                have hE : feeE (prevOf l k) ⟨ka, kb, ce⟩ = 1 := by unfold feeE leFe; rw [pv_zero hk0]; simp [h2, h3, h4, h9]
                refine nx_ret1 rfl rfl fun wx hm => ?_
                exact ⟨ret_int (by rw [hinv.2, hat, if_neg (by rw [hE]; decide), hE]), hm.g⟩
              · have h9 : (inB ce 0 1000000) = true := by simpa using hh
                clear hh
                refine gw_skip ?_
                refine nx_blk_nrm ?_
                refine nx_blk_nrm ?_
                refine nx_then ?_
                refine gw_region ?_
                have hE : feeE (prevOf l k) ⟨ka, kb, ce⟩ = 0 := by unfold feeE leFe; rw [pv_zero hk0]; simp [h2, h3, h4, h9]
                refine wl_ov (ov_add rfl rfl (by omega) (by omega)) rfl ?_
                refine wl_ov (ov_move rfl) rfl ?_
                refine wl_nil ?_
                exact nx_round (k + 1) ⟨by omega, by rw [hinv.2, hat, if_pos hE]⟩ (by omega) ⟨rfl, rfl, rfl, (some_int (by omega)), trivial⟩ (fun _ hm => hm.pick [] [] [0] rfl rfl)
            · obtain ⟨y, hy⟩ : ∃ x, l[k - 1]? = some x := ⟨_, List.getElem?_eq_getElem (by omega)⟩
              obtain ⟨p0, p1, p2⟩ := y
              have hpv := pv_pos hk0 hy
              refine gw_draw (fun wz => Blk wz g1 201 [.string ka, .string kb, .int .i64 ce] ∧ (SlOld feEnc 3 201 w.heap.size none (some ⟨b, off, none⟩) n l) wz ∧ True) mixed ?_
              refine wa_take 0 rfl (by kernel_rfl) (by kernel_rfl) (by kernel_rfl) (listed' := #[true, false, false, false, false, false, false, false, false, false, false, false, false, false, false, false, false, false, false, false, false, false, false, false, false, false]) rfl (fun _ _ _ h => h) (fun _ hm => ⟨hm.blkI 0 rfl, hm.fact 0 rfl, trivial⟩) (ov_move rfl) rfl ?_
              refine wa_take 1 rfl (by kernel_rfl) (by kernel_rfl) (by kernel_rfl) (listed' := #[true, true, false, false, false, false, false, false, false, false, false, false, false, false, false, false, false, false, false, false, false, false, false, false, false, false]) rfl (fun _ _ _ h => h) (fun _ hm => ⟨hm.blkI 0 rfl, hm.fact 0 rfl, trivial⟩) (ov_gtr rfl rfl) rfl ?_
              refine wa_set 34 (v' := .bool true) rfl (congrArg Value.bool (decide_eq_true (by omega))) ?_
              refine wa_take 2 rfl (by kernel_rfl) (by kernel_rfl) (by kernel_rfl) (listed' := #[true, true, true, false, false, false, false, false, false, false, false, false, false, false, false, false, false, false, false, false, false, false, false, false, false, false]) rfl (fun _ _ _ h => h) (fun _ hm => ⟨hm.blkI 0 rfl, hm.fact 0 rfl, trivial⟩) (ov_move rfl) rfl ?_
              refine wa_take_on 3 rfl rfl rfl (by kernel_rfl) (by kernel_rfl) (by kernel_rfl) (listed' := #[true, true, true, true, false, false, false, false, false, false, false, false, false, false, false, false, false, false, false, false, false, false, false, false, false, false]) rfl (fun _ _ _ h => h) (fun _ hm => ⟨hm.blkI 0 rfl, hm.fact 0 rfl, trivial⟩) (ov_move rfl) rfl ?_
              refine wa_take_on 4 rfl rfl rfl (by kernel_rfl) (by kernel_rfl) (by kernel_rfl) (listed' := #[true, true, true, true, true, false, false, false, false, false, false, false, false, false, false, false, false, false, false, false, false, false, false, false, false, false]) rfl (fun _ _ _ h => h) (fun _ hm => ⟨hm.blkI 0 rfl, hm.fact 0 rfl, trivial⟩) (ov_move rfl) rfl ?_
              refine wa_take_on 5 rfl rfl rfl (by kernel_rfl) (by kernel_rfl) (by kernel_rfl) (listed' := #[true, true, true, true, true, true, false, false, false, false, false, false, false, false, false, false, false, false, false, false, false, false, false, false, false, false]) rfl (fun _ _ _ h => h) (fun _ hm => ⟨hm.blkI 0 rfl, hm.fact 0 rfl, trivial⟩) (ov_sub rfl rfl (by omega) (by omega)) rfl ?_
              refine wa_set 38 (v' := .int .i64 ((k - 1 : Nat) : Int)) rfl (congrArg (Value.int .i64) (by omega)) ?_
              refine wa_take_on 6 rfl rfl rfl (by kernel_rfl) (by kernel_rfl) (by kernel_rfl) (listed' := #[true, true, true, true, true, true, true, false, false, false, false, false, false, false, false, false, false, false, false, false, false, false, false, false, false, false]) rfl (fun _ _ _ h => h) (fun _ hm => ⟨hm.blkI 0 rfl, hm.fact 0 rfl, trivial⟩) (ov_index (j := k - 1) es116 rfl rfl (by omega)) rfl ?_
              refine wa_take_on 7 rfl rfl rfl (by kernel_rfl) (by kernel_rfl) (by kernel_rfl) (listed' := #[true, true, true, true, true, true, true, true, false, false, false, false, false, false, false, false, false, false, false, false, false, false, false, false, false, false]) rfl (fun _ _ _ h => h) (fun _ hm => ⟨hm.blkI 0 rfl, hm.fact 0 rfl, trivial⟩) (ov_field fo201_0 rfl rfl) rfl ?_
              refine wa_take_on 8 rfl rfl rfl (by kernel_rfl) (by kernel_rfl) (by kernel_rfl) (listed' := #[true, true, true, true, true, true, true, true, true, false, false, false, false, false, false, false, false, false, false, false, false, false, false, false, false, false]) rfl (fun _ _ _ h => h) (fun _ hm => ⟨hm.blkI 0 rfl, hm.fact 0 rfl, trivial⟩) (ov_elem1 (k := 0) (v := .string p0) sc9 rfl (fun _ hm => (hm.2.1).1) hy rfl rfl) rfl ?_
              refine wa_take_on 9 rfl rfl rfl (by kernel_rfl) (by kernel_rfl) (by kernel_rfl) (listed' := #[true, true, true, true, true, true, true, true, true, true, false, false, false, false, false, false, false, false, false, false, false, false, false, false, false, false]) rfl (fun _ _ _ h => h) (fun _ hm => ⟨hm.blkI 0 rfl, hm.fact 0 rfl, trivial⟩) (ov_field fo201_0 rfl rfl) rfl ?_
              refine wa_take_on 10 rfl rfl rfl (by kernel_rfl) (by kernel_rfl) (by kernel_rfl) (listed' := #[true, true, true, true, true, true, true, true, true, true, true, false, false, false, false, false, false, false, false, false, false, false, false, false, false, false]) rfl (fun _ _ _ h => h) (fun _ hm => ⟨hm.blkI 0 rfl, hm.fact 0 rfl, trivial⟩) (ov_load sc9 rfl (fun _ hm => hm.1) rfl) rfl ?_
              refine wa_take_on 12 rfl rfl rfl (by kernel_rfl) (by kernel_rfl) (by kernel_rfl) (listed' := #[true, true, true, true, true, true, true, true, true, true, true, false, true, false, false, false, false, false, false, false, false, false, false, false, false, false]) rfl (fun _ _ _ h => h) (fun _ hm => ⟨hm.blkI 0 rfl, hm.fact 0 rfl, trivial⟩) (ov_move rfl) rfl ?_
              refine wa_take_on 13 rfl rfl rfl (by kernel_rfl) (by kernel_rfl) (by kernel_rfl) (listed' := #[true, true, true, true, true, true, true, true, true, true, true, false, true, true, false, false, false, false, false, false, false, false, false, false, false, false]) rfl (fun _ _ _ h => h) (fun _ hm => ⟨hm.blkI 0 rfl, hm.fact 0 rfl, trivial⟩) (ov_move rfl) rfl ?_
              refine wa_take_on 14 rfl rfl rfl (by kernel_rfl) (by kernel_rfl) (by kernel_rfl) (listed' := #[true, true, true, true, true, true, true, true, true, true, true, false, true, true, true, false, false, false, false, false, false, false, false, false, false, false]) rfl (fun _ _ _ h => h) (fun _ hm => ⟨hm.blkI 0 rfl, hm.fact 0 rfl, trivial⟩) (ov_sub rfl rfl (by omega) (by omega)) rfl ?_
              refine wa_set 47 (v' := .int .i64 ((k - 1 : Nat) : Int)) rfl (congrArg (Value.int .i64) (by omega)) ?_
              refine wa_take_on 15 rfl rfl rfl (by kernel_rfl) (by kernel_rfl) (by kernel_rfl) (listed' := #[true, true, true, true, true, true, true, true, true, true, true, false, true, true, true, true, false, false, false, false, false, false, false, false, false, false]) rfl (fun _ _ _ h => h) (fun _ hm => ⟨hm.blkI 0 rfl, hm.fact 0 rfl, trivial⟩) (ov_index (j := k - 1) es116 rfl rfl (by omega)) rfl ?_
              refine wa_take_on 16 rfl rfl rfl (by kernel_rfl) (by kernel_rfl) (by kernel_rfl) (listed' := #[true, true, true, true, true, true, true, true, true, true, true, false, true, true, true, true, true, false, false, false, false, false, false, false, false, false]) rfl (fun _ _ _ h => h) (fun _ hm => ⟨hm.blkI 0 rfl, hm.fact 0 rfl, trivial⟩) (ov_field fo201_1 rfl rfl) rfl ?_
              refine wa_take_on 17 rfl rfl rfl (by kernel_rfl) (by kernel_rfl) (by kernel_rfl) (listed' := #[true, true, true, true, true, true, true, true, true, true, true, false, true, true, true, true, true, true, false, false, false, false, false, false, false, false]) rfl (fun _ _ _ h => h) (fun _ hm => ⟨hm.blkI 0 rfl, hm.fact 0 rfl, trivial⟩) (ov_elem1 (k := 1) (v := .string p1) sc9 rfl (fun _ hm => (hm.2.1).1) hy rfl rfl) rfl ?_
              refine wa_take_on 18 rfl rfl rfl (by kernel_rfl) (by kernel_rfl) (by kernel_rfl) (listed' := #[true, true, true, true, true, true, true, true, true, true, true, false, true, true, true, true, true, true, true, false, false, false, false, false, false, false]) rfl (fun _ _ _ h => h) (fun _ hm => ⟨hm.blkI 0 rfl, hm.fact 0 rfl, trivial⟩) (ov_field fo201_1 rfl rfl) rfl ?_
              refine wa_take_on 19 rfl rfl rfl (by kernel_rfl) (by kernel_rfl) (by kernel_rfl) (listed' := #[true, true, true, true, true, true, true, true, true, true, true, false, true, true, true, true, true, true, true, true, false, false, false, false, false, false]) rfl (fun _ _ _ h => h) (fun _ hm => ⟨hm.blkI 0 rfl, hm.fact 0 rfl, trivial⟩) (ov_load sc9 rfl (fun _ hm => hm.1) rfl) rfl ?_
              refine wa_all [11] (by kernel_rfl) rfl ⟨⟨_, rfl, ?_⟩, trivial⟩
              refine wl_guard_on rfl rfl rfl ?_
              refine wl_callv rfl cb109 rfl rfl (fun wx hm => (cmp_string _ _ wx)) ?_
              refine wl_nil ?_
              refine nx_wa0 (listed' := #[true, true, true, true, true, true, true, true, true, true, true, true, true, true, true, true, true, true, true, true, false, false, false, false, false, false]) rfl (fun _ hm => ⟨hm.blkI 0 rfl, hm.fact 0 rfl, trivial⟩) ?_
              refine wa_all [20] (by kernel_rfl) rfl ⟨⟨_, rfl, ?_⟩, trivial⟩
              refine wl_guard_on rfl rfl rfl ?_
              refine wl_callv rfl cb109 rfl rfl (fun wx hm => (cmp_string _ _ wx)) ?_
              refine wl_nil ?_
              refine nx_wa0 (listed' := #[true, true, true, true, true, true, true, true, true, true, true, true, true, true, true, true, true, true, true, true, true, false, false, false, false, false]) rfl (fun _ hm => ⟨hm.blkI 0 rfl, hm.fact 0 rfl, trivial⟩) ?_
              refine wa_all [21] (by kernel_rfl) rfl ⟨⟨_, rfl, ?_⟩, trivial⟩
              refine wl_guard_on rfl rfl rfl ?_
              refine wl_buildSlice (e := 3) (cs := [.int .i64 (cmpS p0 ka), .int .i64 (cmpS p1 kb)]) rfl (by kernel_rfl) rfl fun g2 => ?_
              refine wl_nil ?_
              refine nx_wa0 (listed' := #[true, true, true, true, true, true, true, true, true, true, true, true, true, true, true, true, true, true, true, true, true, true, false, false, false, false]) rfl (fun _ hm => ⟨hm.blkI 1 rfl, hm.fact 0 rfl, trivial⟩) ?_
              refine wa_all [22] (by kernel_rfl) rfl ⟨⟨_, rfl, ?_⟩, trivial⟩
              refine wl_guard_on rfl rfl rfl ?_
              refine wl_callv rfl cb108 rfl rfl (fun wx hm => (or_two _ _ _ _ _ wx (hm.blkI 0 rfl))) ?_
              refine wl_nil ?_
              refine nx_wa0 (listed' := #[true, true, true, true, true, true, true, true, true, true, true, true, true, true, true, true, true, true, true, true, true, true, true, false, false, false]) rfl (fun _ hm => ⟨hm.blkI 1 rfl, hm.fact 0 rfl, trivial⟩) ?_
              refine wa_take_on 23 rfl rfl rfl (by kernel_rfl) (by kernel_rfl) (by kernel_rfl) (listed' := #[true, true, true, true, true, true, true, true, true, true, true, true, true, true, true, true, true, true, true, true, true, true, true, true, false, false]) rfl (fun _ _ _ h => h) (fun _ hm => ⟨hm.blkI 1 rfl, hm.fact 0 rfl, trivial⟩) (ov_geq rfl rfl) rfl ?_
              refine wa_take 24 rfl (by kernel_rfl) (by kernel_rfl) (by kernel_rfl) (listed' := #[true, true, true, true, true, true, true, true, true, true, true, true, true, true, true, true, true, true, true, true, true, true, true, true, true, false]) rfl (fun _ _ _ h => h) (fun _ hm => ⟨hm.blkI 1 rfl, hm.fact 0 rfl, trivial⟩) (ov_pick_t rfl rfl) rfl ?_
              refine wa_take 25 rfl (by kernel_rfl) (by kernel_rfl) (by kernel_rfl) (listed' := #[true, true, true, true, true, true, true, true, true, true, true, true, true, true, true, true, true, true, true, true, true, true, true, true, true, true]) rfl (fun _ _ _ h => h) (fun _ hm => ⟨hm.blkI 1 rfl, hm.fact 0 rfl, trivial⟩) (ov_assign rfl) rfl ?_
              refine wa_done (by kernel_rfl) ?_
              refine nx_then ?_
              refine gw_cond rfl (fun hh => ?_) (fun hh => ?_)
              · have h8 : 0 ≤ firstE [cmpS p0 ka, cmpS p1 kb] := by simpa using hh
                clear hh
                refine gw_seq ?_
                refine gw_region ?_
                have h8 : feLt ⟨p0, p1, p2⟩ ⟨ka, kb, ce⟩ = false := (or_fe ⟨p0, p1, p2⟩ ⟨ka, kb, ce⟩).1 h8
                refine wl_ov (ov_assign rfl) rfl ?_
                refine wl_nil ?_
                refine nx_then ?_
                refine gw_ret ?_
                refine nx_blk_ret ?_
                refine nx_blk_ret ?_
                refine nx_then_ret ?_
                refine nx_then_ret ?_
                refine nx_blk_ret ?_
                refine nx_then_ret ?_
                have hE : feeE (prevOf l k) ⟨ka, kb, ce⟩ = 7 := by unfold feeE leFe; rw [hpv]; simp [h2, h3, h4, h8]
                refine nx_ret1 rfl rfl fun wx hm => ?_
                exact ⟨ret_int (by rw [hinv.2, hat, if_neg (by rw [hE]; decide), hE]), hm.g⟩
              · have h8 : ¬ (0 ≤ firstE [cmpS p0 ka, cmpS p1 kb]) := by simpa using hh
                clear hh
                refine gw_seq ?_
                refine gw_region ?_
                have h8 : feLt ⟨p0, p1, p2⟩ ⟨ka, kb, ce⟩ = true := by
                  cases h : feLt ⟨p0, p1, p2⟩ ⟨ka, kb, ce⟩
                  · exact absurd ((or_fe ⟨p0, p1, p2⟩ ⟨ka, kb, ce⟩).2 h) h8
                  · rfl
                refine wl_ov (ov_field fo201_2 rfl rfl) rfl ?_
                refine wl_ov (ov_load sc3 rfl (fun _ hm => hm.blkI 1 rfl) rfl) rfl ?_
                refine wl_callw rfl cb99 rfl rfl (fun wx hm => (in_any _ _ _ wx)) ?_
                refine wl_ov (ov_un_not rfl) rfl ?_
                refine wl_ov (ov_assign rfl) rfl ?_
                refine wl_nil ?_
                refine nx_then ?_
                refine gw_cond rfl (fun hh => ?_) (fun hh => ?_)
                · have h9 : (inB ce 0 1000000) = false := by simpa using hh
                  clear hh
                  refine gw_seq ?_
                  refine gw_region ?_
                  refine wl_ov (ov_assign rfl) rfl ?_
                  refine wl_nil ?_
                  refine nx_then ?_
                  refine gw_ret ?_
                  refine nx_blk_ret ?_
                  refine nx_blk_ret ?_
                  refine nx_then_ret ?_
                  refine nx_then_ret ?_
                  refine nx_blk_ret ?_
                  refine nx_then_ret ?_
                  have hE : feeE (prevOf l k) ⟨ka, kb, ce⟩ = 1 := by unfold feeE leFe; rw [hpv]; simp [h2, h3, h4, h8, h9]
                  refine nx_ret1 rfl rfl fun wx hm => ?_
                  exact ⟨ret_int (by rw [hinv.2, hat, if_neg (by rw [hE]; decide), hE]), hm.g⟩
                · have h9 : (inB ce 0 1000000) = true := by simpa using hh
                  clear hh
                  refine gw_skip ?_
                  refine nx_blk_nrm ?_
                  refine nx_blk_nrm ?_
                  refine nx_then ?_
                  refine gw_region ?_
                  have hE : feeE (prevOf l k) ⟨ka, kb, ce⟩ = 0 := by unfold feeE leFe; rw [hpv]; simp [h2, h3, h4, h8, h9]
                  refine wl_ov (ov_add rfl rfl (by omega) (by omega)) rfl ?_
                  refine wl_ov (ov_move rfl) rfl ?_
                  refine wl_nil ?_
                  exact nx_round (k + 1) ⟨by omega, by rw [hinv.2, hat, if_pos hE]⟩ (by omega) ⟨rfl, rfl, rfl, (some_int (by omega)), trivial⟩ (fun _ hm => hm.pick [] [] [0] rfl rfl)
    · have hk : ¬ (((k : Nat) : Int) < ((n : Nat) : Int)) := by simpa using hh
      clear hh
      refine gw_exit ?_
      refine nx_then_exit ?_
      refine nx_then_exit ?_
      refine nx_blk_here ?_
      refine nx_then ?_
      refine gw_seq ?_
      refine gw_region ?_
      refine wl_ov (ov_assign rfl) rfl ?_
      refine wl_nil ?_
      refine nx_then ?_
      refine gw_ret ?_
      refine nx_ret1 rfl rfl fun wx hm => ?_
      exact ⟨ret_int (by rw [hinv.2, scanE_end _ _ _ _ (by omega)]), hm.g⟩

set_option maxRecDepth 100000 in
set_option maxHeartbeats 1000000 in
theorem feesFault_any (l : List Fe) (A : Option Addr) (n c : Nat) (w : World) (hl : SlT feEnc 3 201 w A n l) (hok : ∀ b ∈ l, FeOk b) (hn : n ≤ 1000000) :
    Calls Tryd.prog 71 #[.slice A n c] w (GotE w (feesE l)) := by
  refine gw_enter ⟨74, w, none, []⟩ Tryd.func71 rfl Tryd.ntmps71 rfl (mem0 (X := [SlOld feEnc 3 201 w.heap.size none A n l]) (allF_cons hl.old allF_nil) (allL_cons SlOld.lasts allL_nil)) ?_
  refine gw_seq ?_
  refine gw_region ?_
  have hlen := hl.len
  refine wl_ov (ov_assign rfl) rfl ?_
  refine wl_nil ?_
  refine nx_then ?_
  refine gw_seq ?_
  refine gw_seq ?_
  refine gw_region ?_
  refine wl_ov (ov_move rfl) rfl ?_
  refine wl_ov (ov_len es116 rfl) rfl ?_
  refine wl_ov (ov_gtr rfl rfl) rfl ?_
  refine wl_nil ?_
  refine nx_then ?_
  refine gw_cond rfl (fun hh => ?_) (fun hh => ?_)
  · have h1 : 500 < ((n : Nat) : Int) := by simpa using hh
    clear hh
    refine gw_seq ?_
    refine gw_region ?_
    refine wl_ov (ov_assign rfl) rfl ?_
    refine wl_nil ?_
    refine nx_then ?_
    refine gw_ret ?_
    refine nx_then_ret ?_
    refine nx_ret1 rfl rfl fun wx hm => ?_
    exact ⟨ret_int (by unfold feesE; rw [if_pos (by omega)]), hm.g⟩
  · have h1 : ¬ (500 < ((n : Nat) : Int)) := by simpa using hh
    clear hh
    refine gw_skip ?_
    refine nx_then ?_
    refine gw_seq ?_
    refine gw_seq ?_
    refine gw_region ?_
    refine wl_ov (ov_move rfl) rfl ?_
    refine wl_ov (ov_len es116 rfl) rfl ?_
    refine wl_ov (ov_move rfl) rfl ?_
    refine wl_nil ?_
    refine nx_then ?_
    refine gw_block ?_
    refine gw_loop (γ := Nat) (fun (k : Nat) => k ≤ n ∧ feesE l = scanE feeE (prevOf l k) (l.drop k)) (fun (k : Nat) => [(0, .slice A n c), (8, .slice A n c), (9, .int .i64 ((n : Nat) : Int)), (10, .int .i64 ((k : Nat) : Int))]) (fun (k : Nat) => fun _ => True) (fun (k : Nat) => []) (fun (k : Nat) => []) (fun (k : Nat) => [SlOld feEnc 3 201 w.heap.size none A n l]) (fun (k : Nat) => n - k) 0 ⟨Nat.zero_le _, by unfold feesE; rw [if_neg (by omega)]; rfl⟩ ⟨rfl, rfl, rfl, rfl, trivial⟩ (fun _ hm => hm.pick [] [] [0] rfl rfl) ?_
    intro k hinv
    replace hinv : k ≤ n ∧ feesE l = scanE feeE (prevOf l k) (l.drop k) := hinv
    refine gw_seq ?_
    refine gw_region ?_
    refine wl_ov (ov_lss rfl rfl) rfl ?_
    refine wl_nil ?_
    refine nx_then ?_
    refine gw_seq ?_
    refine gw_cond rfl (fun hh => ?_) (fun hh => ?_)
    · have hk : ((k : Nat) : Int) < ((n : Nat) : Int) := by simpa using hh
      clear hh
      refine gw_skip ?_
      refine nx_then ?_
      refine gw_seq ?_
      refine gw_block ?_
      refine gw_seq ?_
      refine gw_region ?_
      obtain ⟨b, off, hA, _, _⟩ := hl.get (by omega)
      subst hA
      obtain ⟨x, hx⟩ : ∃ x, l[k]? = some x := ⟨_, List.getElem?_eq_getElem (by omega)⟩
      obtain ⟨ka, kb, ce⟩ := x
      have hat := scanE_at feeE l k _ hx
      obtain ⟨hs1, hs2⟩ := hok _ (List.mem_of_getElem? hx)
      have hs1 : ka.size ≤ 1000000 := hs1
      have hs2 : kb.size ≤ 1000000 := hs2
      refine wl_ov (ov_move rfl) rfl ?_
      refine wl_ov (ov_index (j := k) es116 rfl rfl (by omega)) rfl ?_
      refine wl_ov (ov_elem (vs := [.string ka, .string kb, .int .i64 ce]) rz201 rfl (fun _ hm => (hm.fact 0 rfl).1) hx rfl rfl) rfl ?_
      refine wl_alloc zc201 rfl fun g1 => ?_
      refine wl_ov (ov_assign rfl) rfl ?_
      refine wl_stores (cs' := [.string ka, .string kb, .int .i64 ce]) 0 rz201 rfl rfl rfl rfl rfl rfl rfl rfl ?_
      refine wl_nil ?_
      refine nx_then ?_
      refine gw_block ?_
      refine gw_seq ?_
      refine gw_region ?_
      refine wl_ov (ov_field fo201_0 rfl rfl) rfl ?_
      refine wl_ov (ov_load sc9 rfl (fun _ hm => hm.blkI 0 rfl) rfl) rfl ?_
      refine wl_callv rfl cb90 rfl rfl (fun wx hm => (key_any _ wx (by omega))) ?_
      refine wl_ov (ov_un_not rfl) rfl ?_
      refine wl_ov (ov_move rfl) rfl ?_
      rcases Bool.eq_false_or_eq_true (!(keyB ka)) with h2 | h2
      · refine wl_set 20 rfl (congrArg Value.bool h2) ?_
        have h2 : keyB ka = false := by simpa using h2
        refine wl_guard_off rfl rfl rfl (by decide) rfl ?_
        refine wl_guard_off rfl rfl rfl (by decide) rfl ?_
        refine wl_guard_off rfl rfl rfl (by decide) rfl ?_
        refine wl_guard_off rfl rfl rfl (by decide) rfl ?_
        refine wl_ov (ov_pick_t rfl rfl) rfl ?_
        refine wl_ov (ov_assign rfl) rfl ?_
        refine wl_nil ?_
        refine nx_then ?_
        refine gw_cond rfl (fun _ => ?_) (fun hh => by cases hh)
        refine gw_seq ?_
        refine gw_region ?_
        refine wl_ov (ov_assign rfl) rfl ?_
        refine wl_nil ?_
        refine nx_then ?_
        refine gw_ret ?_
        refine nx_blk_ret ?_
        refine nx_blk_ret ?_
        refine nx_then_ret ?_
        refine nx_then_ret ?_
        refine nx_blk_ret ?_
        refine nx_then_ret ?_
        have hE : feeE (prevOf l k) ⟨ka, kb, ce⟩ = 5 := by unfold feeE leFe; simp [h2]
        refine nx_ret1 rfl rfl fun wx hm => ?_
        exact ⟨ret_int (by rw [hinv.2, hat, if_neg (by rw [hE]; decide), hE]), hm.g⟩
      · refine wl_set 20 rfl (congrArg Value.bool h2) ?_
        have h2 : keyB ka = true := by simpa using h2
        refine wl_guard_on rfl rfl rfl ?_
        refine wl_ov (ov_field fo201_1 rfl rfl) rfl ?_
        refine wl_guard_on rfl rfl rfl ?_
        refine wl_ov (ov_load sc9 rfl (fun _ hm => hm.blkI 0 rfl) rfl) rfl ?_
        refine wl_guard_on rfl rfl rfl ?_
        refine wl_callv rfl cb90 rfl rfl (fun wx hm => (key_any _ wx (by omega))) ?_
        refine wl_guard_on rfl rfl rfl ?_
        refine wl_ov (ov_un_not rfl) rfl ?_
        refine wl_ov (ov_pick_f rfl rfl) rfl ?_
        refine wl_ov (ov_assign rfl) rfl ?_
        refine wl_nil ?_
        refine nx_then ?_
        refine gw_cond rfl (fun hh => ?_) (fun hh => ?_)
        · have h3 : (keyB kb) = false := by simpa using hh
          clear hh
          refine gw_seq ?_
          refine gw_region ?_
          have h3 : keyB kb = false := by simpa using h3
          refine wl_ov (ov_assign rfl) rfl ?_
          refine wl_nil ?_
          refine nx_then ?_
          refine gw_ret ?_
          refine nx_blk_ret ?_
          refine nx_blk_ret ?_
          refine nx_then_ret ?_
          refine nx_then_ret ?_
          refine nx_blk_ret ?_
          refine nx_then_ret ?_
          have hE : feeE (prevOf l k) ⟨ka, kb, ce⟩ = 5 := by unfold feeE leFe; simp [h2, h3]
          refine nx_ret1 rfl rfl fun wx hm => ?_
          exact ⟨ret_int (by rw [hinv.2, hat, if_neg (by rw [hE]; decide), hE]), hm.g⟩
        · have h3 : (keyB kb) = true := by simpa using hh
          clear hh
          refine gw_seq ?_
          refine gw_region ?_
          have h3 : keyB kb = true := by simpa using h3
          refine wl_ov (ov_field fo201_0 rfl rfl) rfl ?_
          refine wl_ov (ov_load sc9 rfl (fun _ hm => hm.blkI 0 rfl) rfl) rfl ?_
          refine wl_ov (ov_field fo201_1 rfl rfl) rfl ?_
          refine wl_ov (ov_load sc9 rfl (fun _ hm => hm.blkI 0 rfl) rfl) rfl ?_
          refine wl_ov (ov_seql rfl rfl) rfl ?_
          refine wl_ov (ov_assign rfl) rfl ?_
          refine wl_nil ?_
          refine nx_then ?_
          refine gw_cond rfl (fun hh => ?_) (fun hh => ?_)
          · have h4 : (ka.toList == kb.toList) = true := by simpa using hh
            clear hh
            refine gw_seq ?_
            refine gw_region ?_
            refine wl_ov (ov_assign rfl) rfl ?_
            refine wl_nil ?_
            refine nx_then ?_
            refine gw_ret ?_
            refine nx_blk_ret ?_
            refine nx_blk_ret ?_
            refine nx_then_ret ?_
            refine nx_then_ret ?_
            refine nx_blk_ret ?_
            refine nx_then_ret ?_
            have hE : feeE (prevOf l k) ⟨ka, kb, ce⟩ = 14 := by unfold feeE leFe; simp [h2, h3, (beq_iff_eq.1 h4)]
            refine nx_ret1 rfl rfl fun wx hm => ?_
            exact ⟨ret_int (by rw [hinv.2, hat, if_neg (by rw [hE]; decide), hE]), hm.g⟩
          · have h4 : (ka.toList == kb.toList) = false := by simpa using hh
            clear hh
            refine gw_seq ?_
            have h4 : ¬ ka.toList = kb.toList := by simpa using h4
            by_cases hk0 : k = 0
            · refine gw_draw (fun wz => Blk wz g1 201 [.string ka, .string kb, .int .i64 ce] ∧ (SlOld feEnc 3 201 w.heap.size none (some ⟨b, off, none⟩) n l) wz ∧ True) mixed ?_
              refine wa_take 0 rfl (by kernel_rfl) (by kernel_rfl) (by kernel_rfl) (listed' := #[true, false, false, false, false, false, false, false, false, false, false, false, false, false, false, false, false, false, false, false, false, false, false, false, false, false, false, false, false, false, false, false, false, false, false, false]) rfl (fun _ _ _ h => h) (fun _ hm => ⟨hm.blkI 0 rfl, hm.fact 0 rfl, trivial⟩) (ov_move rfl) rfl ?_
              refine wa_take 1 rfl (by kernel_rfl) (by kernel_rfl) (by kernel_rfl) (listed' := #[true, true, false, false, false, false, false, false, false, false, false, false, false, false, false, false, false, false, false, false, false, false, false, false, false, false, false, false, false, false, false, false, false, false, false, false]) rfl (fun _ _ _ h => h) (fun _ hm => ⟨hm.blkI 0 rfl, hm.fact 0 rfl, trivial⟩) (ov_gtr rfl rfl) rfl ?_
              refine wa_set 34 (v' := .bool false) rfl (congrArg Value.bool (decide_eq_false (by omega))) ?_
              refine wa_take 2 rfl (by kernel_rfl) (by kernel_rfl) (by kernel_rfl) (listed' := #[true, true, true, false, false, false, false, false, false, false, false, false, false, false, false, false, false, false, false, false, false, false, false, false, false, false, false, false, false, false, false, false, false, false, false, false]) rfl (fun _ _ _ h => h) (fun _ hm => ⟨hm.blkI 0 rfl, hm.fact 0 rfl, trivial⟩) (ov_move rfl) rfl ?_
              refine wa_take_off 3 rfl rfl rfl (by decide) (by kernel_rfl) (by kernel_rfl) (by kernel_rfl) (listed' := #[true, true, true, true, false, false, false, false, false, false, false, false, false, false, false, false, false, false, false, false, false, false, false, false, false, false, false, false, false, false, false, false, false, false, false, false]) rfl (fun _ _ _ h => h) (fun _ hm => ⟨hm.blkI 0 rfl, hm.fact 0 rfl, trivial⟩) rfl ?_
              refine wa_take_off 4 rfl rfl rfl (by decide) (by kernel_rfl) (by kernel_rfl) (by kernel_rfl) (listed' := #[true, true, true, true, true, false, false, false, false, false, false, false, false, false, false, false, false, false, false, false, false, false, false, false, false, false, false, false, false, false, false, false, false, false, false, false]) rfl (fun _ _ _ h => h) (fun _ hm => ⟨hm.blkI 0 rfl, hm.fact 0 rfl, trivial⟩) rfl ?_
              refine wa_take_off 5 rfl rfl rfl (by decide) (by kernel_rfl) (by kernel_rfl) (by kernel_rfl) (listed' := #[true, true, true, true, true, true, false, false, false, false, false, false, false, false, false, false, false, false, false, false, false, false, false, false, false, false, false, false, false, false, false, false, false, false, false, false]) rfl (fun _ _ _ h => h) (fun _ hm => ⟨hm.blkI 0 rfl, hm.fact 0 rfl, trivial⟩) rfl ?_
              refine wa_take_off 6 rfl rfl rfl (by decide) (by kernel_rfl) (by kernel_rfl) (by kernel_rfl) (listed' := #[true, true, true, true, true, true, true, false, false, false, false, false, false, false, false, false, false, false, false, false, false, false, false, false, false, false, false, false, false, false, false, false, false, false, false, false]) rfl (fun _ _ _ h => h) (fun _ hm => ⟨hm.blkI 0 rfl, hm.fact 0 rfl, trivial⟩) rfl ?_
              refine wa_take_off 7 rfl rfl rfl (by decide) (by kernel_rfl) (by kernel_rfl) (by kernel_rfl) (listed' := #[true, true, true, true, true, true, true, true, false, false, false, false, false, false, false, false, false, false, false, false, false, false, false, false, false, false, false, false, false, false, false, false, false, false, false, false]) rfl (fun _ _ _ h => h) (fun _ hm => ⟨hm.blkI 0 rfl, hm.fact 0 rfl, trivial⟩) rfl ?_
              refine wa_take_off 8 rfl rfl rfl (by decide) (by kernel_rfl) (by kernel_rfl) (by kernel_rfl) (listed' := #[true, true, true, true, true, true, true, true, true, false, false, false, false, false, false, false, false, false, false, false, false, false, false, false, false, false, false, false, false, false, false, false, false, false, false, false]) rfl (fun _ _ _ h => h) (fun _ hm => ⟨hm.blkI 0 rfl, hm.fact 0 rfl, trivial⟩) rfl ?_
              refine wa_take_off 9 rfl rfl rfl (by decide) (by kernel_rfl) (by kernel_rfl) (by kernel_rfl) (listed' := #[true, true, true, true, true, true, true, true, true, true, false, false, false, false, false, false, false, false, false, false, false, false, false, false, false, false, false, false, false, false, false, false, false, false, false, false]) rfl (fun _ _ _ h => h) (fun _ hm => ⟨hm.blkI 0 rfl, hm.fact 0 rfl, trivial⟩) rfl ?_
              refine wa_take_off 10 rfl rfl rfl (by decide) (by kernel_rfl) (by kernel_rfl) (by kernel_rfl) (listed' := #[true, true, true, true, true, true, true, true, true, true, true, false, false, false, false, false, false, false, false, false, false, false, false, false, false, false, false, false, false, false, false, false, false, false, false, false]) rfl (fun _ _ _ h => h) (fun _ hm => ⟨hm.blkI 0 rfl, hm.fact 0 rfl, trivial⟩) rfl ?_
              refine wa_take_off 11 rfl rfl rfl (by decide) (by kernel_rfl) (by kernel_rfl) (by kernel_rfl) (listed' := #[true, true, true, true, true, true, true, true, true, true, true, true, false, false, false, false, false, false, false, false, false, false, false, false, false, false, false, false, false, false, false, false, false, false, false, false]) rfl (fun _ _ _ h => h) (fun _ hm => ⟨hm.blkI 0 rfl, hm.fact 0 rfl, trivial⟩) rfl ?_
              refine wa_take_off 12 rfl rfl rfl (by decide) (by kernel_rfl) (by kernel_rfl) (by kernel_rfl) (listed' := #[true, true, true, true, true, true, true, true, true, true, true, true, true, false, false, false, false, false, false, false, false, false, false, false, false, false, false, false, false, false, false, false, false, false, false, false]) rfl (fun _ _ _ h => h) (fun _ hm => ⟨hm.blkI 0 rfl, hm.fact 0 rfl, trivial⟩) rfl ?_
              refine wa_take_undef 13 rfl rfl rfl (by kernel_rfl) (by kernel_rfl) (by kernel_rfl) (listed' := #[true, true, true, true, true, true, true, true, true, true, true, true, true, true, false, false, false, false, false, false, false, false, false, false, false, false, false, false, false, false, false, false, false, false, false, false]) rfl (fun _ _ _ h => h) (fun _ hm => ⟨hm.blkI 0 rfl, hm.fact 0 rfl, trivial⟩) rfl ?_
              refine wa_take_undef 14 rfl rfl rfl (by kernel_rfl) (by kernel_rfl) (by kernel_rfl) (listed' := #[true, true, true, true, true, true, true, true, true, true, true, true, true, true, true, false, false, false, false, false, false, false, false, false, false, false, false, false, false, false, false, false, false, false, false, false]) rfl (fun _ _ _ h => h) (fun _ hm => ⟨hm.blkI 0 rfl, hm.fact 0 rfl, trivial⟩) rfl ?_
              refine wa_take_undef 15 rfl rfl rfl (by kernel_rfl) (by kernel_rfl) (by kernel_rfl) (listed' := #[true, true, true, true, true, true, true, true, true, true, true, true, true, true, true, true, false, false, false, false, false, false, false, false, false, false, false, false, false, false, false, false, false, false, false, false]) rfl (fun _ _ _ h => h) (fun _ hm => ⟨hm.blkI 0 rfl, hm.fact 0 rfl, trivial⟩) rfl ?_
              refine wa_take_undef 16 rfl rfl rfl (by kernel_rfl) (by kernel_rfl) (by kernel_rfl) (listed' := #[true, true, true, true, true, true, true, true, true, true, true, true, true, true, true, true, true, false, false, false, false, false, false, false, false, false, false, false, false, false, false, false, false, false, false, false]) rfl (fun _ _ _ h => h) (fun _ hm => ⟨hm.blkI 0 rfl, hm.fact 0 rfl, trivial⟩) rfl ?_
              refine wa_take_undef 17 rfl rfl rfl (by kernel_rfl) (by kernel_rfl) (by kernel_rfl) (listed' := #[true, true, true, true, true, true, true, true, true, true, true, true, true, true, true, true, true, true, false, false, false, false, false, false, false, false, false, false, false, false, false, false, false, false, false, false]) rfl (fun _ _ _ h => h) (fun _ hm => ⟨hm.blkI 0 rfl, hm.fact 0 rfl, trivial⟩) rfl ?_
              refine wa_take_undef 18 rfl rfl rfl (by kernel_rfl) (by kernel_rfl) (by kernel_rfl) (listed' := #[true, true, true, true, true, true, true, true, true, true, true, true, true, true, true, true, true, true, true, false, false, false, false, false, false, false, false, false, false, false, false, false, false, false, false, false]) rfl (fun _ _ _ h => h) (fun _ hm => ⟨hm.blkI 0 rfl, hm.fact 0 rfl, trivial⟩) rfl ?_
              refine wa_take_undef 19 rfl rfl rfl (by kernel_rfl) (by kernel_rfl) (by kernel_rfl) (listed' := #[true, true, true, true, true, true, true, true, true, true, true, true, true, true, true, true, true, true, true, true, false, false, false, false, false, false, false, false, false, false, false, false, false, false, false, false]) rfl (fun _ _ _ h => h) (fun _ hm => ⟨hm.blkI 0 rfl, hm.fact 0 rfl, trivial⟩) rfl ?_
              refine wa_take_undef 20 rfl rfl rfl (by kernel_rfl) (by kernel_rfl) (by kernel_rfl) (listed' := #[true, true, true, true, true, true, true, true, true, true, true, true, true, true, true, true, true, true, true, true, true, false, false, false, false, false, false, false, false, false, false, false, false, false, false, false]) rfl (fun _ _ _ h => h) (fun _ hm => ⟨hm.blkI 0 rfl, hm.fact 0 rfl, trivial⟩) rfl ?_
              refine wa_take_undef 21 rfl rfl rfl (by kernel_rfl) (by kernel_rfl) (by kernel_rfl) (listed' := #[true, true, true, true, true, true, true, true, true, true, true, true, true, true, true, true, true, true, true, true, true, true, false, false, false, false, false, false, false, false, false, false, false, false, false, false]) rfl (fun _ _ _ h => h) (fun _ hm => ⟨hm.blkI 0 rfl, hm.fact 0 rfl, trivial⟩) rfl ?_
              refine wa_take_undef 22 rfl rfl rfl (by kernel_rfl) (by kernel_rfl) (by kernel_rfl) (listed' := #[true, true, true, true, true, true, true, true, true, true, true, true, true, true, true, true, true, true, true, true, true, true, true, false, false, false, false, false, false, false, false, false, false, false, false, false]) rfl (fun _ _ _ h => h) (fun _ hm => ⟨hm.blkI 0 rfl, hm.fact 0 rfl, trivial⟩) rfl ?_
              refine wa_take_undef 23 rfl rfl rfl (by kernel_rfl) (by kernel_rfl) (by kernel_rfl) (listed' := #[true, true, true, true, true, true, true, true, true, true, true, true, true, true, true, true, true, true, true, true, true, true, true, true, false, false, false, false, false, false, false, false, false, false, false, false]) rfl (fun _ _ _ h => h) (fun _ hm => ⟨hm.blkI 0 rfl, hm.fact 0 rfl, trivial⟩) rfl ?_
              refine wa_take_undef 24 rfl rfl rfl (by kernel_rfl) (by kernel_rfl) (by kernel_rfl) (listed' := #[true, true, true, true, true, true, true, true, true, true, true, true, true, true, true, true, true, true, true, true, true, true, true, true, true, false, false, false, false, false, false, false, false, false, false, false]) rfl (fun _ _ _ h => h) (fun _ hm => ⟨hm.blkI 0 rfl, hm.fact 0 rfl, trivial⟩) rfl ?_
              refine wa_take_undef 25 rfl rfl rfl (by kernel_rfl) (by kernel_rfl) (by kernel_rfl) (listed' := #[true, true, true, true, true, true, true, true, true, true, true, true, true, true, true, true, true, true, true, true, true, true, true, true, true, true, false, false, false, false, false, false, false, false, false, false]) rfl (fun _ _ _ h => h) (fun _ hm => ⟨hm.blkI 0 rfl, hm.fact 0 rfl, trivial⟩) rfl ?_
              refine wa_take_undef 26 rfl rfl rfl (by kernel_rfl) (by kernel_rfl) (by kernel_rfl) (listed' := #[true, true, true, true, true, true, true, true, true, true, true, true, true, true, true, true, true, true, true, true, true, true, true, true, true, true, true, false, false, false, false, false, false, false, false, false]) rfl (fun _ _ _ h => h) (fun _ hm => ⟨hm.blkI 0 rfl, hm.fact 0 rfl, trivial⟩) rfl ?_
              refine wa_take_undef 27 rfl rfl rfl (by kernel_rfl) (by kernel_rfl) (by kernel_rfl) (listed' := #[true, true, true, true, true, true, true, true, true, true, true, true, true, true, true, true, true, true, true, true, true, true, true, true, true, true, true, true, false, false, false, false, false, false, false, false]) rfl (fun _ _ _ h => h) (fun _ hm => ⟨hm.blkI 0 rfl, hm.fact 0 rfl, trivial⟩) rfl ?_
              refine wa_take_undef 28 rfl rfl rfl (by kernel_rfl) (by kernel_rfl) (by kernel_rfl) (listed' := #[true, true, true, true, true, true, true, true, true, true, true, true, true, true, true, true, true, true, true, true, true, true, true, true, true, true, true, true, true, false, false, false, false, false, false, false]) rfl (fun _ _ _ h => h) (fun _ hm => ⟨hm.blkI 0 rfl, hm.fact 0 rfl, trivial⟩) rfl ?_
              refine wa_take_undef 29 rfl rfl rfl (by kernel_rfl) (by kernel_rfl) (by kernel_rfl) (listed' := #[true, true, true, true, true, true, true, true, true, true, true, true, true, true, true, true, true, true, true, true, true, true, true, true, true, true, true, true, true, true, false, false, false, false, false, false]) rfl (fun _ _ _ h => h) (fun _ hm => ⟨hm.blkI 0 rfl, hm.fact 0 rfl, trivial⟩) rfl ?_
              refine wa_take_undef 30 rfl rfl rfl (by kernel_rfl) (by kernel_rfl) (by kernel_rfl) (listed' := #[true, true, true, true, true, true, true, true, true, true, true, true, true, true, true, true, true, true, true, true, true, true, true, true, true, true, true, true, true, true, true, false, false, false, false, false]) rfl (fun _ _ _ h => h) (fun _ hm => ⟨hm.blkI 0 rfl, hm.fact 0 rfl, trivial⟩) rfl ?_
              refine wa_take_undef 31 rfl rfl rfl (by kernel_rfl) (by kernel_rfl) (by kernel_rfl) (listed' := #[true, true, true, true, true, true, true, true, true, true, true, true, true, true, true, true, true, true, true, true, true, true, true, true, true, true, true, true, true, true, true, true, false, false, false, false]) rfl (fun _ _ _ h => h) (fun _ hm => ⟨hm.blkI 0 rfl, hm.fact 0 rfl, trivial⟩) rfl ?_
              refine wa_take_undef 32 rfl rfl rfl (by kernel_rfl) (by kernel_rfl) (by kernel_rfl) (listed' := #[true, true, true, true, true, true, true, true, true, true, true, true, true, true, true, true, true, true, true, true, true, true, true, true, true, true, true, true, true, true, true, true, true, false, false, false]) rfl (fun _ _ _ h => h) (fun _ hm => ⟨hm.blkI 0 rfl, hm.fact 0 rfl, trivial⟩) rfl ?_
              refine wa_take_off 33 rfl rfl rfl (by decide) (by kernel_rfl) (by kernel_rfl) (by kernel_rfl) (listed' := #[true, true, true, true, true, true, true, true, true, true, true, true, true, true, true, true, true, true, true, true, true, true, true, true, true, true, true, true, true, true, true, true, true, true, false, false]) rfl (fun _ _ _ h => h) (fun _ hm => ⟨hm.blkI 0 rfl, hm.fact 0 rfl, trivial⟩) rfl ?_
              refine wa_take 34 rfl (by kernel_rfl) (by kernel_rfl) (by kernel_rfl) (listed' := #[true, true, true, true, true, true, true, true, true, true, true, true, true, true, true, true, true, true, true, true, true, true, true, true, true, true, true, true, true, true, true, true, true, true, true, false]) rfl (fun _ _ _ h => h) (fun _ hm => ⟨hm.blkI 0 rfl, hm.fact 0 rfl, trivial⟩) (ov_pick_f rfl rfl) rfl ?_
              refine wa_take 35 rfl (by kernel_rfl) (by kernel_rfl) (by kernel_rfl) (listed' := #[true, true, true, true, true, true, true, true, true, true, true, true, true, true, true, true, true, true, true, true, true, true, true, true, true, true, true, true, true, true, true, true, true, true, true, true]) rfl (fun _ _ _ h => h) (fun _ hm => ⟨hm.blkI 0 rfl, hm.fact 0 rfl, trivial⟩) (ov_assign rfl) rfl ?_
              refine wa_done (by kernel_rfl) ?_
              refine nx_then ?_
              refine gw_cond rfl (fun hh => by cases hh) (fun _ => ?_)
              refine gw_seq ?_
              refine gw_region ?_
              refine wl_ov (ov_field fo201_2 rfl rfl) rfl ?_
              refine wl_ov (ov_load sc3 rfl (fun _ hm => hm.blkI 0 rfl) rfl) rfl ?_
              refine wl_callw rfl cb91 rfl rfl (fun wx hm => (rin_any _ _ _ wx)) ?_
              refine wl_ov (ov_un_not rfl) rfl ?_
              refine wl_ov (ov_assign rfl) rfl ?_
              refine wl_nil ?_
              refine nx_then ?_
              refine gw_cond rfl (fun hh => ?_) (fun hh => ?_)
              · have h9 : (inB ce 0 1000000) = false := by simpa using hh
                clear hh
                refine gw_seq ?_
                refine gw_region ?_
                refine wl_ov (ov_assign rfl) rfl ?_
                refine wl_nil ?_
                refine nx_then ?_
                refine gw_ret ?_
                refine nx_blk_ret ?_
                refine nx_blk_ret ?_
                refine nx_then_ret ?_
                refine nx_then_ret ?_
                refine nx_blk_ret ?_
                refine nx_then_ret ?_
                have hE : feeE (prevOf l k) ⟨ka, kb, ce⟩ = 1 := by unfold feeE leFe; rw [pv_zero hk0]; simp [h2, h3, h4, h9]
                refine nx_ret1 rfl rfl fun wx hm => ?_
                exact ⟨ret_int (by rw [hinv.2, hat, if_neg (by rw [hE]; decide), hE]), hm.g⟩
              · have h9 : (inB ce 0 1000000) = true := by simpa using hh
                clear hh
                refine gw_skip ?_
                refine nx_blk_nrm ?_
                refine nx_blk_nrm ?_
                refine nx_then ?_
                refine gw_region ?_
                have hE : feeE (prevOf l k) ⟨ka, kb, ce⟩ = 0 := by unfold feeE leFe; rw [pv_zero hk0]; simp [h2, h3, h4, h9]
                refine wl_ov (ov_add rfl rfl (by omega) (by omega)) rfl ?_
                refine wl_ov (ov_move rfl) rfl ?_
                refine wl_nil ?_
                exact nx_round (k + 1) ⟨by omega, by rw [hinv.2, hat, if_pos hE]⟩ (by omega) ⟨rfl, rfl, rfl, (some_int (by omega)), trivial⟩ (fun _ hm => hm.pick [] [] [0] rfl rfl)
            · obtain ⟨y, hy⟩ : ∃ x, l[k - 1]? = some x := ⟨_, List.getElem?_eq_getElem (by omega)⟩
              obtain ⟨p0, p1, p2⟩ := y
              have hpv := pv_pos hk0 hy
              refine gw_draw (fun wz => Blk wz g1 201 [.string ka, .string kb, .int .i64 ce] ∧ (SlOld feEnc 3 201 w.heap.size none (some ⟨b, off, none⟩) n l) wz ∧ True) mixed ?_
              refine wa_take 0 rfl (by kernel_rfl) (by kernel_rfl) (by kernel_rfl) (listed' := #[true, false, false, false, false, false, false, false, false, false, false, false, false, false, false, false, false, false, false, false, false, false, false, false, false, false, false, false, false, false, false, false, false, false, false, false]) rfl (fun _ _ _ h => h) (fun _ hm => ⟨hm.blkI 0 rfl, hm.fact 0 rfl, trivial⟩) (ov_move rfl) rfl ?_
              refine wa_take 1 rfl (by kernel_rfl) (by kernel_rfl) (by kernel_rfl) (listed' := #[true, true, false, false, false, false, false, false, false, false, false, false, false, false, false, false, false, false, false, false, false, false, false, false, false, false, false, false, false, false, false, false, false, false, false, false]) rfl (fun _ _ _ h => h) (fun _ hm => ⟨hm.blkI 0 rfl, hm.fact 0 rfl, trivial⟩) (ov_gtr rfl rfl) rfl ?_
              refine wa_set 34 (v' := .bool true) rfl (congrArg Value.bool (decide_eq_true (by omega))) ?_
              refine wa_take 2 rfl (by kernel_rfl) (by kernel_rfl) (by kernel_rfl) (listed' := #[true, true, true, false, false, false, false, false, false, false, false, false, false, false, false, false, false, false, false, false, false, false, false, false, false, false, false, false, false, false, false, false, false, false, false, false]) rfl (fun _ _ _ h => h) (fun _ hm => ⟨hm.blkI 0 rfl, hm.fact 0 rfl, trivial⟩) (ov_move rfl) rfl ?_
              refine wa_take_on 3 rfl rfl rfl (by kernel_rfl) (by kernel_rfl) (by kernel_rfl) (listed' := #[true, true, true, true, false, false, false, false, false, false, false, false, false, false, false, false, false, false, false, false, false, false, false, false, false, false, false, false, false, false, false, false, false, false, false, false]) rfl (fun _ _ _ h => h) (fun _ hm => ⟨hm.blkI 0 rfl, hm.fact 0 rfl, trivial⟩) (ov_field fo201_0 rfl rfl) rfl ?_
              refine wa_take_on 4 rfl rfl rfl (by kernel_rfl) (by kernel_rfl) (by kernel_rfl) (listed' := #[true, true, true, true, true, false, false, false, false, false, false, false, false, false, false, false, false, false, false, false, false, false, false, false, false, false, false, false, false, false, false, false, false, false, false, false]) rfl (fun _ _ _ h => h) (fun _ hm => ⟨hm.blkI 0 rfl, hm.fact 0 rfl, trivial⟩) (ov_load sc9 rfl (fun _ hm => hm.1) rfl) rfl ?_
              refine wa_take_on 5 rfl rfl rfl (by kernel_rfl) (by kernel_rfl) (by kernel_rfl) (listed' := #[true, true, true, true, true, true, false, false, false, false, false, false, false, false, false, false, false, false, false, false, false, false, false, false, false, false, false, false, false, false, false, false, false, false, false, false]) rfl (fun _ _ _ h => h) (fun _ hm => ⟨hm.blkI 0 rfl, hm.fact 0 rfl, trivial⟩) (ov_move rfl) rfl ?_
              refine wa_take_on 6 rfl rfl rfl (by kernel_rfl) (by kernel_rfl) (by kernel_rfl) (listed' := #[true, true, true, true, true, true, true, false, false, false, false, false, false, false, false, false, false, false, false, false, false, false, false, false, false, false, false, false, false, false, false, false, false, false, false, false]) rfl (fun _ _ _ h => h) (fun _ hm => ⟨hm.blkI 0 rfl, hm.fact 0 rfl, trivial⟩) (ov_move rfl) rfl ?_
              refine wa_take_on 7 rfl rfl rfl (by kernel_rfl) (by kernel_rfl) (by kernel_rfl) (listed' := #[true, true, true, true, true, true, true, true, false, false, false, false, false, false, false, false, false, false, false, false, false, false, false, false, false, false, false, false, false, false, false, false, false, false, false, false]) rfl (fun _ _ _ h => h) (fun _ hm => ⟨hm.blkI 0 rfl, hm.fact 0 rfl, trivial⟩) (ov_sub rfl rfl (by omega) (by omega)) rfl ?_
              refine wa_set 40 (v' := .int .i64 ((k - 1 : Nat) : Int)) rfl (congrArg (Value.int .i64) (by omega)) ?_
              refine wa_take_on 8 rfl rfl rfl (by kernel_rfl) (by kernel_rfl) (by kernel_rfl) (listed' := #[true, true, true, true, true, true, true, true, true, false, false, false, false, false, false, false, false, false, false, false, false, false, false, false, false, false, false, false, false, false, false, false, false, false, false, false]) rfl (fun _ _ _ h => h) (fun _ hm => ⟨hm.blkI 0 rfl, hm.fact 0 rfl, trivial⟩) (ov_index (j := k - 1) es116 rfl rfl (by omega)) rfl ?_
              refine wa_take_on 9 rfl rfl rfl (by kernel_rfl) (by kernel_rfl) (by kernel_rfl) (listed' := #[true, true, true, true, true, true, true, true, true, true, false, false, false, false, false, false, false, false, false, false, false, false, false, false, false, false, false, false, false, false, false, false, false, false, false, false]) rfl (fun _ _ _ h => h) (fun _ hm => ⟨hm.blkI 0 rfl, hm.fact 0 rfl, trivial⟩) (ov_field fo201_0 rfl rfl) rfl ?_
              refine wa_take_on 10 rfl rfl rfl (by kernel_rfl) (by kernel_rfl) (by kernel_rfl) (listed' := #[true, true, true, true, true, true, true, true, true, true, true, false, false, false, false, false, false, false, false, false, false, false, false, false, false, false, false, false, false, false, false, false, false, false, false, false]) rfl (fun _ _ _ h => h) (fun _ hm => ⟨hm.blkI 0 rfl, hm.fact 0 rfl, trivial⟩) (ov_elem1 (k := 0) (v := .string p0) sc9 rfl (fun _ hm => (hm.2.1).1) hy rfl rfl) rfl ?_
              refine wa_take_on 11 rfl rfl rfl (by kernel_rfl) (by kernel_rfl) (by kernel_rfl) (listed' := #[true, true, true, true, true, true, true, true, true, true, true, true, false, false, false, false, false, false, false, false, false, false, false, false, false, false, false, false, false, false, false, false, false, false, false, false]) rfl (fun _ _ _ h => h) (fun _ hm => ⟨hm.blkI 0 rfl, hm.fact 0 rfl, trivial⟩) (ov_slss rfl rfl) rfl ?_
              refine wa_take_on 12 rfl rfl rfl (by kernel_rfl) (by kernel_rfl) (by kernel_rfl) (listed' := #[true, true, true, true, true, true, true, true, true, true, true, true, true, false, false, false, false, false, false, false, false, false, false, false, false, false, false, false, false, false, false, false, false, false, false, false]) rfl (fun _ _ _ h => h) (fun _ hm => ⟨hm.blkI 0 rfl, hm.fact 0 rfl, trivial⟩) (ov_move rfl) rfl ?_
              rcases Bool.eq_false_or_eq_true (Op.bytesLess ka.toList p0.toList) with h5 | h5
              · refine wa_set 45 rfl (congrArg Value.bool h5) ?_
                have h8 : feLt ⟨p0, p1, p2⟩ ⟨ka, kb, ce⟩ = false := by have h := lt_fe ⟨p0, p1, p2⟩ ⟨ka, kb, ce⟩; simp only at h; rw [h5] at h; simpa using h.symm
                refine wa_take_off 13 rfl rfl rfl (by decide) (by kernel_rfl) (by kernel_rfl) (by kernel_rfl) (listed' := #[true, true, true, true, true, true, true, true, true, true, true, true, true, true, false, false, false, false, false, false, false, false, false, false, false, false, false, false, false, false, false, false, false, false, false, false]) rfl (fun _ _ _ h => h) (fun _ hm => ⟨hm.blkI 0 rfl, hm.fact 0 rfl, trivial⟩) rfl ?_
                refine wa_take_off 14 rfl rfl rfl (by decide) (by kernel_rfl) (by kernel_rfl) (by kernel_rfl) (listed' := #[true, true, true, true, true, true, true, true, true, true, true, true, true, true, true, false, false, false, false, false, false, false, false, false, false, false, false, false, false, false, false, false, false, false, false, false]) rfl (fun _ _ _ h => h) (fun _ hm => ⟨hm.blkI 0 rfl, hm.fact 0 rfl, trivial⟩) rfl ?_
                refine wa_take_off 15 rfl rfl rfl (by decide) (by kernel_rfl) (by kernel_rfl) (by kernel_rfl) (listed' := #[true, true, true, true, true, true, true, true, true, true, true, true, true, true, true, true, false, false, false, false, false, false, false, false, false, false, false, false, false, false, false, false, false, false, false, false]) rfl (fun _ _ _ h => h) (fun _ hm => ⟨hm.blkI 0 rfl, hm.fact 0 rfl, trivial⟩) rfl ?_
                refine wa_take_off 16 rfl rfl rfl (by decide) (by kernel_rfl) (by kernel_rfl) (by kernel_rfl) (listed' := #[true, true, true, true, true, true, true, true, true, true, true, true, true, true, true, true, true, false, false, false, false, false, false, false, false, false, false, false, false, false, false, false, false, false, false, false]) rfl (fun _ _ _ h => h) (fun _ hm => ⟨hm.blkI 0 rfl, hm.fact 0 rfl, trivial⟩) rfl ?_
                refine wa_take_off 17 rfl rfl rfl (by decide) (by kernel_rfl) (by kernel_rfl) (by kernel_rfl) (listed' := #[true, true, true, true, true, true, true, true, true, true, true, true, true, true, true, true, true, true, false, false, false, false, false, false, false, false, false, false, false, false, false, false, false, false, false, false]) rfl (fun _ _ _ h => h) (fun _ hm => ⟨hm.blkI 0 rfl, hm.fact 0 rfl, trivial⟩) rfl ?_
                refine wa_take_off 18 rfl rfl rfl (by decide) (by kernel_rfl) (by kernel_rfl) (by kernel_rfl) (listed' := #[true, true, true, true, true, true, true, true, true, true, true, true, true, true, true, true, true, true, true, false, false, false, false, false, false, false, false, false, false, false, false, false, false, false, false, false]) rfl (fun _ _ _ h => h) (fun _ hm => ⟨hm.blkI 0 rfl, hm.fact 0 rfl, trivial⟩) rfl ?_
                refine wa_take_off 19 rfl rfl rfl (by decide) (by kernel_rfl) (by kernel_rfl) (by kernel_rfl) (listed' := #[true, true, true, true, true, true, true, true, true, true, true, true, true, true, true, true, true, true, true, true, false, false, false, false, false, false, false, false, false, false, false, false, false, false, false, false]) rfl (fun _ _ _ h => h) (fun _ hm => ⟨hm.blkI 0 rfl, hm.fact 0 rfl, trivial⟩) rfl ?_
                refine wa_take_off 20 rfl rfl rfl (by decide) (by kernel_rfl) (by kernel_rfl) (by kernel_rfl) (listed' := #[true, true, true, true, true, true, true, true, true, true, true, true, true, true, true, true, true, true, true, true, true, false, false, false, false, false, false, false, false, false, false, false, false, false, false, false]) rfl (fun _ _ _ h => h) (fun _ hm => ⟨hm.blkI 0 rfl, hm.fact 0 rfl, trivial⟩) rfl ?_
                refine wa_take_off 21 rfl rfl rfl (by decide) (by kernel_rfl) (by kernel_rfl) (by kernel_rfl) (listed' := #[true, true, true, true, true, true, true, true, true, true, true, true, true, true, true, true, true, true, true, true, true, true, false, false, false, false, false, false, false, false, false, false, false, false, false, false]) rfl (fun _ _ _ h => h) (fun _ hm => ⟨hm.blkI 0 rfl, hm.fact 0 rfl, trivial⟩) rfl ?_
                refine wa_take_off 22 rfl rfl rfl (by decide) (by kernel_rfl) (by kernel_rfl) (by kernel_rfl) (listed' := #[true, true, true, true, true, true, true, true, true, true, true, true, true, true, true, true, true, true, true, true, true, true, true, false, false, false, false, false, false, false, false, false, false, false, false, false]) rfl (fun _ _ _ h => h) (fun _ hm => ⟨hm.blkI 0 rfl, hm.fact 0 rfl, trivial⟩) rfl ?_
                refine wa_take_undef 23 rfl rfl rfl (by kernel_rfl) (by kernel_rfl) (by kernel_rfl) (listed' := #[true, true, true, true, true, true, true, true, true, true, true, true, true, true, true, true, true, true, true, true, true, true, true, true, false, false, false, false, false, false, false, false, false, false, false, false]) rfl (fun _ _ _ h => h) (fun _ hm => ⟨hm.blkI 0 rfl, hm.fact 0 rfl, trivial⟩) rfl ?_
                refine wa_take_undef 24 rfl rfl rfl (by kernel_rfl) (by kernel_rfl) (by kernel_rfl) (listed' := #[true, true, true, true, true, true, true, true, true, true, true, true, true, true, true, true, true, true, true, true, true, true, true, true, true, false, false, false, false, false, false, false, false, false, false, false]) rfl (fun _ _ _ h => h) (fun _ hm => ⟨hm.blkI 0 rfl, hm.fact 0 rfl, trivial⟩) rfl ?_
                refine wa_take_undef 25 rfl rfl rfl (by kernel_rfl) (by kernel_rfl) (by kernel_rfl) (listed' := #[true, true, true, true, true, true, true, true, true, true, true, true, true, true, true, true, true, true, true, true, true, true, true, true, true, true, false, false, false, false, false, false, false, false, false, false]) rfl (fun _ _ _ h => h) (fun _ hm => ⟨hm.blkI 0 rfl, hm.fact 0 rfl, trivial⟩) rfl ?_
                refine wa_take_undef 26 rfl rfl rfl (by kernel_rfl) (by kernel_rfl) (by kernel_rfl) (listed' := #[true, true, true, true, true, true, true, true, true, true, true, true, true, true, true, true, true, true, true, true, true, true, true, true, true, true, true, false, false, false, false, false, false, false, false, false]) rfl (fun _ _ _ h => h) (fun _ hm => ⟨hm.blkI 0 rfl, hm.fact 0 rfl, trivial⟩) rfl ?_
                refine wa_take_undef 27 rfl rfl rfl (by kernel_rfl) (by kernel_rfl) (by kernel_rfl) (listed' := #[true, true, true, true, true, true, true, true, true, true, true, true, true, true, true, true, true, true, true, true, true, true, true, true, true, true, true, true, false, false, false, false, false, false, false, false]) rfl (fun _ _ _ h => h) (fun _ hm => ⟨hm.blkI 0 rfl, hm.fact 0 rfl, trivial⟩) rfl ?_
                refine wa_take_undef 28 rfl rfl rfl (by kernel_rfl) (by kernel_rfl) (by kernel_rfl) (listed' := #[true, true, true, true, true, true, true, true, true, true, true, true, true, true, true, true, true, true, true, true, true, true, true, true, true, true, true, true, true, false, false, false, false, false, false, false]) rfl (fun _ _ _ h => h) (fun _ hm => ⟨hm.blkI 0 rfl, hm.fact 0 rfl, trivial⟩) rfl ?_
                refine wa_take_undef 29 rfl rfl rfl (by kernel_rfl) (by kernel_rfl) (by kernel_rfl) (listed' := #[true, true, true, true, true, true, true, true, true, true, true, true, true, true, true, true, true, true, true, true, true, true, true, true, true, true, true, true, true, true, false, false, false, false, false, false]) rfl (fun _ _ _ h => h) (fun _ hm => ⟨hm.blkI 0 rfl, hm.fact 0 rfl, trivial⟩) rfl ?_
                refine wa_take_undef 30 rfl rfl rfl (by kernel_rfl) (by kernel_rfl) (by kernel_rfl) (listed' := #[true, true, true, true, true, true, true, true, true, true, true, true, true, true, true, true, true, true, true, true, true, true, true, true, true, true, true, true, true, true, true, false, false, false, false, false]) rfl (fun _ _ _ h => h) (fun _ hm => ⟨hm.blkI 0 rfl, hm.fact 0 rfl, trivial⟩) rfl ?_
                refine wa_take_undef 31 rfl rfl rfl (by kernel_rfl) (by kernel_rfl) (by kernel_rfl) (listed' := #[true, true, true, true, true, true, true, true, true, true, true, true, true, true, true, true, true, true, true, true, true, true, true, true, true, true, true, true, true, true, true, true, false, false, false, false]) rfl (fun _ _ _ h => h) (fun _ hm => ⟨hm.blkI 0 rfl, hm.fact 0 rfl, trivial⟩) rfl ?_
                refine wa_take_off 32 rfl rfl rfl (by decide) (by kernel_rfl) (by kernel_rfl) (by kernel_rfl) (listed' := #[true, true, true, true, true, true, true, true, true, true, true, true, true, true, true, true, true, true, true, true, true, true, true, true, true, true, true, true, true, true, true, true, true, false, false, false]) rfl (fun _ _ _ h => h) (fun _ hm => ⟨hm.blkI 0 rfl, hm.fact 0 rfl, trivial⟩) rfl ?_
                refine wa_take_on 33 rfl rfl rfl (by kernel_rfl) (by kernel_rfl) (by kernel_rfl) (listed' := #[true, true, true, true, true, true, true, true, true, true, true, true, true, true, true, true, true, true, true, true, true, true, true, true, true, true, true, true, true, true, true, true, true, true, false, false]) rfl (fun _ _ _ h => h) (fun _ hm => ⟨hm.blkI 0 rfl, hm.fact 0 rfl, trivial⟩) (ov_pick_t rfl rfl) rfl ?_
                refine wa_take 34 rfl (by kernel_rfl) (by kernel_rfl) (by kernel_rfl) (listed' := #[true, true, true, true, true, true, true, true, true, true, true, true, true, true, true, true, true, true, true, true, true, true, true, true, true, true, true, true, true, true, true, true, true, true, true, false]) rfl (fun _ _ _ h => h) (fun _ hm => ⟨hm.blkI 0 rfl, hm.fact 0 rfl, trivial⟩) (ov_pick_t rfl rfl) rfl ?_
                refine wa_take 35 rfl (by kernel_rfl) (by kernel_rfl) (by kernel_rfl) (listed' := #[true, true, true, true, true, true, true, true, true, true, true, true, true, true, true, true, true, true, true, true, true, true, true, true, true, true, true, true, true, true, true, true, true, true, true, true]) rfl (fun _ _ _ h => h) (fun _ hm => ⟨hm.blkI 0 rfl, hm.fact 0 rfl, trivial⟩) (ov_assign rfl) rfl ?_
                refine wa_done (by kernel_rfl) ?_
                refine nx_then ?_
                refine gw_cond rfl (fun _ => ?_) (fun hh => by cases hh)
                refine gw_seq ?_
                refine gw_region ?_
                refine wl_ov (ov_assign rfl) rfl ?_
                refine wl_nil ?_
                refine nx_then ?_
                refine gw_ret ?_
                refine nx_blk_ret ?_
                refine nx_blk_ret ?_
                refine nx_then_ret ?_
                refine nx_then_ret ?_
                refine nx_blk_ret ?_
                refine nx_then_ret ?_
                have hE : feeE (prevOf l k) ⟨ka, kb, ce⟩ = 7 := by unfold feeE leFe; rw [hpv]; simp [h2, h3, h4, h8]
                refine nx_ret1 rfl rfl fun wx hm => ?_
                exact ⟨ret_int (by rw [hinv.2, hat, if_neg (by rw [hE]; decide), hE]), hm.g⟩
              · refine wa_set 45 rfl (congrArg Value.bool h5) ?_
                refine wa_take_on 13 rfl rfl rfl (by kernel_rfl) (by kernel_rfl) (by kernel_rfl) (listed' := #[true, true, true, true, true, true, true, true, true, true, true, true, true, true, false, false, false, false, false, false, false, false, false, false, false, false, false, false, false, false, false, false, false, false, false, false]) rfl (fun _ _ _ h => h) (fun _ hm => ⟨hm.blkI 0 rfl, hm.fact 0 rfl, trivial⟩) (ov_field fo201_0 rfl rfl) rfl ?_
                refine wa_take_on 14 rfl rfl rfl (by kernel_rfl) (by kernel_rfl) (by kernel_rfl) (listed' := #[true, true, true, true, true, true, true, true, true, true, true, true, true, true, true, false, false, false, false, false, false, false, false, false, false, false, false, false, false, false, false, false, false, false, false, false]) rfl (fun _ _ _ h => h) (fun _ hm => ⟨hm.blkI 0 rfl, hm.fact 0 rfl, trivial⟩) (ov_load sc9 rfl (fun _ hm => hm.1) rfl) rfl ?_
                refine wa_take_on 15 rfl rfl rfl (by kernel_rfl) (by kernel_rfl) (by kernel_rfl) (listed' := #[true, true, true, true, true, true, true, true, true, true, true, true, true, true, true, true, false, false, false, false, false, false, false, false, false, false, false, false, false, false, false, false, false, false, false, false]) rfl (fun _ _ _ h => h) (fun _ hm => ⟨hm.blkI 0 rfl, hm.fact 0 rfl, trivial⟩) (ov_move rfl) rfl ?_
                refine wa_take_on 16 rfl rfl rfl (by kernel_rfl) (by kernel_rfl) (by kernel_rfl) (listed' := #[true, true, true, true, true, true, true, true, true, true, true, true, true, true, true, true, true, false, false, false, false, false, false, false, false, false, false, false, false, false, false, false, false, false, false, false]) rfl (fun _ _ _ h => h) (fun _ hm => ⟨hm.blkI 0 rfl, hm.fact 0 rfl, trivial⟩) (ov_move rfl) rfl ?_
                refine wa_take_on 17 rfl rfl rfl (by kernel_rfl) (by kernel_rfl) (by kernel_rfl) (listed' := #[true, true, true, true, true, true, true, true, true, true, true, true, true, true, true, true, true, true, false, false, false, false, false, false, false, false, false, false, false, false, false, false, false, false, false, false]) rfl (fun _ _ _ h => h) (fun _ hm => ⟨hm.blkI 0 rfl, hm.fact 0 rfl, trivial⟩) (ov_sub rfl rfl (by omega) (by omega)) rfl ?_
                refine wa_set 50 (v' := .int .i64 ((k - 1 : Nat) : Int)) rfl (congrArg (Value.int .i64) (by omega)) ?_
                refine wa_take_on 18 rfl rfl rfl (by kernel_rfl) (by kernel_rfl) (by kernel_rfl) (listed' := #[true, true, true, true, true, true, true, true, true, true, true, true, true, true, true, true, true, true, true, false, false, false, false, false, false, false, false, false, false, false, false, false, false, false, false, false]) rfl (fun _ _ _ h => h) (fun _ hm => ⟨hm.blkI 0 rfl, hm.fact 0 rfl, trivial⟩) (ov_index (j := k - 1) es116 rfl rfl (by omega)) rfl ?_
                refine wa_take_on 19 rfl rfl rfl (by kernel_rfl) (by kernel_rfl) (by kernel_rfl) (listed' := #[true, true, true, true, true, true, true, true, true, true, true, true, true, true, true, true, true, true, true, true, false, false, false, false, false, false, false, false, false, false, false, false, false, false, false, false]) rfl (fun _ _ _ h => h) (fun _ hm => ⟨hm.blkI 0 rfl, hm.fact 0 rfl, trivial⟩) (ov_field fo201_0 rfl rfl) rfl ?_
                refine wa_take_on 20 rfl rfl rfl (by kernel_rfl) (by kernel_rfl) (by kernel_rfl) (listed' := #[true, true, true, true, true, true, true, true, true, true, true, true, true, true, true, true, true, true, true, true, true, false, false, false, false, false, false, false, false, false, false, false, false, false, false, false]) rfl (fun _ _ _ h => h) (fun _ hm => ⟨hm.blkI 0 rfl, hm.fact 0 rfl, trivial⟩) (ov_elem1 (k := 0) (v := .string p0) sc9 rfl (fun _ hm => (hm.2.1).1) hy rfl rfl) rfl ?_
                refine wa_take_on 21 rfl rfl rfl (by kernel_rfl) (by kernel_rfl) (by kernel_rfl) (listed' := #[true, true, true, true, true, true, true, true, true, true, true, true, true, true, true, true, true, true, true, true, true, true, false, false, false, false, false, false, false, false, false, false, false, false, false, false]) rfl (fun _ _ _ h => h) (fun _ hm => ⟨hm.blkI 0 rfl, hm.fact 0 rfl, trivial⟩) (ov_seql rfl rfl) rfl ?_
                refine wa_take_on 22 rfl rfl rfl (by kernel_rfl) (by kernel_rfl) (by kernel_rfl) (listed' := #[true, true, true, true, true, true, true, true, true, true, true, true, true, true, true, true, true, true, true, true, true, true, true, false, false, false, false, false, false, false, false, false, false, false, false, false]) rfl (fun _ _ _ h => h) (fun _ hm => ⟨hm.blkI 0 rfl, hm.fact 0 rfl, trivial⟩) (ov_move rfl) rfl ?_
                rcases Bool.eq_false_or_eq_true (ka.toList == p0.toList) with h6 | h6
                · refine wa_set 55 rfl (congrArg Value.bool h6) ?_
                  refine wa_take_on 23 rfl rfl rfl (by kernel_rfl) (by kernel_rfl) (by kernel_rfl) (listed' := #[true, true, true, true, true, true, true, true, true, true, true, true, true, true, true, true, true, true, true, true, true, true, true, true, false, false, false, false, false, false, false, false, false, false, false, false]) rfl (fun _ _ _ h => h) (fun _ hm => ⟨hm.blkI 0 rfl, hm.fact 0 rfl, trivial⟩) (ov_field fo201_1 rfl rfl) rfl ?_
                  refine wa_take_on 24 rfl rfl rfl (by kernel_rfl) (by kernel_rfl) (by kernel_rfl) (listed' := #[true, true, true, true, true, true, true, true, true, true, true, true, true, true, true, true, true, true, true, true, true, true, true, true, true, false, false, false, false, false, false, false, false, false, false, false]) rfl (fun _ _ _ h => h) (fun _ hm => ⟨hm.blkI 0 rfl, hm.fact 0 rfl, trivial⟩) (ov_load sc9 rfl (fun _ hm => hm.1) rfl) rfl ?_
                  refine wa_take_on 25 rfl rfl rfl (by kernel_rfl) (by kernel_rfl) (by kernel_rfl) (listed' := #[true, true, true, true, true, true, true, true, true, true, true, true, true, true, true, true, true, true, true, true, true, true, true, true, true, true, false, false, false, false, false, false, false, false, false, false]) rfl (fun _ _ _ h => h) (fun _ hm => ⟨hm.blkI 0 rfl, hm.fact 0 rfl, trivial⟩) (ov_move rfl) rfl ?_
                  refine wa_take_on 26 rfl rfl rfl (by kernel_rfl) (by kernel_rfl) (by kernel_rfl) (listed' := #[true, true, true, true, true, true, true, true, true, true, true, true, true, true, true, true, true, true, true, true, true, true, true, true, true, true, true, false, false, false, false, false, false, false, false, false]) rfl (fun _ _ _ h => h) (fun _ hm => ⟨hm.blkI 0 rfl, hm.fact 0 rfl, trivial⟩) (ov_move rfl) rfl ?_
                  refine wa_take_on 27 rfl rfl rfl (by kernel_rfl) (by kernel_rfl) (by kernel_rfl) (listed' := #[true, true, true, true, true, true, true, true, true, true, true, true, true, true, true, true, true, true, true, true, true, true, true, true, true, true, true, true, false, false, false, false, false, false, false, false]) rfl (fun _ _ _ h => h) (fun _ hm => ⟨hm.blkI 0 rfl, hm.fact 0 rfl, trivial⟩) (ov_sub rfl rfl (by omega) (by omega)) rfl ?_
                  refine wa_set 60 (v' := .int .i64 ((k - 1 : Nat) : Int)) rfl (congrArg (Value.int .i64) (by omega)) ?_
                  refine wa_take_on 28 rfl rfl rfl (by kernel_rfl) (by kernel_rfl) (by kernel_rfl) (listed' := #[true, true, true, true, true, true, true, true, true, true, true, true, true, true, true, true, true, true, true, true, true, true, true, true, true, true, true, true, true, false, false, false, false, false, false, false]) rfl (fun _ _ _ h => h) (fun _ hm => ⟨hm.blkI 0 rfl, hm.fact 0 rfl, trivial⟩) (ov_index (j := k - 1) es116 rfl rfl (by omega)) rfl ?_
                  refine wa_take_on 29 rfl rfl rfl (by kernel_rfl) (by kernel_rfl) (by kernel_rfl) (listed' := #[true, true, true, true, true, true, true, true, true, true, true, true, true, true, true, true, true, true, true, true, true, true, true, true, true, true, true, true, true, true, false, false, false, false, false, false]) rfl (fun _ _ _ h => h) (fun _ hm => ⟨hm.blkI 0 rfl, hm.fact 0 rfl, trivial⟩) (ov_field fo201_1 rfl rfl) rfl ?_
                  refine wa_take_on 30 rfl rfl rfl (by kernel_rfl) (by kernel_rfl) (by kernel_rfl) (listed' := #[true, true, true, true, true, true, true, true, true, true, true, true, true, true, true, true, true, true, true, true, true, true, true, true, true, true, true, true, true, true, true, false, false, false, false, false]) rfl (fun _ _ _ h => h) (fun _ hm => ⟨hm.blkI 0 rfl, hm.fact 0 rfl, trivial⟩) (ov_elem1 (k := 1) (v := .string p1) sc9 rfl (fun _ hm => (hm.2.1).1) hy rfl rfl) rfl ?_
                  refine wa_take_on 31 rfl rfl rfl (by kernel_rfl) (by kernel_rfl) (by kernel_rfl) (listed' := #[true, true, true, true, true, true, true, true, true, true, true, true, true, true, true, true, true, true, true, true, true, true, true, true, true, true, true, true, true, true, true, true, false, false, false, false]) rfl (fun _ _ _ h => h) (fun _ hm => ⟨hm.blkI 0 rfl, hm.fact 0 rfl, trivial⟩) (ov_sleq rfl rfl) rfl ?_
                  refine wa_take_on 32 rfl rfl rfl (by kernel_rfl) (by kernel_rfl) (by kernel_rfl) (listed' := #[true, true, true, true, true, true, true, true, true, true, true, true, true, true, true, true, true, true, true, true, true, true, true, true, true, true, true, true, true, true, true, true, true, false, false, false]) rfl (fun _ _ _ h => h) (fun _ hm => ⟨hm.blkI 0 rfl, hm.fact 0 rfl, trivial⟩) (ov_pick_t rfl rfl) rfl ?_
                  refine wa_take_on 33 rfl rfl rfl (by kernel_rfl) (by kernel_rfl) (by kernel_rfl) (listed' := #[true, true, true, true, true, true, true, true, true, true, true, true, true, true, true, true, true, true, true, true, true, true, true, true, true, true, true, true, true, true, true, true, true, true, false, false]) rfl (fun _ _ _ h => h) (fun _ hm => ⟨hm.blkI 0 rfl, hm.fact 0 rfl, trivial⟩) (ov_pick_f rfl rfl) rfl ?_
                  refine wa_take 34 rfl (by kernel_rfl) (by kernel_rfl) (by kernel_rfl) (listed' := #[true, true, true, true, true, true, true, true, true, true, true, true, true, true, true, true, true, true, true, true, true, true, true, true, true, true, true, true, true, true, true, true, true, true, true, false]) rfl (fun _ _ _ h => h) (fun _ hm => ⟨hm.blkI 0 rfl, hm.fact 0 rfl, trivial⟩) (ov_pick_t rfl rfl) rfl ?_
                  refine wa_take 35 rfl (by kernel_rfl) (by kernel_rfl) (by kernel_rfl) (listed' := #[true, true, true, true, true, true, true, true, true, true, true, true, true, true, true, true, true, true, true, true, true, true, true, true, true, true, true, true, true, true, true, true, true, true, true, true]) rfl (fun _ _ _ h => h) (fun _ hm => ⟨hm.blkI 0 rfl, hm.fact 0 rfl, trivial⟩) (ov_assign rfl) rfl ?_
                  refine wa_done (by kernel_rfl) ?_
                  refine nx_then ?_
                  refine gw_cond rfl (fun hh => ?_) (fun hh => ?_)
                  · have h7 : (Op.bytesLess kb.toList p1.toList || kb.toList == p1.toList) = true := by simpa using hh
                    clear hh
                    refine gw_seq ?_
                    refine gw_region ?_
                    have h8 : feLt ⟨p0, p1, p2⟩ ⟨ka, kb, ce⟩ = false := by have h := lt_fe ⟨p0, p1, p2⟩ ⟨ka, kb, ce⟩; simp only at h; rw [h5, h6, h7] at h; simpa using h.symm
                    refine wl_ov (ov_assign rfl) rfl ?_
                    refine wl_nil ?_
                    refine nx_then ?_
                    refine gw_ret ?_
                    refine nx_blk_ret ?_
                    refine nx_blk_ret ?_
                    refine nx_then_ret ?_
                    refine nx_then_ret ?_
                    refine nx_blk_ret ?_
                    refine nx_then_ret ?_
                    have hE : feeE (prevOf l k) ⟨ka, kb, ce⟩ = 7 := by unfold feeE leFe; rw [hpv]; simp [h2, h3, h4, h8]
                    refine nx_ret1 rfl rfl fun wx hm => ?_
                    exact ⟨ret_int (by rw [hinv.2, hat, if_neg (by rw [hE]; decide), hE]), hm.g⟩
                  · have h7 : (Op.bytesLess kb.toList p1.toList || kb.toList == p1.toList) = false := by simpa using hh
                    clear hh
                    refine gw_seq ?_
                    refine gw_region ?_
                    have h8 : feLt ⟨p0, p1, p2⟩ ⟨ka, kb, ce⟩ = true := by have h := lt_fe ⟨p0, p1, p2⟩ ⟨ka, kb, ce⟩; simp only at h; rw [h5, h6, h7] at h; simpa using h.symm
                    refine wl_ov (ov_field fo201_2 rfl rfl) rfl ?_
                    refine wl_ov (ov_load sc3 rfl (fun _ hm => hm.blkI 0 rfl) rfl) rfl ?_
                    refine wl_callw rfl cb91 rfl rfl (fun wx hm => (rin_any _ _ _ wx)) ?_
                    refine wl_ov (ov_un_not rfl) rfl ?_
                    refine wl_ov (ov_assign rfl) rfl ?_
                    refine wl_nil ?_
                    refine nx_then ?_
                    refine gw_cond rfl (fun hh => ?_) (fun hh => ?_)
                    · have h9 : (inB ce 0 1000000) = false := by simpa using hh
                      clear hh
                      refine gw_seq ?_
                      refine gw_region ?_
                      refine wl_ov (ov_assign rfl) rfl ?_
                      refine wl_nil ?_
                      refine nx_then ?_
                      refine gw_ret ?_
                      refine nx_blk_ret ?_
                      refine nx_blk_ret ?_
                      refine nx_then_ret ?_
                      refine nx_then_ret ?_
                      refine nx_blk_ret ?_
                      refine nx_then_ret ?_
                      have hE : feeE (prevOf l k) ⟨ka, kb, ce⟩ = 1 := by unfold feeE leFe; rw [hpv]; simp [h2, h3, h4, h8, h9]
                      refine nx_ret1 rfl rfl fun wx hm => ?_
                      exact ⟨ret_int (by rw [hinv.2, hat, if_neg (by rw [hE]; decide), hE]), hm.g⟩
                    · have h9 : (inB ce 0 1000000) = true := by simpa using hh
                      clear hh
                      refine gw_skip ?_
                      refine nx_blk_nrm ?_
                      refine nx_blk_nrm ?_
                      refine nx_then ?_
                      refine gw_region ?_
                      have hE : feeE (prevOf l k) ⟨ka, kb, ce⟩ = 0 := by unfold feeE leFe; rw [hpv]; simp [h2, h3, h4, h8, h9]
                      refine wl_ov (ov_add rfl rfl (by omega) (by omega)) rfl ?_
                      refine wl_ov (ov_move rfl) rfl ?_
                      refine wl_nil ?_
                      exact nx_round (k + 1) ⟨by omega, by rw [hinv.2, hat, if_pos hE]⟩ (by omega) ⟨rfl, rfl, rfl, (some_int (by omega)), trivial⟩ (fun _ hm => hm.pick [] [] [0] rfl rfl)
                · refine wa_set 55 rfl (congrArg Value.bool h6) ?_
                  have h8 : feLt ⟨p0, p1, p2⟩ ⟨ka, kb, ce⟩ = true := by have h := lt_fe ⟨p0, p1, p2⟩ ⟨ka, kb, ce⟩; simp only at h; rw [h5, h6] at h; simpa using h.symm
                  refine wa_take_off 23 rfl rfl rfl (by decide) (by kernel_rfl) (by kernel_rfl) (by kernel_rfl) (listed' := #[true, true, true, true, true, true, true, true, true, true, true, true, true, true, true, true, true, true, true, true, true, true, true, true, false, false, false, false, false, false, false, false, false, false, false, false]) rfl (fun _ _ _ h => h) (fun _ hm => ⟨hm.blkI 0 rfl, hm.fact 0 rfl, trivial⟩) rfl ?_
                  refine wa_take_off 24 rfl rfl rfl (by decide) (by kernel_rfl) (by kernel_rfl) (by kernel_rfl) (listed' := #[true, true, true, true, true, true, true, true, true, true, true, true, true, true, true, true, true, true, true, true, true, true, true, true, true, false, false, false, false, false, false, false, false, false, false, false]) rfl (fun _ _ _ h => h) (fun _ hm => ⟨hm.blkI 0 rfl, hm.fact 0 rfl, trivial⟩) rfl ?_
                  refine wa_take_off 25 rfl rfl rfl (by decide) (by kernel_rfl) (by kernel_rfl) (by kernel_rfl) (listed' := #[true, true, true, true, true, true, true, true, true, true, true, true, true, true, true, true, true, true, true, true, true, true, true, true, true, true, false, false, false, false, false, false, false, false, false, false]) rfl (fun _ _ _ h => h) (fun _ hm => ⟨hm.blkI 0 rfl, hm.fact 0 rfl, trivial⟩) rfl ?_
                  refine wa_take_off 26 rfl rfl rfl (by decide) (by kernel_rfl) (by kernel_rfl) (by kernel_rfl) (listed' := #[true, true, true, true, true, true, true, true, true, true, true, true, true, true, true, true, true, true, true, true, true, true, true, true, true, true, true, false, false, false, false, false, false, false, false, false]) rfl (fun _ _ _ h => h) (fun _ hm => ⟨hm.blkI 0 rfl, hm.fact 0 rfl, trivial⟩) rfl ?_
                  refine wa_take_off 27 rfl rfl rfl (by decide) (by kernel_rfl) (by kernel_rfl) (by kernel_rfl) (listed' := #[true, true, true, true, true, true, true, true, true, true, true, true, true, true, true, true, true, true, true, true, true, true, true, true, true, true, true, true, false, false, false, false, false, false, false, false]) rfl (fun _ _ _ h => h) (fun _ hm => ⟨hm.blkI 0 rfl, hm.fact 0 rfl, trivial⟩) rfl ?_
                  refine wa_take_off 28 rfl rfl rfl (by decide) (by kernel_rfl) (by kernel_rfl) (by kernel_rfl) (listed' := #[true, true, true, true, true, true, true, true, true, true, true, true, true, true, true, true, true, true, true, true, true, true, true, true, true, true, true, true, true, false, false, false, false, false, false, false]) rfl (fun _ _ _ h => h) (fun _ hm => ⟨hm.blkI 0 rfl, hm.fact 0 rfl, trivial⟩) rfl ?_
                  refine wa_take_off 29 rfl rfl rfl (by decide) (by kernel_rfl) (by kernel_rfl) (by kernel_rfl) (listed' := #[true, true, true, true, true, true, true, true, true, true, true, true, true, true, true, true, true, true, true, true, true, true, true, true, true, true, true, true, true, true, false, false, false, false, false, false]) rfl (fun _ _ _ h => h) (fun _ hm => ⟨hm.blkI 0 rfl, hm.fact 0 rfl, trivial⟩) rfl ?_
                  refine wa_take_off 30 rfl rfl rfl (by decide) (by kernel_rfl) (by kernel_rfl) (by kernel_rfl) (listed' := #[true, true, true, true, true, true, true, true, true, true, true, true, true, true, true, true, true, true, true, true, true, true, true, true, true, true, true, true, true, true, true, false, false, false, false, false]) rfl (fun _ _ _ h => h) (fun _ hm => ⟨hm.blkI 0 rfl, hm.fact 0 rfl, trivial⟩) rfl ?_
                  refine wa_take_off 31 rfl rfl rfl (by decide) (by kernel_rfl) (by kernel_rfl) (by kernel_rfl) (listed' := #[true, true, true, true, true, true, true, true, true, true, true, true, true, true, true, true, true, true, true, true, true, true, true, true, true, true, true, true, true, true, true, true, false, false, false, false]) rfl (fun _ _ _ h => h) (fun _ hm => ⟨hm.blkI 0 rfl, hm.fact 0 rfl, trivial⟩) rfl ?_
                  refine wa_take_on 32 rfl rfl rfl (by kernel_rfl) (by kernel_rfl) (by kernel_rfl) (listed' := #[true, true, true, true, true, true, true, true, true, true, true, true, true, true, true, true, true, true, true, true, true, true, true, true, true, true, true, true, true, true, true, true, true, false, false, false]) rfl (fun _ _ _ h => h) (fun _ hm => ⟨hm.blkI 0 rfl, hm.fact 0 rfl, trivial⟩) (ov_pick_f rfl rfl) rfl ?_
                  refine wa_take_on 33 rfl rfl rfl (by kernel_rfl) (by kernel_rfl) (by kernel_rfl) (listed' := #[true, true, true, true, true, true, true, true, true, true, true, true, true, true, true, true, true, true, true, true, true, true, true, true, true, true, true, true, true, true, true, true, true, true, false, false]) rfl (fun _ _ _ h => h) (fun _ hm => ⟨hm.blkI 0 rfl, hm.fact 0 rfl, trivial⟩) (ov_pick_f rfl rfl) rfl ?_
                  refine wa_take 34 rfl (by kernel_rfl) (by kernel_rfl) (by kernel_rfl) (listed' := #[true, true, true, true, true, true, true, true, true, true, true, true, true, true, true, true, true, true, true, true, true, true, true, true, true, true, true, true, true, true, true, true, true, true, true, false]) rfl (fun _ _ _ h => h) (fun _ hm => ⟨hm.blkI 0 rfl, hm.fact 0 rfl, trivial⟩) (ov_pick_t rfl rfl) rfl ?_
                  refine wa_take 35 rfl (by kernel_rfl) (by kernel_rfl) (by kernel_rfl) (listed' := #[true, true, true, true, true, true, true, true, true, true, true, true, true, true, true, true, true, true, true, true, true, true, true, true, true, true, true, true, true, true, true, true, true, true, true, true]) rfl (fun _ _ _ h => h) (fun _ hm => ⟨hm.blkI 0 rfl, hm.fact 0 rfl, trivial⟩) (ov_assign rfl) rfl ?_
                  refine wa_done (by kernel_rfl) ?_
                  refine nx_then ?_
                  refine gw_cond rfl (fun hh => by cases hh) (fun _ => ?_)
                  refine gw_seq ?_
                  refine gw_region ?_
                  refine wl_ov (ov_field fo201_2 rfl rfl) rfl ?_
                  refine wl_ov (ov_load sc3 rfl (fun _ hm => hm.blkI 0 rfl) rfl) rfl ?_
                  refine wl_callw rfl cb91 rfl rfl (fun wx hm => (rin_any _ _ _ wx)) ?_
                  refine wl_ov (ov_un_not rfl) rfl ?_
                  refine wl_ov (ov_assign rfl) rfl ?_
                  refine wl_nil ?_
                  refine nx_then ?_
                  refine gw_cond rfl (fun hh => ?_) (fun hh => ?_)
                  · have h9 : (inB ce 0 1000000) = false := by simpa using hh
                    clear hh
                    refine gw_seq ?_
                    refine gw_region ?_
                    refine wl_ov (ov_assign rfl) rfl ?_
                    refine wl_nil ?_
                    refine nx_then ?_
                    refine gw_ret ?_
                    refine nx_blk_ret ?_
                    refine nx_blk_ret ?_
                    refine nx_then_ret ?_
                    refine nx_then_ret ?_
                    refine nx_blk_ret ?_
                    refine nx_then_ret ?_
                    have hE : feeE (prevOf l k) ⟨ka, kb, ce⟩ = 1 := by unfold feeE leFe; rw [hpv]; simp [h2, h3, h4, h8, h9]
                    refine nx_ret1 rfl rfl fun wx hm => ?_
                    exact ⟨ret_int (by rw [hinv.2, hat, if_neg (by rw [hE]; decide), hE]), hm.g⟩
                  · have h9 : (inB ce 0 1000000) = true := by simpa using hh
                    clear hh
                    refine gw_skip ?_
                    refine nx_blk_nrm ?_
                    refine nx_blk_nrm ?_
                    refine nx_then ?_
                    refine gw_region ?_
                    have hE : feeE (prevOf l k) ⟨ka, kb, ce⟩ = 0 := by unfold feeE leFe; rw [hpv]; simp [h2, h3, h4, h8, h9]
                    refine wl_ov (ov_add rfl rfl (by omega) (by omega)) rfl ?_
                    refine wl_ov (ov_move rfl) rfl ?_
                    refine wl_nil ?_
                    exact nx_round (k + 1) ⟨by omega, by rw [hinv.2, hat, if_pos hE]⟩ (by omega) ⟨rfl, rfl, rfl, (some_int (by omega)), trivial⟩ (fun _ hm => hm.pick [] [] [0] rfl rfl)
    · have hk : ¬ (((k : Nat) : Int) < ((n : Nat) : Int)) := by simpa using hh
      clear hh
      refine gw_exit ?_
      refine nx_then_exit ?_
      refine nx_then_exit ?_
      refine nx_blk_here ?_
      refine nx_then ?_
      refine gw_seq ?_
      refine gw_region ?_
      refine wl_ov (ov_assign rfl) rfl ?_
      refine wl_nil ?_
      refine nx_then ?_
      refine gw_ret ?_
      refine nx_ret1 rfl rfl fun wx hm => ?_
      exact ⟨ret_int (by rw [hinv.2, scanE_end _ _ _ _ (by omega)]), hm.g⟩

def feP (a b : ByteArray) (x : Fe) : Bool := x.a.toList == a.toList && x.b.toList == b.toList
def feAt (l : List Fe) (a b : ByteArray) : Int := match l[(ixP (feP a b) l 0).toNat]? with
  | some x => x.cents
  | none => 0
theorem feP_self {l : List Fe} {a b : ByteArray} (h : feesE l = 0) (hab : (a.toList == b.toList) = true) : ixP (feP a b) l 0 = -1 := by
  rcases ixP_spec (p := feP a b) l 0 with ⟨h1, _⟩ | ⟨j, x, _, hj, hp, _⟩
  · exact h1
  · have h1 := ((feesE_ok h).2 x (List.mem_of_getElem? hj)).1
    unfold feP at hp
    simp at hp hab
    rw [hp.1, hp.2, hab] at h1
    simp at h1
/-- The error and the fee of FeeOf. -/
def feeOfC (l : List Fe) (a b : ByteArray) : Int := firstE [feesE l, whenE (!keyB a || !keyB b) 5]
def feeOfE (l : List Fe) (a b : ByteArray) : Int := if feeOfC l a b = 0 then (if (a.toList == b.toList) = true then 0 else if 0 ≤ ixP (feP a b) l 0 then 0 else 8) else feeOfC l a b
def feeOfV (l : List Fe) (a b : ByteArray) : Int := if feeOfC l a b = 0 then (if (a.toList == b.toList) = true then 0 else if 0 ≤ ixP (feP a b) l 0 then feAt l a b else 0) else 0
theorem feAt_of {l : List Fe} {a b : ByteArray} {i : Nat} {x : Fe} (h : ixP (feP a b) l 0 = ((i : Nat) : Int)) (hx : l[i]? = some x) : feAt l a b = x.cents := by
  unfold feAt; rw [h, Int.toNat_natCast, hx]
set_option maxRecDepth 100000 in
set_option maxHeartbeats 400000 in
theorem tFeeOf_any (l : List Fe) (A : Option Addr) (n c0 : Nat) (ka kb : ByteArray) (w : World) (hl : SlT feEnc 3 201 w A n l) (hok : ∀ b ∈ l, FeOk b) (hn : n ≤ 1000000) (h1 : ka.size ≤ 1000000) (h2 : kb.size ≤ 1000000) :
    Calls Tryd.prog 69 #[.slice A n c0, .string ka, .string kb] w (fun e w' => e = .returned (.tuple #[.int .i64 (feeOfV l ka kb), .int .i64 (feeOfE l ka kb)]) ∧ w.grownBy w' none) := by
  refine gw_enter ⟨49, w, none, []⟩ Tryd.func69 rfl Tryd.ntmps69 rfl (mem0 (X := [SlOld feEnc 3 201 w.heap.size none A n l]) (allF_cons hl.old allF_nil) (allL_cons SlOld.lasts allL_nil)) ?_
  refine gw_seq ?_
  refine gw_region ?_
  have hlen := hl.len
  obtain ⟨XE, hXE⟩ : ∃ E, E = feesE l := ⟨_, rfl⟩
  refine wl_ov (ov_assign rfl) rfl ?_
  refine wl_ov (ov_assign rfl) rfl ?_
  refine wl_nil ?_
  refine nx_then ?_
  refine gw_seq ?_
  refine gw_seq ?_
  refine gw_region ?_
  refine wl_ov (ov_move rfl) rfl ?_
  refine wl_callv (v := .int .i64 XE) rfl cb73 rfl rfl (fun wx hm => (by rw [hXE]; exact checkFees_any l A n c0 wx (hm.fact 0 rfl).1 hok hn)) ?_
  refine wl_ov (ov_move rfl) rfl ?_
  refine wl_callw rfl cb106 rfl rfl (fun wx hm => (isKey_any _ wx (by omega))) ?_
  refine wl_ov (ov_un_not rfl) rfl ?_
  refine wl_ov (ov_move rfl) rfl ?_
  rcases Bool.eq_false_or_eq_true (!(keyB ka)) with h2 | h2
  · refine wl_set 16 rfl (congrArg Value.bool h2) ?_
    have hC : feeOfC l ka kb = firstE [XE, whenE true 5] := by unfold feeOfC; rw [h2, ← hXE]; rfl
    refine wl_guard_off rfl rfl rfl (by decide) rfl ?_
    refine wl_guard_off rfl rfl rfl (by decide) rfl ?_
    refine wl_guard_off rfl rfl rfl (by decide) rfl ?_
    refine wl_ov (ov_pick_t rfl rfl) rfl ?_
    refine wl_callw rfl cb98 rfl rfl (fun wx hm => (when_any _ _ wx)) ?_
    refine wl_buildSlice (e := 29) (cs := [.int .i64 XE, .int .i64 (whenE true 5)]) rfl (by kernel_rfl) rfl fun g1 => ?_
    refine wl_callw rfl cb97 rfl rfl (fun wx hm => (first_any [XE, whenE true 5] _ _ _ wx (hm.blkI 0 rfl) (by simp))) ?_
    refine wl_ov (ov_assign rfl) rfl ?_
    refine wl_nil ?_
    refine nx_then ?_
    refine gw_seq ?_
    refine gw_region ?_
    refine wl_ov (ov_move rfl) rfl ?_
    refine wl_ov (ov_neq rfl rfl) rfl ?_
    refine wl_nil ?_
    refine nx_then ?_
    refine gw_cond rfl (fun hh => ?_) (fun hh => ?_)
    · have hz : ¬ (firstE [XE, whenE true 5] = 0) := by simpa using hh
      clear hh
      refine gw_seq ?_
      refine gw_region ?_
      refine wl_ov (ov_move rfl) rfl ?_
      refine wl_ov (ov_assign rfl) rfl ?_
      refine wl_ov (ov_assign rfl) rfl ?_
      refine wl_nil ?_
      refine nx_then ?_
      refine gw_ret ?_
      refine nx_then_ret ?_
      refine nx_ret2 rfl rfl rfl fun wx hm => ?_
      refine ⟨?_, hm.g⟩
      unfold feeOfE feeOfV
      rw [hC, if_neg hz, if_neg hz]
    · have hz : firstE [XE, whenE true 5] = 0 := by simpa using hh
      clear hh
      refine gw_skip ?_
      refine nx_then ?_
      refine gw_seq ?_
      refine gw_seq ?_
      refine gw_region ?_
      refine wl_ov (ov_move rfl) rfl ?_
      refine wl_ov (ov_move rfl) rfl ?_
      refine wl_ov (ov_seql rfl rfl) rfl ?_
      refine wl_nil ?_
      refine nx_then ?_
      refine gw_cond rfl (fun hh => ?_) (fun hh => ?_)
      · have hab : (ka.toList == kb.toList) = true := by simpa using hh
        clear hh
        refine gw_seq ?_
        refine gw_region ?_
        refine wl_ov (ov_assign rfl) rfl ?_
        refine wl_ov (ov_assign rfl) rfl ?_
        refine wl_nil ?_
        refine nx_then ?_
        refine gw_ret ?_
        refine nx_then_ret ?_
        refine nx_ret2 rfl rfl rfl fun wx hm => ?_
        refine ⟨?_, hm.g⟩
        unfold feeOfE feeOfV
        rw [hC, if_pos hz, if_pos hz, if_pos hab, if_pos hab]
      · have hab : (ka.toList == kb.toList) = false := by simpa using hh
        clear hh
        refine gw_skip ?_
        refine nx_then ?_
        refine gw_seq ?_
        refine gw_seq ?_
        refine gw_region ?_
        refine wl_ov (ov_move rfl) rfl ?_
        refine wl_ov (ov_len es116 rfl) rfl ?_
        refine wl_ov (ov_move rfl) rfl ?_
        refine wl_nil ?_
        refine nx_then ?_
        refine gw_block ?_
        refine gw_loop (γ := Nat) (fun (i : Nat) => i ≤ n ∧ ixP (feP ka kb) l 0 = ixP (feP ka kb) (l.drop i) i) (fun (i : Nat) => [(1, .string ka), (2, .string kb), (30, .slice A n c0), (31, .int .i64 ((n : Nat) : Int)), (32, .int .i64 ((i : Nat) : Int))]) (fun (i : Nat) => fun _ => True) (fun (i : Nat) => [(g1, 29, [.int .i64 XE, .int .i64 (whenE true 5)])]) (fun (i : Nat) => []) (fun (i : Nat) => [SlOld feEnc 3 201 w.heap.size none A n l]) (fun (i : Nat) => n - i) 0 ⟨Nat.zero_le _, rfl⟩ ⟨rfl, rfl, rfl, rfl, rfl, trivial⟩ (fun _ hm => hm.pick [0] [] [0] rfl rfl) ?_
        intro i hinv
        replace hinv : i ≤ n ∧ ixP (feP ka kb) l 0 = ixP (feP ka kb) (l.drop i) i := hinv
        refine gw_seq ?_
        refine gw_region ?_
        refine wl_ov (ov_lss rfl rfl) rfl ?_
        refine wl_nil ?_
        refine nx_then ?_
        refine gw_seq ?_
        refine gw_cond rfl (fun hh => ?_) (fun hh => ?_)
        · have hi : ((i : Nat) : Int) < ((n : Nat) : Int) := by simpa using hh
          clear hh
          refine gw_skip ?_
          refine nx_then ?_
          refine gw_seq ?_
          refine gw_block ?_
          refine gw_seq ?_
          refine gw_region ?_
          obtain ⟨b, off, hA, _, _⟩ := hl.get (by omega)
          subst hA
          obtain ⟨x, hx⟩ : ∃ x, l[i]? = some x := ⟨_, List.getElem?_eq_getElem (by omega)⟩
          obtain ⟨xa, xb, xc⟩ := x
          have hat := ixP_at (p := feP ka kb) hx
          refine wl_ov (ov_index (j := i) es116 rfl rfl (by omega)) rfl ?_
          refine wl_ov (ov_elem (vs := [.string xa, .string xb, .int .i64 xc]) rz201 rfl (fun _ hm => (hm.fact 0 rfl).1) hx rfl rfl) rfl ?_
          refine wl_alloc zc201 rfl fun g2 => ?_
          refine wl_stores (cs' := [.string xa, .string xb, .int .i64 xc]) 0 rz201 rfl rfl rfl rfl rfl rfl rfl rfl ?_
          refine wl_nil ?_
          refine nx_then ?_
          refine gw_seq ?_
          refine gw_region ?_
          refine wl_ov (ov_field fo201_0 rfl rfl) rfl ?_
          refine wl_ov (ov_load sc9 rfl (fun _ hm => hm.blkI 0 rfl) rfl) rfl ?_
          refine wl_ov (ov_move rfl) rfl ?_
          refine wl_ov (ov_seql rfl rfl) rfl ?_
          refine wl_ov (ov_move rfl) rfl ?_
          rcases Bool.eq_false_or_eq_true (xa.toList == ka.toList) with h5 | h5
          · refine wl_set 40 rfl (congrArg Value.bool h5) ?_
            refine wl_guard_on rfl rfl rfl ?_
            refine wl_ov (ov_field fo201_1 rfl rfl) rfl ?_
            refine wl_guard_on rfl rfl rfl ?_
            refine wl_ov (ov_load sc9 rfl (fun _ hm => hm.blkI 0 rfl) rfl) rfl ?_
            refine wl_guard_on rfl rfl rfl ?_
            refine wl_ov (ov_move rfl) rfl ?_
            refine wl_guard_on rfl rfl rfl ?_
            refine wl_ov (ov_seql rfl rfl) rfl ?_
            refine wl_ov (ov_pick_t rfl rfl) rfl ?_
            refine wl_nil ?_
            refine nx_then ?_
            refine gw_cond rfl (fun hh => ?_) (fun hh => ?_)
            · have h6 : (xb.toList == kb.toList) = true := by simpa using hh
              clear hh
              refine gw_seq ?_
              refine gw_region ?_
              have hq : feP ka kb ⟨xa, xb, xc⟩ = true := by unfold feP; dsimp only; rw [h5, h6]; rfl
              have hix : ixP (feP ka kb) l 0 = ((i : Nat) : Int) := by rw [hinv.2, hat, if_pos hq]
              have hva := feAt_of hix hx
              dsimp only at hva
              have hi00 : 0 ≤ ixP (feP ka kb) l 0 := by rw [hix]; omega
              refine wl_ov (ov_field fo201_2 rfl rfl) rfl ?_
              refine wl_ov (ov_load sc3 rfl (fun _ hm => hm.blkI 0 rfl) rfl) rfl ?_
              refine wl_ov (ov_assign rfl) rfl ?_
              refine wl_ov (ov_assign rfl) rfl ?_
              refine wl_nil ?_
              refine nx_then ?_
              refine gw_ret ?_
              refine nx_blk_ret ?_
              refine nx_then_ret ?_
              refine nx_then_ret ?_
              refine nx_blk_ret ?_
              refine nx_then_ret ?_
              refine nx_ret2 rfl rfl rfl fun wx hm => ?_
              refine ⟨?_, hm.g⟩
              unfold feeOfE feeOfV
              rw [hC, if_pos hz, if_pos hz, if_neg (show ¬ (ka.toList == kb.toList) = true by rw [hab]; decide), if_neg (show ¬ (ka.toList == kb.toList) = true by rw [hab]; decide), if_pos hi00, if_pos hi00, hva]
            · have h6 : (xb.toList == kb.toList) = false := by simpa using hh
              clear hh
              refine gw_skip ?_
              refine nx_blk_nrm ?_
              refine nx_then ?_
              refine gw_region ?_
              have hq : feP ka kb ⟨xa, xb, xc⟩ = false := by unfold feP; dsimp only; rw [h5, h6]; rfl
              refine wl_ov (ov_add rfl rfl (by omega) (by omega)) rfl ?_
              refine wl_ov (ov_move rfl) rfl ?_
              refine wl_nil ?_
              exact nx_round (i + 1) ⟨by omega, by rw [hinv.2, hat, if_neg (by rw [hq]; decide)]⟩ (by omega) ⟨rfl, rfl, rfl, rfl, (some_int (by omega)), trivial⟩ (fun _ hm => hm.pick [1] [] [0] rfl rfl)
          · refine wl_set 40 rfl (congrArg Value.bool h5) ?_
            have hq : feP ka kb ⟨xa, xb, xc⟩ = false := by unfold feP; dsimp only; rw [h5]; rfl
            refine wl_guard_off rfl rfl rfl (by decide) rfl ?_
            refine wl_guard_off rfl rfl rfl (by decide) rfl ?_
            refine wl_guard_off rfl rfl rfl (by decide) rfl ?_
            refine wl_guard_off rfl rfl rfl (by decide) rfl ?_
            refine wl_ov (ov_pick_f rfl rfl) rfl ?_
            refine wl_nil ?_
            refine nx_then ?_
            refine gw_cond rfl (fun hh => by cases hh) (fun _ => ?_)
            refine gw_skip ?_
            refine nx_blk_nrm ?_
            refine nx_then ?_
            refine gw_region ?_
            refine wl_ov (ov_add rfl rfl (by omega) (by omega)) rfl ?_
            refine wl_ov (ov_move rfl) rfl ?_
            refine wl_nil ?_
            exact nx_round (i + 1) ⟨by omega, by rw [hinv.2, hat, if_neg (by rw [hq]; decide)]⟩ (by omega) ⟨rfl, rfl, rfl, rfl, (some_int (by omega)), trivial⟩ (fun _ hm => hm.pick [1] [] [0] rfl rfl)
        · have hi : ¬ (((i : Nat) : Int) < ((n : Nat) : Int)) := by simpa using hh
          clear hh
          refine gw_exit ?_
          refine nx_then_exit ?_
          refine nx_then_exit ?_
          refine nx_blk_here ?_
          refine nx_then ?_
          refine gw_seq ?_
          refine gw_region ?_
          have hix : ixP (feP ka kb) l 0 = -1 := by rw [hinv.2, List.drop_eq_nil_of_le (by omega)]; rfl
          have hi00 : ¬ 0 ≤ ixP (feP ka kb) l 0 := by rw [hix]; omega
          refine wl_ov (ov_assign rfl) rfl ?_
          refine wl_ov (ov_assign rfl) rfl ?_
          refine wl_nil ?_
          refine nx_then ?_
          refine gw_ret ?_
          refine nx_ret2 rfl rfl rfl fun wx hm => ?_
          refine ⟨?_, hm.g⟩
          unfold feeOfE feeOfV
          rw [hC, if_pos hz, if_pos hz, if_neg (show ¬ (ka.toList == kb.toList) = true by rw [hab]; decide), if_neg (show ¬ (ka.toList == kb.toList) = true by rw [hab]; decide), if_neg hi00, if_neg hi00]
  · refine wl_set 16 rfl (congrArg Value.bool h2) ?_
    have hC : feeOfC l ka kb = firstE [XE, whenE (!keyB kb) 5] := by unfold feeOfC; rw [h2, ← hXE]; rfl
    refine wl_guard_on rfl rfl rfl ?_
    refine wl_ov (ov_move rfl) rfl ?_
    refine wl_guard_on rfl rfl rfl ?_
    refine wl_callw rfl cb106 rfl rfl (fun wx hm => (isKey_any _ wx (by omega))) ?_
    refine wl_guard_on rfl rfl rfl ?_
    refine wl_ov (ov_un_not rfl) rfl ?_
    refine wl_ov (ov_pick_f rfl rfl) rfl ?_
    refine wl_callw rfl cb98 rfl rfl (fun wx hm => (when_any _ _ wx)) ?_
    refine wl_buildSlice (e := 29) (cs := [.int .i64 XE, .int .i64 (whenE (!(keyB kb)) 5)]) rfl (by kernel_rfl) rfl fun g3 => ?_
    refine wl_callw rfl cb97 rfl rfl (fun wx hm => (first_any [XE, whenE (!(keyB kb)) 5] _ _ _ wx (hm.blkI 0 rfl) (by simp))) ?_
    refine wl_ov (ov_assign rfl) rfl ?_
    refine wl_nil ?_
    refine nx_then ?_
    refine gw_seq ?_
    refine gw_region ?_
    refine wl_ov (ov_move rfl) rfl ?_
    refine wl_ov (ov_neq rfl rfl) rfl ?_
    refine wl_nil ?_
    refine nx_then ?_
    refine gw_cond rfl (fun hh => ?_) (fun hh => ?_)
    · have hz : ¬ (firstE [XE, whenE (!(keyB kb)) 5] = 0) := by simpa using hh
      clear hh
      refine gw_seq ?_
      refine gw_region ?_
      refine wl_ov (ov_move rfl) rfl ?_
      refine wl_ov (ov_assign rfl) rfl ?_
      refine wl_ov (ov_assign rfl) rfl ?_
      refine wl_nil ?_
      refine nx_then ?_
      refine gw_ret ?_
      refine nx_then_ret ?_
      refine nx_ret2 rfl rfl rfl fun wx hm => ?_
      refine ⟨?_, hm.g⟩
      unfold feeOfE feeOfV
      rw [hC, if_neg hz, if_neg hz]
    · have hz : firstE [XE, whenE (!(keyB kb)) 5] = 0 := by simpa using hh
      clear hh
      refine gw_skip ?_
      refine nx_then ?_
      refine gw_seq ?_
      refine gw_seq ?_
      refine gw_region ?_
      refine wl_ov (ov_move rfl) rfl ?_
      refine wl_ov (ov_move rfl) rfl ?_
      refine wl_ov (ov_seql rfl rfl) rfl ?_
      refine wl_nil ?_
      refine nx_then ?_
      refine gw_cond rfl (fun hh => ?_) (fun hh => ?_)
      · have hab : (ka.toList == kb.toList) = true := by simpa using hh
        clear hh
        refine gw_seq ?_
        refine gw_region ?_
        refine wl_ov (ov_assign rfl) rfl ?_
        refine wl_ov (ov_assign rfl) rfl ?_
        refine wl_nil ?_
        refine nx_then ?_
        refine gw_ret ?_
        refine nx_then_ret ?_
        refine nx_ret2 rfl rfl rfl fun wx hm => ?_
        refine ⟨?_, hm.g⟩
        unfold feeOfE feeOfV
        rw [hC, if_pos hz, if_pos hz, if_pos hab, if_pos hab]
      · have hab : (ka.toList == kb.toList) = false := by simpa using hh
        clear hh
        refine gw_skip ?_
        refine nx_then ?_
        refine gw_seq ?_
        refine gw_seq ?_
        refine gw_region ?_
        refine wl_ov (ov_move rfl) rfl ?_
        refine wl_ov (ov_len es116 rfl) rfl ?_
        refine wl_ov (ov_move rfl) rfl ?_
        refine wl_nil ?_
        refine nx_then ?_
        refine gw_block ?_
        refine gw_loop (γ := Nat) (fun (i : Nat) => i ≤ n ∧ ixP (feP ka kb) l 0 = ixP (feP ka kb) (l.drop i) i) (fun (i : Nat) => [(1, .string ka), (2, .string kb), (30, .slice A n c0), (31, .int .i64 ((n : Nat) : Int)), (32, .int .i64 ((i : Nat) : Int))]) (fun (i : Nat) => fun _ => True) (fun (i : Nat) => [(g3, 29, [.int .i64 XE, .int .i64 (whenE (!(keyB kb)) 5)])]) (fun (i : Nat) => []) (fun (i : Nat) => [SlOld feEnc 3 201 w.heap.size none A n l]) (fun (i : Nat) => n - i) 0 ⟨Nat.zero_le _, rfl⟩ ⟨rfl, rfl, rfl, rfl, rfl, trivial⟩ (fun _ hm => hm.pick [0] [] [0] rfl rfl) ?_
        intro i hinv
        replace hinv : i ≤ n ∧ ixP (feP ka kb) l 0 = ixP (feP ka kb) (l.drop i) i := hinv
        refine gw_seq ?_
        refine gw_region ?_
        refine wl_ov (ov_lss rfl rfl) rfl ?_
        refine wl_nil ?_
        refine nx_then ?_
        refine gw_seq ?_
        refine gw_cond rfl (fun hh => ?_) (fun hh => ?_)
        · have hi : ((i : Nat) : Int) < ((n : Nat) : Int) := by simpa using hh
          clear hh
          refine gw_skip ?_
          refine nx_then ?_
          refine gw_seq ?_
          refine gw_block ?_
          refine gw_seq ?_
          refine gw_region ?_
          obtain ⟨b, off, hA, _, _⟩ := hl.get (by omega)
          subst hA
          obtain ⟨x, hx⟩ : ∃ x, l[i]? = some x := ⟨_, List.getElem?_eq_getElem (by omega)⟩
          obtain ⟨xa, xb, xc⟩ := x
          have hat := ixP_at (p := feP ka kb) hx
          refine wl_ov (ov_index (j := i) es116 rfl rfl (by omega)) rfl ?_
          refine wl_ov (ov_elem (vs := [.string xa, .string xb, .int .i64 xc]) rz201 rfl (fun _ hm => (hm.fact 0 rfl).1) hx rfl rfl) rfl ?_
          refine wl_alloc zc201 rfl fun g4 => ?_
          refine wl_stores (cs' := [.string xa, .string xb, .int .i64 xc]) 0 rz201 rfl rfl rfl rfl rfl rfl rfl rfl ?_
          refine wl_nil ?_
          refine nx_then ?_
          refine gw_seq ?_
          refine gw_region ?_
          refine wl_ov (ov_field fo201_0 rfl rfl) rfl ?_
          refine wl_ov (ov_load sc9 rfl (fun _ hm => hm.blkI 0 rfl) rfl) rfl ?_
          refine wl_ov (ov_move rfl) rfl ?_
          refine wl_ov (ov_seql rfl rfl) rfl ?_
          refine wl_ov (ov_move rfl) rfl ?_
          rcases Bool.eq_false_or_eq_true (xa.toList == ka.toList) with h5 | h5
          · refine wl_set 40 rfl (congrArg Value.bool h5) ?_
            refine wl_guard_on rfl rfl rfl ?_
            refine wl_ov (ov_field fo201_1 rfl rfl) rfl ?_
            refine wl_guard_on rfl rfl rfl ?_
            refine wl_ov (ov_load sc9 rfl (fun _ hm => hm.blkI 0 rfl) rfl) rfl ?_
            refine wl_guard_on rfl rfl rfl ?_
            refine wl_ov (ov_move rfl) rfl ?_
            refine wl_guard_on rfl rfl rfl ?_
            refine wl_ov (ov_seql rfl rfl) rfl ?_
            refine wl_ov (ov_pick_t rfl rfl) rfl ?_
            refine wl_nil ?_
            refine nx_then ?_
            refine gw_cond rfl (fun hh => ?_) (fun hh => ?_)
            · have h6 : (xb.toList == kb.toList) = true := by simpa using hh
              clear hh
              refine gw_seq ?_
              refine gw_region ?_
              have hq : feP ka kb ⟨xa, xb, xc⟩ = true := by unfold feP; dsimp only; rw [h5, h6]; rfl
              have hix : ixP (feP ka kb) l 0 = ((i : Nat) : Int) := by rw [hinv.2, hat, if_pos hq]
              have hva := feAt_of hix hx
              dsimp only at hva
              have hi00 : 0 ≤ ixP (feP ka kb) l 0 := by rw [hix]; omega
              refine wl_ov (ov_field fo201_2 rfl rfl) rfl ?_
              refine wl_ov (ov_load sc3 rfl (fun _ hm => hm.blkI 0 rfl) rfl) rfl ?_
              refine wl_ov (ov_assign rfl) rfl ?_
              refine wl_ov (ov_assign rfl) rfl ?_
              refine wl_nil ?_
              refine nx_then ?_
              refine gw_ret ?_
              refine nx_blk_ret ?_
              refine nx_then_ret ?_
              refine nx_then_ret ?_
              refine nx_blk_ret ?_
              refine nx_then_ret ?_
              refine nx_ret2 rfl rfl rfl fun wx hm => ?_
              refine ⟨?_, hm.g⟩
              unfold feeOfE feeOfV
              rw [hC, if_pos hz, if_pos hz, if_neg (show ¬ (ka.toList == kb.toList) = true by rw [hab]; decide), if_neg (show ¬ (ka.toList == kb.toList) = true by rw [hab]; decide), if_pos hi00, if_pos hi00, hva]
            · have h6 : (xb.toList == kb.toList) = false := by simpa using hh
              clear hh
              refine gw_skip ?_
              refine nx_blk_nrm ?_
              refine nx_then ?_
              refine gw_region ?_
              have hq : feP ka kb ⟨xa, xb, xc⟩ = false := by unfold feP; dsimp only; rw [h5, h6]; rfl
              refine wl_ov (ov_add rfl rfl (by omega) (by omega)) rfl ?_
              refine wl_ov (ov_move rfl) rfl ?_
              refine wl_nil ?_
              exact nx_round (i + 1) ⟨by omega, by rw [hinv.2, hat, if_neg (by rw [hq]; decide)]⟩ (by omega) ⟨rfl, rfl, rfl, rfl, (some_int (by omega)), trivial⟩ (fun _ hm => hm.pick [1] [] [0] rfl rfl)
          · refine wl_set 40 rfl (congrArg Value.bool h5) ?_
            have hq : feP ka kb ⟨xa, xb, xc⟩ = false := by unfold feP; dsimp only; rw [h5]; rfl
            refine wl_guard_off rfl rfl rfl (by decide) rfl ?_
            refine wl_guard_off rfl rfl rfl (by decide) rfl ?_
            refine wl_guard_off rfl rfl rfl (by decide) rfl ?_
            refine wl_guard_off rfl rfl rfl (by decide) rfl ?_
            refine wl_ov (ov_pick_f rfl rfl) rfl ?_
            refine wl_nil ?_
            refine nx_then ?_
            refine gw_cond rfl (fun hh => by cases hh) (fun _ => ?_)
            refine gw_skip ?_
            refine nx_blk_nrm ?_
            refine nx_then ?_
            refine gw_region ?_
            refine wl_ov (ov_add rfl rfl (by omega) (by omega)) rfl ?_
            refine wl_ov (ov_move rfl) rfl ?_
            refine wl_nil ?_
            exact nx_round (i + 1) ⟨by omega, by rw [hinv.2, hat, if_neg (by rw [hq]; decide)]⟩ (by omega) ⟨rfl, rfl, rfl, rfl, (some_int (by omega)), trivial⟩ (fun _ hm => hm.pick [1] [] [0] rfl rfl)
        · have hi : ¬ (((i : Nat) : Int) < ((n : Nat) : Int)) := by simpa using hh
          clear hh
          refine gw_exit ?_
          refine nx_then_exit ?_
          refine nx_then_exit ?_
          refine nx_blk_here ?_
          refine nx_then ?_
          refine gw_seq ?_
          refine gw_region ?_
          have hix : ixP (feP ka kb) l 0 = -1 := by rw [hinv.2, List.drop_eq_nil_of_le (by omega)]; rfl
          have hi00 : ¬ 0 ≤ ixP (feP ka kb) l 0 := by rw [hix]; omega
          refine wl_ov (ov_assign rfl) rfl ?_
          refine wl_ov (ov_assign rfl) rfl ?_
          refine wl_nil ?_
          refine nx_then ?_
          refine gw_ret ?_
          refine nx_ret2 rfl rfl rfl fun wx hm => ?_
          refine ⟨?_, hm.g⟩
          unfold feeOfE feeOfV
          rw [hC, if_pos hz, if_pos hz, if_neg (show ¬ (ka.toList == kb.toList) = true by rw [hab]; decide), if_neg (show ¬ (ka.toList == kb.toList) = true by rw [hab]; decide), if_neg hi00, if_neg hi00]

set_option maxRecDepth 100000 in
set_option maxHeartbeats 400000 in
theorem feeFrom_any (l : List Fe) (A : Option Addr) (n c0 : Nat) (ka kb : ByteArray) (w : World) (hl : SlT feEnc 3 201 w A n l) (hn : n ≤ 1000000) :
    Calls Tryd.prog 75 #[.slice A n c0, .string ka, .string kb] w (fun e w' => e = .returned (.tuple #[.int .i64 (if 0 ≤ ixP (feP ka kb) l 0 then feAt l ka kb else 0), .bool (decide (0 ≤ ixP (feP ka kb) l 0) || (ka.toList == kb.toList))]) ∧ w.grownBy w' none) := by
  refine gw_enter ⟨32, w, none, []⟩ Tryd.func75 rfl Tryd.ntmps75 rfl (mem0 (X := [SlOld feEnc 3 201 w.heap.size none A n l]) (allF_cons hl.old allF_nil) (allL_cons SlOld.lasts allL_nil)) ?_
  refine gw_seq ?_
  refine gw_region ?_
  have hlen := hl.len
  refine wl_ov (ov_assign rfl) rfl ?_
  refine wl_ov (ov_assign rfl) rfl ?_
  refine wl_nil ?_
  refine nx_then ?_
  refine gw_seq ?_
  refine gw_seq ?_
  refine gw_region ?_
  refine wl_ov (ov_move rfl) rfl ?_
  refine wl_ov (ov_len es116 rfl) rfl ?_
  refine wl_ov (ov_move rfl) rfl ?_
  refine wl_nil ?_
  refine nx_then ?_
  refine gw_block ?_
  refine gw_loop (γ := Nat) (fun (i : Nat) => i ≤ n ∧ ixP (feP ka kb) l 0 = ixP (feP ka kb) (l.drop i) i) (fun (i : Nat) => [(1, .string ka), (2, .string kb), (10, .slice A n c0), (11, .int .i64 ((n : Nat) : Int)), (12, .int .i64 ((i : Nat) : Int))]) (fun (i : Nat) => fun _ => True) (fun (i : Nat) => []) (fun (i : Nat) => []) (fun (i : Nat) => [SlOld feEnc 3 201 w.heap.size none A n l]) (fun (i : Nat) => n - i) 0 ⟨Nat.zero_le _, rfl⟩ ⟨rfl, rfl, rfl, rfl, rfl, trivial⟩ (fun _ hm => hm.pick [] [] [0] rfl rfl) ?_
  intro i hinv
  replace hinv : i ≤ n ∧ ixP (feP ka kb) l 0 = ixP (feP ka kb) (l.drop i) i := hinv
  refine gw_seq ?_
  refine gw_region ?_
  refine wl_ov (ov_lss rfl rfl) rfl ?_
  refine wl_nil ?_
  refine nx_then ?_
  refine gw_seq ?_
  refine gw_cond rfl (fun hh => ?_) (fun hh => ?_)
  · have hi : ((i : Nat) : Int) < ((n : Nat) : Int) := by simpa using hh
    clear hh
    refine gw_skip ?_
    refine nx_then ?_
    refine gw_seq ?_
    refine gw_block ?_
    refine gw_seq ?_
    refine gw_region ?_
    obtain ⟨b, off, hA, _, _⟩ := hl.get (by omega)
    subst hA
    obtain ⟨x, hx⟩ : ∃ x, l[i]? = some x := ⟨_, List.getElem?_eq_getElem (by omega)⟩
    obtain ⟨xa, xb, xc⟩ := x
    have hat := ixP_at (p := feP ka kb) hx
    refine wl_ov (ov_index (j := i) es116 rfl rfl (by omega)) rfl ?_
    refine wl_ov (ov_elem (vs := [.string xa, .string xb, .int .i64 xc]) rz201 rfl (fun _ hm => (hm.fact 0 rfl).1) hx rfl rfl) rfl ?_
    refine wl_alloc zc201 rfl fun g1 => ?_
    refine wl_stores (cs' := [.string xa, .string xb, .int .i64 xc]) 0 rz201 rfl rfl rfl rfl rfl rfl rfl rfl ?_
    refine wl_nil ?_
    refine nx_then ?_
    refine gw_seq ?_
    refine gw_region ?_
    refine wl_ov (ov_field fo201_0 rfl rfl) rfl ?_
    refine wl_ov (ov_load sc9 rfl (fun _ hm => hm.blkI 0 rfl) rfl) rfl ?_
    refine wl_ov (ov_move rfl) rfl ?_
    refine wl_ov (ov_seql rfl rfl) rfl ?_
    refine wl_ov (ov_move rfl) rfl ?_
    rcases Bool.eq_false_or_eq_true (xa.toList == ka.toList) with h5 | h5
    · refine wl_set 20 rfl (congrArg Value.bool h5) ?_
      refine wl_guard_on rfl rfl rfl ?_
      refine wl_ov (ov_field fo201_1 rfl rfl) rfl ?_
      refine wl_guard_on rfl rfl rfl ?_
      refine wl_ov (ov_load sc9 rfl (fun _ hm => hm.blkI 0 rfl) rfl) rfl ?_
      refine wl_guard_on rfl rfl rfl ?_
      refine wl_ov (ov_move rfl) rfl ?_
      refine wl_guard_on rfl rfl rfl ?_
      refine wl_ov (ov_seql rfl rfl) rfl ?_
      refine wl_ov (ov_pick_t rfl rfl) rfl ?_
      refine wl_nil ?_
      refine nx_then ?_
      refine gw_cond rfl (fun hh => ?_) (fun hh => ?_)
      · have h6 : (xb.toList == kb.toList) = true := by simpa using hh
        clear hh
        refine gw_seq ?_
        refine gw_region ?_
        have hq : feP ka kb ⟨xa, xb, xc⟩ = true := by unfold feP; dsimp only; rw [h5, h6]; rfl
        have hix : ixP (feP ka kb) l 0 = ((i : Nat) : Int) := by rw [hinv.2, hat, if_pos hq]
        have hva := feAt_of hix hx
        dsimp only at hva
        have hi00 : 0 ≤ ixP (feP ka kb) l 0 := by rw [hix]; omega
        refine wl_ov (ov_field fo201_2 rfl rfl) rfl ?_
        refine wl_ov (ov_load sc3 rfl (fun _ hm => hm.blkI 0 rfl) rfl) rfl ?_
        refine wl_ov (ov_assign rfl) rfl ?_
        refine wl_ov (ov_assign rfl) rfl ?_
        refine wl_nil ?_
        refine nx_then ?_
        refine gw_ret ?_
        refine nx_blk_ret ?_
        refine nx_then_ret ?_
        refine nx_then_ret ?_
        refine nx_blk_ret ?_
        refine nx_then_ret ?_
        refine nx_ret2 rfl rfl rfl fun wx hm => ?_
        exact ⟨by rw [if_pos hi00, decide_eq_true hi00, hva]; rfl, hm.g⟩
      · have h6 : (xb.toList == kb.toList) = false := by simpa using hh
        clear hh
        refine gw_skip ?_
        refine nx_blk_nrm ?_
        refine nx_then ?_
        refine gw_region ?_
        have hq : feP ka kb ⟨xa, xb, xc⟩ = false := by unfold feP; dsimp only; rw [h5, h6]; rfl
        refine wl_ov (ov_add rfl rfl (by omega) (by omega)) rfl ?_
        refine wl_ov (ov_move rfl) rfl ?_
        refine wl_nil ?_
        exact nx_round (i + 1) ⟨by omega, by rw [hinv.2, hat, if_neg (by rw [hq]; decide)]⟩ (by omega) ⟨rfl, rfl, rfl, rfl, (some_int (by omega)), trivial⟩ (fun _ hm => hm.pick [] [] [0] rfl rfl)
    · refine wl_set 20 rfl (congrArg Value.bool h5) ?_
      have hq : feP ka kb ⟨xa, xb, xc⟩ = false := by unfold feP; dsimp only; rw [h5]; rfl
      refine wl_guard_off rfl rfl rfl (by decide) rfl ?_
      refine wl_guard_off rfl rfl rfl (by decide) rfl ?_
      refine wl_guard_off rfl rfl rfl (by decide) rfl ?_
      refine wl_guard_off rfl rfl rfl (by decide) rfl ?_
      refine wl_ov (ov_pick_f rfl rfl) rfl ?_
      refine wl_nil ?_
      refine nx_then ?_
      refine gw_cond rfl (fun hh => by cases hh) (fun _ => ?_)
      refine gw_skip ?_
      refine nx_blk_nrm ?_
      refine nx_then ?_
      refine gw_region ?_
      refine wl_ov (ov_add rfl rfl (by omega) (by omega)) rfl ?_
      refine wl_ov (ov_move rfl) rfl ?_
      refine wl_nil ?_
      exact nx_round (i + 1) ⟨by omega, by rw [hinv.2, hat, if_neg (by rw [hq]; decide)]⟩ (by omega) ⟨rfl, rfl, rfl, rfl, (some_int (by omega)), trivial⟩ (fun _ hm => hm.pick [] [] [0] rfl rfl)
  · have hi : ¬ (((i : Nat) : Int) < ((n : Nat) : Int)) := by simpa using hh
    clear hh
    refine gw_exit ?_
    refine nx_then_exit ?_
    refine nx_then_exit ?_
    refine nx_blk_here ?_
    refine nx_then ?_
    refine gw_seq ?_
    refine gw_region ?_
    have hix : ixP (feP ka kb) l 0 = -1 := by rw [hinv.2, List.drop_eq_nil_of_le (by omega)]; rfl
    have hi00 : ¬ 0 ≤ ixP (feP ka kb) l 0 := by rw [hix]; omega
    refine wl_ov (ov_move rfl) rfl ?_
    refine wl_ov (ov_move rfl) rfl ?_
    refine wl_ov (ov_seql rfl rfl) rfl ?_
    refine wl_ov (ov_assign rfl) rfl ?_
    refine wl_ov (ov_assign rfl) rfl ?_
    refine wl_nil ?_
    refine nx_then ?_
    refine gw_ret ?_
    refine nx_ret2 rfl rfl rfl fun wx hm => ?_
    exact ⟨by rw [if_neg hi00, decide_eq_false hi00]; rfl, hm.g⟩

def prEnc (x : ByteArray × ByteArray) : List Value := [.string x.1, .string x.2]
theorem pr_len (x : ByteArray × ByteArray) : (prEnc x).length = 2 := rfl
theorem pr_sz {x : ByteArray × ByteArray} (h : x ∈ ([(⟨#[115, 49]⟩, ⟨#[115, 50]⟩), (⟨#[115, 49]⟩, ⟨#[115, 51]⟩), (⟨#[115, 50]⟩, ⟨#[115, 49]⟩), (⟨#[115, 51]⟩, ⟨#[115, 50]⟩)] : List (ByteArray × ByteArray))) : x.1.size ≤ 100 ∧ x.2.size ≤ 100 := by
  have key : ∀ y ∈ ([(⟨#[115, 49]⟩, ⟨#[115, 50]⟩), (⟨#[115, 49]⟩, ⟨#[115, 51]⟩), (⟨#[115, 50]⟩, ⟨#[115, 49]⟩), (⟨#[115, 51]⟩, ⟨#[115, 50]⟩)] : List (ByteArray × ByteArray)), y.1.size ≤ 100 ∧ y.2.size ≤ 100 := by decide
  exact key x h
theorem fe_snoc {l : List Fe} {x : Fe} (h : ∀ y ∈ l, FeOk y) (h1 : x.a.size ≤ 1000000) (h2 : x.b.size ≤ 1000000) : ∀ y ∈ l ++ [x], FeOk y := fun y hy => by
  rcases List.mem_append.1 hy with hy | hy
  · exact h y hy
  · rw [List.mem_singleton.1 hy]; exact ⟨h1, h2⟩
set_option maxRecDepth 100000 in
set_option maxHeartbeats 1000000 in
theorem gfees_any (w : World) (B sb m : Nat) (hS : Strm 25 w B sb m) (hm : m ≤ 100000000000) :
    Calls Tryd.prog 67 #[.pointer (some ⟨sb, 0, none⟩)] w (fun e w' => ∃ (A : Option Addr) (n c : Nat) (l : List Fe), e = .returned (.slice A n c) ∧ SlT feEnc 3 201 w' A n l ∧ (∀ x ∈ l, FeOk x) ∧ n ≤ 5 ∧ n ≤ c ∧ Strm 25 w' B sb (m + 30) ∧ w.grownBy w' (some sb)) := by
  refine gw_enter ⟨46, w, (some sb), []⟩ Tryd.func67 rfl Tryd.ntmps67 rfl (memS (X := []) hS allF_nil allL_nil) ?_
  refine gw_seq ?_
  refine gw_region ?_
  refine wl_ov (ov_assign rfl) rfl ?_
  refine wl_nil ?_
  refine nx_then ?_
  refine gw_seq ?_
  refine gw_region ?_
  refine wl_ov (ov_assign rfl) rfl ?_
  refine wl_nil ?_
  refine nx_then ?_
  refine gw_seq ?_
  refine gw_seq ?_
  refine gw_region ?_
  refine wl_ov (ov_build (cs := [.string ⟨#[115, 49]⟩, .string ⟨#[115, 50]⟩]) rfl (by kernel_rfl)) rfl ?_
  refine wl_ov (ov_build (cs := [.string ⟨#[115, 49]⟩, .string ⟨#[115, 51]⟩]) rfl (by kernel_rfl)) rfl ?_
  refine wl_ov (ov_build (cs := [.string ⟨#[115, 50]⟩, .string ⟨#[115, 49]⟩]) rfl (by kernel_rfl)) rfl ?_
  refine wl_ov (ov_build (cs := [.string ⟨#[115, 51]⟩, .string ⟨#[115, 50]⟩]) rfl (by kernel_rfl)) rfl ?_
  refine wl_buildSlice (e := 198) (cs := [.string ⟨#[115, 49]⟩, .string ⟨#[115, 50]⟩, .string ⟨#[115, 49]⟩, .string ⟨#[115, 51]⟩, .string ⟨#[115, 50]⟩, .string ⟨#[115, 49]⟩, .string ⟨#[115, 51]⟩, .string ⟨#[115, 50]⟩]) rfl (by kernel_rfl) rfl fun g1 => ?_
  refine wl_ov (ov_len es199 rfl) rfl ?_
  refine wl_set 11 (v' := .int .i64 4) rfl rfl ?_
  refine wl_ov (ov_move rfl) rfl ?_
  refine wl_nil ?_
  refine nx_then ?_
  refine gw_block ?_
  refine gw_nilOwn 201 3 ?_
  refine gw_loop (γ := Nat × Nat × Value × List Fe × List Value) (fun (g : Nat × Nat × Value × List Fe × List Value) => g.1 ≤ 4 ∧ g.2.1 ≤ g.1 ∧ g.2.2.2.1.length = g.2.1 ∧ (∀ x ∈ g.2.2.2.1, FeOk x) ∧ g.2.2.2.2 = g.2.2.2.1.flatMap feEnc) (fun (g : Nat × Nat × Value × List Fe × List Value) => [(0, .pointer (some ⟨sb, 0, none⟩)), (2, .slice none 0 0), (3, g.2.2.1), (10, .slice (some ⟨g1, 0, none⟩) 4 4), (11, .int .i64 4), (12, .int .i64 ((g.1 : Nat) : Int))]) (fun (g : Nat × Nat × Value × List Fe × List Value) => fun w => Strm 25 w B sb (m + 2 * g.1)) (fun (g : Nat × Nat × Value × List Fe × List Value) => [(g1, 198, [.string ⟨#[115, 49]⟩, .string ⟨#[115, 50]⟩, .string ⟨#[115, 49]⟩, .string ⟨#[115, 51]⟩, .string ⟨#[115, 50]⟩, .string ⟨#[115, 49]⟩, .string ⟨#[115, 51]⟩, .string ⟨#[115, 50]⟩])]) (fun (g : Nat × Nat × Value × List Fe × List Value) => [⟨g.2.2.1, 201, 3, g.2.1, g.2.2.2.2⟩]) (fun (g : Nat × Nat × Value × List Fe × List Value) => []) (fun (g : Nat × Nat × Value × List Fe × List Value) => 4 - g.1) (0, 0, .slice none 0 0, [], []) ⟨Nat.zero_le _, Nat.zero_le _, rfl, (fun _ h => by cases h), rfl⟩ ⟨rfl, rfl, rfl, rfl, rfl, rfl, trivial⟩ (fun _ hm => (hm.more rfl (by first | omega | (dsimp only; omega))).pick [0] [0] [] rfl rfl) ?_
  rintro ⟨k, n, v, l, xs⟩ hinv
  replace hinv : k ≤ 4 ∧ n ≤ k ∧ l.length = n ∧ (∀ x ∈ l, FeOk x) ∧ xs = l.flatMap feEnc := hinv
  dsimp only
  refine gw_seq ?_
  refine gw_region ?_
  obtain ⟨hi0, hi1, hi2, hi3, rfl⟩ := hinv
  refine wl_ov (ov_lss rfl rfl) rfl ?_
  refine wl_nil ?_
  refine nx_then ?_
  refine gw_seq ?_
  refine gw_cond rfl (fun hh => ?_) (fun hh => ?_)
  · have hk : ((k : Nat) : Int) < 4 := by simpa using hh
    clear hh
    refine gw_skip ?_
    refine nx_then ?_
    refine gw_seq ?_
    refine gw_block ?_
    refine gw_seq ?_
    refine gw_region ?_
    obtain ⟨nm, hx⟩ : ∃ x, ([(⟨#[115, 49]⟩, ⟨#[115, 50]⟩), (⟨#[115, 49]⟩, ⟨#[115, 51]⟩), (⟨#[115, 50]⟩, ⟨#[115, 49]⟩), (⟨#[115, 51]⟩, ⟨#[115, 50]⟩)] : List (ByteArray × ByteArray))[k]? = some x := ⟨_, List.getElem?_eq_getElem (by simp; omega)⟩
    obtain ⟨na, nb⟩ := nm
    obtain ⟨hna, hnb⟩ := pr_sz (List.mem_of_getElem? hx)
    dsimp only at hna hnb
    refine wl_ov (ov_index (j := k) es199 rfl rfl (by omega)) rfl ?_
    refine wl_ov (ov_elem (vs := [.string na, .string nb]) rz198 rfl (fun _ hm => (SlT.ofBlk (l := [(⟨#[115, 49]⟩, ⟨#[115, 50]⟩), (⟨#[115, 49]⟩, ⟨#[115, 51]⟩), (⟨#[115, 50]⟩, ⟨#[115, 49]⟩), (⟨#[115, 51]⟩, ⟨#[115, 50]⟩)]) pr_len (hm.blkI 0 rfl))) hx rfl rfl) rfl ?_
    refine wl_alloc zc198 rfl fun g2 => ?_
    refine wl_stores (cs' := [.string na, .string nb]) 0 rz198 rfl rfl rfl rfl rfl rfl rfl rfl ?_
    refine wl_nil ?_
    refine nx_then ?_
    refine gw_seq ?_
    refine gw_region ?_
    refine wl_ov (ov_move rfl) rfl ?_
    refine wl_got (γ := Bool) (val := fun v => .bool v) (φ := fun v => True) rfl cb87 rfl rfl rfl rfl (fun wx hm => ((flip_any _ wx B sb _ hm.k (by omega) (by omega) (by omega)).mono fun _ _ ⟨v, he, hS, hg⟩ => ⟨v, trivial, he, hS, hg⟩)) fun f3 _ => ?_
    refine wl_ov (ov_un_not rfl) rfl ?_
    refine wl_nil ?_
    refine nx_then ?_
    refine gw_cond rfl (fun hh => ?_) (fun hh => ?_)
    · have hf : f3 = false := by simpa using hh
      clear hh
      refine gw_draw (fun wz => Blk wz g2 198 [.string na, .string nb] ∧ Blk wz g1 198 [.string ⟨#[115, 49]⟩, .string ⟨#[115, 50]⟩, .string ⟨#[115, 49]⟩, .string ⟨#[115, 51]⟩, .string ⟨#[115, 50]⟩, .string ⟨#[115, 49]⟩, .string ⟨#[115, 51]⟩, .string ⟨#[115, 50]⟩] ∧ True) mixed ?_
      refine wa_take 0 rfl (by kernel_rfl) (by kernel_rfl) (by kernel_rfl) (listed' := #[true, false, false, false, false, false, false, false, false, false, false, false]) rfl (fun _ _ _ h => h) (fun _ hm => ⟨hm.blkI 0 rfl, hm.blkI 1 rfl, trivial⟩) (ov_move rfl) rfl ?_
      refine wa_take 1 rfl (by kernel_rfl) (by kernel_rfl) (by kernel_rfl) (listed' := #[true, true, false, false, false, false, false, false, false, false, false, false]) rfl (fun _ _ _ h => h) (fun _ hm => ⟨hm.blkI 0 rfl, hm.blkI 1 rfl, trivial⟩) (ov_indexP (j := 0) ar198 rfl rfl (by decide) rfl) rfl ?_
      refine wa_take 2 rfl (by kernel_rfl) (by kernel_rfl) (by kernel_rfl) (listed' := #[true, true, true, false, false, false, false, false, false, false, false, false]) rfl (fun _ _ _ h => h) (fun _ hm => ⟨hm.blkI 0 rfl, hm.blkI 1 rfl, trivial⟩) (ov_load sc9 rfl (fun _ hm => hm.1) rfl) rfl ?_
      refine wa_take 3 rfl (by kernel_rfl) (by kernel_rfl) (by kernel_rfl) (listed' := #[true, true, true, true, false, false, false, false, false, false, false, false]) rfl (fun _ _ _ h => h) (fun _ hm => ⟨hm.blkI 0 rfl, hm.blkI 1 rfl, trivial⟩) (ov_indexP (j := 1) ar198 rfl rfl (by decide) rfl) rfl ?_
      refine wa_take 4 rfl (by kernel_rfl) (by kernel_rfl) (by kernel_rfl) (listed' := #[true, true, true, true, true, false, false, false, false, false, false, false]) rfl (fun _ _ _ h => h) (fun _ hm => ⟨hm.blkI 0 rfl, hm.blkI 1 rfl, trivial⟩) (ov_load sc9 rfl (fun _ hm => hm.1) rfl) rfl ?_
      refine wa_take 5 rfl (by kernel_rfl) (by kernel_rfl) (by kernel_rfl) (listed' := #[true, true, true, true, true, true, false, false, false, false, false, false]) rfl (fun _ _ _ h => h) (fun _ hm => ⟨hm.blkI 0 rfl, hm.blkI 1 rfl, trivial⟩) (ov_move rfl) rfl ?_
      refine wa_all [6] (by kernel_rfl) rfl ⟨⟨_, rfl, ?_⟩, trivial⟩
      refine wl_buildSlice (e := 3) (cs := [.int .i64 0, .int .i64 40, .int .i64 700]) rfl (by kernel_rfl) rfl fun g4 => ?_
      refine wl_nil ?_
      refine nx_wa0 (listed' := #[true, true, true, true, true, true, true, false, false, false, false, false]) rfl (fun _ hm => ⟨hm.blkI 1 rfl, hm.blkI 2 rfl, trivial⟩) ?_
      refine wa_all [7] (by kernel_rfl) rfl ⟨⟨_, rfl, ?_⟩, trivial⟩
      refine wl_got (γ := Int) (val := fun v => .int .i64 v) (φ := fun v => v ∈ ([0, 40, 700] : List Int)) rfl cb23 rfl rfl rfl rfl (fun wx hm => (pick_any [0, 40, 700] _ _ _ wx B sb _ hm.k (by omega) (by simp) (by simp) (hm.blkI 0 rfl) (hm.neRow 0 rfl rfl))) fun v5 hv5 => ?_
      have bv5 : 0 ≤ v5 ∧ v5 ≤ 700 := mem_rng hv5 (by decide)
      have bv50 := bv5.1
      have bv51 := bv5.2
      clear bv5
      refine wl_nil ?_
      refine nx_wa0 (listed' := #[true, true, true, true, true, true, true, true, false, false, false, false]) rfl (fun _ hm => ⟨hm.blkI 1 rfl, hm.blkI 2 rfl, trivial⟩) ?_
      refine wa_take 8 rfl (by kernel_rfl) (by kernel_rfl) (by kernel_rfl) (listed' := #[true, true, true, true, true, true, true, true, true, false, false, false]) rfl (fun _ _ _ h => h) (fun _ hm => ⟨hm.blkI 1 rfl, hm.blkI 2 rfl, trivial⟩) (ov_build (cs := [.string na, .string nb, .int .i64 v5]) rfl (by kernel_rfl)) rfl ?_
      refine wa_all [9] (by kernel_rfl) rfl ⟨⟨_, rfl, ?_⟩, trivial⟩
      refine wl_buildSlice (e := 201) (cs := [.string na, .string nb, .int .i64 v5]) rfl (by kernel_rfl) rfl fun g6 => ?_
      refine wl_nil ?_
      refine nx_wa0 (listed' := #[true, true, true, true, true, true, true, true, true, true, false, false]) rfl (fun _ hm => ⟨hm.blkI 2 rfl, hm.blkI 3 rfl, trivial⟩) ?_
      refine wa_all [10] (by kernel_rfl) rfl ⟨⟨_, rfl, ?_⟩, trivial⟩
      refine wl_append (news := [.string na, .string nb, .int .i64 v5]) 0 0 ap116 rfl rfl rfl rfl rfl rfl rfl (by omega) (by unfold maxLen; omega) rfl rfl fun v2 hv2 => ?_
      refine wl_nil ?_
      refine nx_wa0 (listed' := #[true, true, true, true, true, true, true, true, true, true, true, false]) rfl (fun _ hm => ⟨hm.blkI 2 rfl, hm.blkI 3 rfl, trivial⟩) ?_
      refine wa_take 11 rfl (by kernel_rfl) (by kernel_rfl) (by kernel_rfl) (listed' := #[true, true, true, true, true, true, true, true, true, true, true, true]) rfl (fun _ _ _ h => h) (fun _ hm => ⟨hm.blkI 2 rfl, hm.blkI 3 rfl, trivial⟩) (ov_assign rfl) rfl ?_
      refine wa_done (by kernel_rfl) ?_
      refine nx_blk_nrm ?_
      refine nx_then ?_
      refine gw_region ?_
      refine wl_ov (ov_add rfl rfl (by omega) (by omega)) rfl ?_
      refine wl_ov (ov_move rfl) rfl ?_
      refine wl_nil ?_
      exact nx_round (k + 1, n + 1, v2, l ++ [⟨na, nb, v5⟩], l.flatMap feEnc ++ ([.string na, .string nb, .int .i64 v5] : List Value)) ⟨by dsimp only; omega, by dsimp only; omega, by simp [hi2], fe_snoc hi3 (show na.size ≤ 1000000 by omega) (show nb.size ≤ 1000000 by omega), by simp [feEnc]⟩ (by dsimp only; omega) ⟨rfl, rfl, rfl, rfl, rfl, (some_int (by omega)), trivial⟩ (fun _ hm => (hm.more rfl (by first | omega | (dsimp only; omega))).pick [3] [0] [] rfl rfl)
    · have hf : f3 = true := by simpa using hh
      clear hh
      refine gw_skip ?_
      refine nx_blk_nrm ?_
      refine nx_then ?_
      refine gw_region ?_
      refine wl_ov (ov_add rfl rfl (by omega) (by omega)) rfl ?_
      refine wl_ov (ov_move rfl) rfl ?_
      refine wl_nil ?_
      exact nx_round (k + 1, n, v, l, l.flatMap feEnc) ⟨by dsimp only; omega, by dsimp only; omega, hi2, hi3, rfl⟩ (by dsimp only; omega) ⟨rfl, rfl, rfl, rfl, rfl, (some_int (by omega)), trivial⟩ (fun _ hm => (hm.more rfl (by first | omega | (dsimp only; omega))).pick [1] [0] [] rfl rfl)
  · have hk : ¬ (((k : Nat) : Int) < 4) := by simpa using hh
    clear hh
    refine gw_exit ?_
    refine nx_then_exit ?_
    refine nx_then_exit ?_
    refine nx_blk_here ?_
    refine nx_then ?_
    refine gw_seq ?_
    refine gw_seq ?_
    refine gw_region ?_
    refine wl_ov (ov_move rfl) rfl ?_
    refine wl_got (γ := Bool) (val := fun v => .bool v) (φ := fun v => True) rfl cb87 rfl rfl rfl rfl (fun wx hm => ((flip_any _ wx B sb _ hm.k (by omega) (by omega) (by omega)).mono fun _ _ ⟨v, he, hS, hg⟩ => ⟨v, trivial, he, hS, hg⟩)) fun f7 _ => ?_
    refine wl_nil ?_
    refine nx_then ?_
    refine gw_cond rfl (fun hh => ?_) (fun hh => ?_)
    · have hf : f7 = true := by simpa using hh
      clear hh
      refine gw_region ?_
      refine wl_ov (ov_move rfl) rfl ?_
      refine wl_ov (ov_move rfl) rfl ?_
      refine wl_buildSlice (e := 9) (cs := [.string ⟨#[115, 51]⟩, .string ⟨#[65]⟩, .string ⟨#[115, 49]⟩]) rfl (by kernel_rfl) rfl fun g8 => ?_
      refine wl_got (γ := ByteArray) (val := fun v => .string v) (φ := fun v => v ∈ ([⟨#[115, 51]⟩, ⟨#[65]⟩, ⟨#[115, 49]⟩] : List ByteArray)) rfl cb66 rfl rfl rfl rfl (fun wx hm => (some_any [⟨#[115, 51]⟩, ⟨#[65]⟩, ⟨#[115, 49]⟩] _ _ _ wx B sb _ hm.k (by omega) (by simp) (by simp) (hm.blkI 0 rfl) (hm.neRow 0 rfl rfl))) fun s9 hs9 => ?_
      have zs9 : s9.size ≤ 100 := mem_sz hs9 (by decide)
      refine wl_ov (ov_move rfl) rfl ?_
      refine wl_buildSlice (e := 9) (cs := [.string ⟨#[115, 51]⟩, .string ⟨#[115, 57]⟩, .string ⟨#[]⟩]) rfl (by kernel_rfl) rfl fun g10 => ?_
      refine wl_got (γ := ByteArray) (val := fun v => .string v) (φ := fun v => v ∈ ([⟨#[115, 51]⟩, ⟨#[115, 57]⟩, ⟨#[]⟩] : List ByteArray)) rfl cb66 rfl rfl rfl rfl (fun wx hm => (some_any [⟨#[115, 51]⟩, ⟨#[115, 57]⟩, ⟨#[]⟩] _ _ _ wx B sb _ hm.k (by omega) (by simp) (by simp) (hm.blkI 0 rfl) (hm.neRow 0 rfl rfl))) fun s11 hs11 => ?_
      have zs11 : s11.size ≤ 100 := mem_sz hs11 (by decide)
      refine wl_ov (ov_move rfl) rfl ?_
      refine wl_got (γ := Int) (val := fun v => .int .i64 v) (φ := fun v => -2000000000000000 ≤ v ∧ v ≤ 2000000000000000) rfl cb89 rfl rfl rfl rfl (fun wx hm => (odd_any _ _ wx B sb _ hm.k (by omega) (by omega) (by omega) (by omega))) fun v12 hv12 => ?_
      refine wl_ov (ov_build (cs := [.string s9, .string s11, .int .i64 v12]) rfl (by kernel_rfl)) rfl ?_
      refine wl_buildSlice (e := 201) (cs := [.string s9, .string s11, .int .i64 v12]) rfl (by kernel_rfl) rfl fun g13 => ?_
      refine wl_append (news := [.string s9, .string s11, .int .i64 v12]) 0 0 ap116 rfl rfl rfl rfl rfl rfl rfl (by omega) (by unfold maxLen; omega) rfl rfl fun v2 hv2 => ?_
      refine wl_look (R := ∃ A cc, v2 = .slice A (n + 1) cc) (fun wx hm => own_slice (hm.ownI 0 rfl)) ?_
      rintro ⟨A, c, rfl⟩
      refine wl_ov (ov_assign rfl) rfl ?_
      refine wl_nil ?_
      refine nx_then ?_
      refine gw_seq ?_
      refine gw_region ?_
      refine wl_ov (ov_move rfl) rfl ?_
      refine wl_ov (ov_assign rfl) rfl ?_
      refine wl_nil ?_
      refine nx_then ?_
      refine gw_ret ?_
      refine nx_ret1 rfl rfl fun wx hm => ?_
      exact ⟨A, n + 1, c, l ++ [⟨s9, s11, v12⟩], rfl, SlT.ofOwn (l := l ++ [⟨s9, s11, v12⟩]) fee_len (by have h := hm.ownI 0 rfl; simpa [feEnc] using h) (by simp [hi2]), fe_snoc hi3 (show s9.size ≤ 1000000 by omega) (show s11.size ≤ 1000000 by omega), by omega, own_cap (hm.ownI 0 rfl), hm.k.more (by omega), hm.g⟩
    · have hf : f7 = false := by simpa using hh
      clear hh
      refine gw_skip ?_
      refine nx_then ?_
      refine gw_seq ?_
      refine gw_region ?_
      refine wl_look (R := ∃ A cc, v = .slice A n cc) (fun wx hm => own_slice (hm.ownI 0 rfl)) ?_
      rintro ⟨A, c, rfl⟩
      refine wl_ov (ov_move rfl) rfl ?_
      refine wl_ov (ov_assign rfl) rfl ?_
      refine wl_nil ?_
      refine nx_then ?_
      refine gw_ret ?_
      refine nx_ret1 rfl rfl fun wx hm => ?_
      exact ⟨A, n, c, l, rfl, SlT.ofOwn fee_len (hm.ownI 0 rfl) hi2, hi3, by omega, own_cap (hm.ownI 0 rfl), hm.k.more (by omega), hm.g⟩

end Go.Proofs.YtmpomocahgcebaaDoor
