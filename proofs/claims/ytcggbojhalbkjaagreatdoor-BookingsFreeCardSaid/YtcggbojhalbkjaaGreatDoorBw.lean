/- Bookings and stock: the checks; how many vehicles of a class there are; when bookings are on. -/
import Derived.Test.YtcggbojhalbkjaaGreatDoorCi
import Derived.Test.YtcggbojhalbkjaaGreatDoorFm
import Derived.Test.YtcggbojhalbkjaaGreatDoorBy
import Derived.Test.YtcggbojhalbkjaaGreatDoorRt2
import Derived.Test.YtcggbojhalbkjaaGreatDoorBg
namespace Go.Proofs.YtcggbojhalbkjaaGreatDoor
open Go.RowKit

structure Sk where
  cls : ByteArray
  many : Int
def skEnc (x : Sk) : List Value := [.string x.cls, .int .i64 x.many]
theorem sk_len (x : Sk) : (skEnc x).length = 2 := rfl
def SkOk (x : Sk) : Prop := x.cls.size ≤ 1000000 ∧ -2000000000000000 ≤ x.many ∧ x.many ≤ 2000000000000000
def noB (cs : List Cs) (k : ByteArray) : Bool := decide (ixP (csP k) cs 0 < 0)
def classedE (cs : List Cs) (l : List Bk) : Int := if formE l ≠ 0 then formE l else if l.any (fun b => noB cs b.cls) = true then 8 else 0
def checkE (cs : List Cs) (l : List Bk) : Int := firstE [classesE cs, classedE cs l]
def leSk (p : Option Sk) (b : Sk) : Bool := match p with
  | none => false
  | some q => leB b.cls q.cls
def skE (cs : List Cs) (p : Option Sk) (b : Sk) : Int := if noB cs b.cls = true then 8 else if leSk p b then 7 else if !inB b.many 0 100 then 1 else 0
def stockE (cs : List Cs) (l : List Sk) : Int := firstE [classesE cs, if 30 < l.length then 2 else scanE (skE cs) none l]
def prevSk (l : List Sk) (k : Nat) : ByteArray := match prevOf l k with
  | none => ⟨#[]⟩
  | some q => q.cls
theorem prevSk_succ {l : List Sk} {k : Nat} {x : Sk} (h : l[k]? = some x) : prevSk l (k + 1) = x.cls := by
  unfold prevSk prevOf; rw [if_neg (by omega), Nat.add_sub_cancel, h]
theorem prevSk_le {l : List Sk} {k : Nat} {b : Sk} (h : keyB b.cls = true) : leB b.cls (prevSk l k) = leSk (prevOf l k) b := by
  unfold prevSk leSk
  cases prevOf l k with
  | none => exact key_low h
  | some q => rfl
theorem cls_keys {cs : List Cs} (h : classesE cs = 0) : ∀ x ∈ cs, keyB x.key = true := fun x hx => by
  unfold classesE at h
  split at h
  · cases h
  · split at h
    · rename_i h2; exact absurd h h2
    · rename_i h2
      obtain ⟨q, hq⟩ := scanE_all (by simpa using h2 : scanE csE none cs = 0) x hx
      unfold csE at hq
      cases hk : keyB x.key with
      | true => rfl
      | false => rw [hk] at hq; simp at hq
theorem no_key {cs : List Cs} (h : classesE cs = 0) {k : ByteArray} (hk : noB cs k = false) : keyB k = true := by
  unfold noB at hk
  obtain ⟨x, _, hx, e⟩ := ix_key (by simpa using hk : 0 ≤ ixP (csP k) cs 0)
  rw [← e]; exact cls_keys h x hx
def manyV : List Sk → ByteArray → Int
  | [], _ => 0
  | x :: r, k => if x.cls.toList == k.toList then x.many else manyV r k
theorem manyV_at {l : List Sk} {i : Nat} {x : Sk} {k : ByteArray} (h : l[i]? = some x) : manyV (l.drop i) k = if x.cls.toList == k.toList then x.many else manyV (l.drop (i + 1)) k := by
  obtain ⟨hi, rfl⟩ := List.getElem?_eq_some_iff.1 h
  rw [List.drop_eq_getElem_cons hi]; rfl
theorem manyV_end {l : List Sk} {i : Nat} {k : ByteArray} (h : l.length ≤ i) : manyV (l.drop i) k = 0 := by rw [List.drop_eq_nil_of_le h]; rfl
theorem manyV_bound {l : List Sk} (h : ∀ x ∈ l, SkOk x) (k : ByteArray) : -2000000000000000 ≤ manyV l k ∧ manyV l k ≤ 2000000000000000 := by
  induction l with
  | nil => unfold manyV; omega
  | cons x r ih =>
    have h1 := h x (List.mem_cons_self ..)
    have h2 := ih (fun y hy => h y (List.mem_cons_of_mem _ hy))
    unfold manyV
    split
    · exact h1.2
    · exact h2
/-- The times of the bookings of a class. -/
def timT (k : ByteArray) : List Bk → List (Int × Int)
  | [] => []
  | b :: r => if b.cls.toList == k.toList then (b.fr, b.to_) :: timT k r else timT k r
def wEnc (t : Int × Int) : List Value := [.int .i64 t.1, .int .i64 t.2]
theorem w_len (t : Int × Int) : (wEnc t).length = 2 := rfl
theorem timT_len (k : ByteArray) : ∀ l : List Bk, (timT k l).length ≤ l.length
  | [] => Nat.le_refl _
  | b :: r => by
    have := timT_len k r
    unfold timT
    split <;> simp only [List.length_cons] <;> omega
theorem timT_take {l : List Bk} {i : Nat} {b : Bk} {k : ByteArray} (h : l[i]? = some b) : timT k (l.take (i + 1)) = timT k (l.take i) ++ (if b.cls.toList == k.toList then [(b.fr, b.to_)] else []) := by
  have happ : ∀ a c : List Bk, timT k (a ++ c) = timT k a ++ timT k c := fun a c => by
    induction a with
    | nil => rfl
    | cons x r ih =>
      rw [List.cons_append, timT, timT]
      split <;> simp [ih]
  rw [List.take_add_one, h, happ]
  congr 1
theorem timT_mem {k : ByteArray} {t : Int × Int} : ∀ {l : List Bk}, t ∈ timT k l ↔ ∃ b ∈ l, (b.cls.toList == k.toList) = true ∧ t = (b.fr, b.to_)
  | [] => by simp [timT]
  | b :: r => by
    unfold timT
    split
    · rename_i hb
      rw [List.mem_cons, timT_mem (l := r)]
      constructor
      · rintro (rfl | ⟨x, hx, h1, h2⟩)
        · exact ⟨b, List.mem_cons_self .., hb, rfl⟩
        · exact ⟨x, List.mem_cons_of_mem _ hx, h1, h2⟩
      · rintro ⟨x, hx, h1, h2⟩
        rcases List.mem_cons.1 hx with rfl | hx
        · exact .inl h2
        · exact .inr ⟨x, hx, h1, h2⟩
    · rename_i hb
      rw [timT_mem (l := r)]
      constructor
      · rintro ⟨x, hx, h1, h2⟩; exact ⟨x, List.mem_cons_of_mem _ hx, h1, h2⟩
      · rintro ⟨x, hx, h1, h2⟩
        rcases List.mem_cons.1 hx with rfl | hx
        · exact absurd h1 hb
        · exact ⟨x, hx, h1, h2⟩
theorem onT_timT {l : List Bk} {i : Nat} {b : Bk} {k : ByteArray} {x : Int} (h : l[i]? = some b) : onT (timT k (l.take (i + 1))) x = onT (timT k (l.take i)) x + (if (b.cls.toList == k.toList) && inB x b.fr (b.to_ - 1) then 1 else 0) := by
  rw [timT_take h]
  unfold onT
  rw [List.countP_append]
  congr 1
  cases hk : b.cls.toList == k.toList
  · rfl
  · simp [List.countP_cons]
theorem onT_take {T : List (Int × Int)} {i : Nat} {t : Int × Int} {x : Int} (h : T[i]? = some t) : onT (T.take (i + 1)) x = onT (T.take i) x + (if inB x t.1 (t.2 - 1) then 1 else 0) := by
  unfold onT
  rw [List.take_add_one, h, List.countP_append]
  congr 1
  simp [List.countP_cons]
def frsM (a b : Int) : List (Int × Int) → List Int
  | [] => []
  | t :: r => if inB t.1 a (b - 1) then t.1 :: frsM a b r else frsM a b r
theorem frsM_take {T : List (Int × Int)} {i : Nat} {t : Int × Int} {a b : Int} (h : T[i]? = some t) : frsM a b (T.take (i + 1)) = frsM a b (T.take i) ++ (if inB t.1 a (b - 1) then [t.1] else []) := by
  have happ : ∀ x y : List (Int × Int), frsM a b (x ++ y) = frsM a b x ++ frsM a b y := fun x y => by
    induction x with
    | nil => rfl
    | cons u r ih =>
      rw [List.cons_append, frsM, frsM]
      split <;> simp [ih]
  rw [List.take_add_one, h, happ]
  congr 1
theorem frsM_mem {a b x : Int} : ∀ {T : List (Int × Int)}, x ∈ frsM a b T ↔ ∃ t ∈ T, t.1 = x ∧ a ≤ x ∧ x < b
  | [] => by simp [frsM]
  | t :: r => by
    unfold frsM
    cases hb : inB t.1 a (b - 1) with
    | true =>
      have hb2 := inB_iff.1 hb
      rw [if_pos rfl, List.mem_cons, frsM_mem (T := r)]
      constructor
      · rintro (rfl | ⟨u, hu, h1, h2⟩)
        · exact ⟨t, List.mem_cons_self .., rfl, by omega, by omega⟩
        · exact ⟨u, List.mem_cons_of_mem _ hu, h1, h2⟩
      · rintro ⟨u, hu, h1, h2⟩
        rcases List.mem_cons.1 hu with rfl | hu
        · exact .inl h1.symm
        · exact .inr ⟨u, hu, h1, h2⟩
    | false =>
      rw [if_neg (by decide), frsM_mem (T := r)]
      constructor
      · rintro ⟨u, hu, h1, h2⟩; exact ⟨u, List.mem_cons_of_mem _ hu, h1, h2⟩
      · rintro ⟨u, hu, h1, h2⟩
        rcases List.mem_cons.1 hu with rfl | hu
        · exact absurd (inB_iff.2 (show a ≤ u.1 ∧ u.1 ≤ b - 1 by omega)) (by rw [hb]; decide)
        · exact ⟨u, hu, h1, h2⟩
theorem frsM_len (a b : Int) : ∀ T : List (Int × Int), (frsM a b T).length ≤ T.length
  | [] => Nat.le_refl _
  | t :: r => by
    have := frsM_len a b r
    unfold frsM
    split <;> simp only [List.length_cons] <;> omega

set_option maxRecDepth 100000 in
set_option maxHeartbeats 400000 in
theorem pred_hasClass_1_book (ke : ByteArray) (up : ByteArray) (gk : Nat) (k : ByteArray) (w : World) (hk : Blk w gk 9 [.string k]) :
    Calls Tryz.prog 157 #[.agg #[.string ke, .string up], .pointer (some ⟨gk, 0, none⟩)] w (fun e w' => e = .returned (.bool (csP k ⟨ke, up⟩)) ∧ w.grownBy w' none) := by
  refine gw_enter ⟨8, w, none, []⟩ Tryz.func157 rfl Tryz.ntmps157 rfl (mem0 (X := [BlkOld w.heap.size none gk 9 [.string k]]) (allF_cons hk.old allF_nil) (allL_cons BlkOld.lasts allL_nil)) ?_
  refine gw_seq ?_
  refine gw_region ?_
  refine wl_box rfl rfl rfl fun g1 => ?_
  refine wl_ov (ov_assign rfl) rfl ?_
  refine wl_nil ?_
  refine nx_then ?_
  refine gw_seq ?_
  refine gw_region ?_
  refine wl_ov (ov_field fo135_0 rfl rfl) rfl ?_
  refine wl_ov (ov_load sc9 rfl (fun _ hm => hm.blkI 0 rfl) rfl) rfl ?_
  refine wl_ov (ov_load (v := .string k) sc9 rfl (fun _ hm => (hm.fact 0 rfl).2) rfl) rfl ?_
  refine wl_ov (ov_seql rfl rfl) rfl ?_
  refine wl_ov (ov_assign rfl) rfl ?_
  refine wl_nil ?_
  refine nx_then ?_
  refine gw_ret ?_
  refine nx_ret1 rfl rfl fun wx hm => ?_
  exact ⟨rfl, hm.g⟩

set_option maxRecDepth 100000 in
set_option maxHeartbeats 400000 in
theorem index_hasClass_1_book (l : List Cs) (A : Option Addr) (n c0 : Nat) (gk : Nat) (k : ByteArray) (w : World) (hl : SlT csEnc 2 135 w A n l) (hn : n ≤ 1000000) (hk : Blk w gk 9 [.string k]) :
    Calls Tryz.prog 91 #[.slice A n c0, .func (.func 157) #[] #[.pointer (some ⟨gk, 0, none⟩)]] w (GotE w (ixP (csP k) l 0)) := by
  refine gw_enter ⟨19, w, none, []⟩ Tryz.func91 rfl Tryz.ntmps91 rfl (mem0 (X := [SlOld csEnc 2 135 w.heap.size none A n l, BlkOld w.heap.size none gk 9 [.string k]]) (allF_cons hl.old (allF_cons hk.old allF_nil)) (allL_cons SlOld.lasts (allL_cons BlkOld.lasts allL_nil))) ?_
  refine gw_seq ?_
  refine gw_region ?_
  have hlen := hl.len
  refine wl_ov (ov_assign rfl) rfl ?_
  refine wl_nil ?_
  refine nx_then ?_
  refine gw_seq ?_
  refine gw_seq ?_
  refine gw_region ?_
  refine wl_ov (ov_move rfl) rfl ?_
  refine wl_ov (ov_len es50 rfl) rfl ?_
  refine wl_ov (ov_move rfl) rfl ?_
  refine wl_nil ?_
  refine nx_then ?_
  refine gw_block ?_
  refine gw_loop (γ := Nat) (fun (i : Nat) => i ≤ n ∧ ixP (csP k) l 0 = ixP (csP k) (l.drop i) i) (fun (i : Nat) => [(0, .slice A n c0), (1, .func (.func 157) #[] #[.pointer (some ⟨gk, 0, none⟩)]), (7, .int .i64 ((n : Nat) : Int)), (8, .int .i64 ((i : Nat) : Int))]) (fun (i : Nat) => fun _ => True) (fun (i : Nat) => []) (fun (i : Nat) => []) (fun (i : Nat) => [SlOld csEnc 2 135 w.heap.size none A n l, BlkOld w.heap.size none gk 9 [.string k]]) (fun (i : Nat) => n - i) 0 ⟨Nat.zero_le _, rfl⟩ ⟨rfl, rfl, rfl, rfl, trivial⟩ (fun _ hm => hm.pick [] [] [0, 1] rfl rfl) ?_
  intro i hinv
  replace hinv : i ≤ n ∧ ixP (csP k) l 0 = ixP (csP k) (l.drop i) i := hinv
  refine gw_seq ?_
  refine gw_region ?_
  refine wl_ov (ov_lss rfl rfl) rfl ?_
  refine wl_nil ?_
  refine nx_then ?_
  refine gw_seq ?_
  refine gw_cond rfl (fun hh => ?_) (fun hh => ?_)
  · have hi : ((i : Nat) : Int) < ((n : Nat) : Int) := by simpa using hh
    clear hh
    refine gw_skip ?_
    refine nx_then ?_
    refine gw_seq ?_
    refine gw_block ?_
    refine gw_seq ?_
    refine gw_region ?_
    obtain ⟨b, off, hA, _, _⟩ := hl.get (by omega)
    subst hA
    obtain ⟨x, hx⟩ : ∃ x, l[i]? = some x := ⟨_, List.getElem?_eq_getElem (by omega)⟩
    obtain ⟨ke, up⟩ := x
    have hat := ixP_at (p := csP k) hx
    refine wl_ov (ov_move rfl) rfl ?_
    refine wl_ov (ov_assign rfl) rfl ?_
    refine wl_nil ?_
    refine nx_then ?_
    refine gw_seq ?_
    refine gw_region ?_
    refine wl_ov (ov_move rfl) rfl ?_
    refine wl_ov (ov_move rfl) rfl ?_
    refine wl_ov (ov_move rfl) rfl ?_
    refine wl_ov (ov_index (j := i) es50 rfl rfl (by omega)) rfl ?_
    refine wl_ov (ov_elem (vs := [.string ke, .string up]) rz135 rfl (fun _ hm => (hm.fact 0 rfl).1) hx rfl rfl) rfl ?_
    refine wl_callv rfl cb157 rfl rfl (fun wx hm => (pred_hasClass_1_book ke up gk k wx (hm.fact 1 rfl).2)) ?_
    refine wl_nil ?_
    refine nx_then ?_
    refine gw_cond rfl (fun hh => ?_) (fun hh => ?_)
    · have hq : (csP k ⟨ke, up⟩) = true := by simpa using hh
      clear hh
      refine gw_seq ?_
      refine gw_region ?_
      refine wl_ov (ov_move rfl) rfl ?_
      refine wl_ov (ov_assign rfl) rfl ?_
      refine wl_nil ?_
      refine nx_then ?_
      refine gw_ret ?_
      refine nx_blk_ret ?_
      refine nx_then_ret ?_
      refine nx_then_ret ?_
      refine nx_blk_ret ?_
      refine nx_then_ret ?_
      refine nx_ret1 rfl rfl fun wx hm => ?_
      exact ⟨ret_int (by rw [hinv.2, hat, if_pos hq]), hm.g⟩
    · have hq : (csP k ⟨ke, up⟩) = false := by simpa using hh
      clear hh
      refine gw_skip ?_
      refine nx_blk_nrm ?_
      refine nx_then ?_
      refine gw_region ?_
      refine wl_ov (ov_add rfl rfl (by omega) (by omega)) rfl ?_
      refine wl_ov (ov_move rfl) rfl ?_
      refine wl_nil ?_
      exact nx_round (i + 1) ⟨by omega, by rw [hinv.2, hat, if_neg (by rw [hq]; decide)]⟩ (by omega) ⟨rfl, rfl, rfl, (some_int (by omega)), trivial⟩ (fun _ hm => hm.pick [] [] [0, 1] rfl rfl)
  · have hi : ¬ (((i : Nat) : Int) < ((n : Nat) : Int)) := by simpa using hh
    clear hh
    refine gw_exit ?_
    refine nx_then_exit ?_
    refine nx_then_exit ?_
    refine nx_blk_here ?_
    refine nx_then ?_
    refine gw_seq ?_
    refine gw_region ?_
    refine wl_ov (ov_assign rfl) rfl ?_
    refine wl_set 4 (v' := .int .i64 (-1)) rfl rfl ?_
    refine wl_nil ?_
    refine nx_then ?_
    refine gw_ret ?_
    refine nx_ret1 rfl rfl fun wx hm => ?_
    exact ⟨ret_int (by rw [hinv.2, List.drop_eq_nil_of_le (by omega)]; rfl), hm.g⟩

set_option maxRecDepth 100000 in
set_option maxHeartbeats 400000 in
theorem hasC_any (l : List Cs) (A : Option Addr) (n c0 : Nat) (gk : Nat) (k : ByteArray) (w : World) (hl : SlT csEnc 2 135 w A n l) (hn : n ≤ 1000000) (hk : Blk w gk 9 [.string k]) :
    Calls Tryz.prog 156 #[.slice A n c0, .func (.func 157) #[] #[.pointer (some ⟨gk, 0, none⟩)]] w (fun e w' => e = .returned (.bool (decide (0 ≤ ixP (csP k) l 0))) ∧ w.grownBy w' none) := by
  refine gw_enter ⟨9, w, none, []⟩ Tryz.func156 rfl Tryz.ntmps156 rfl (mem0 (X := [SlOld csEnc 2 135 w.heap.size none A n l, BlkOld w.heap.size none gk 9 [.string k]]) (allF_cons hl.old (allF_cons hk.old allF_nil)) (allL_cons SlOld.lasts (allL_cons BlkOld.lasts allL_nil))) ?_
  refine gw_seq ?_
  refine gw_region ?_
  refine wl_ov (ov_assign rfl) rfl ?_
  refine wl_nil ?_
  refine nx_then ?_
  refine gw_seq ?_
  refine gw_region ?_
  refine wl_ov (ov_move rfl) rfl ?_
  refine wl_ov (ov_move rfl) rfl ?_
  refine wl_callv rfl cb91 rfl rfl (fun wx hm => (index_hasClass_1_book l A n c0 gk k wx (hm.fact 0 rfl).1 hn (hm.fact 1 rfl).2)) ?_
  refine wl_ov (ov_geq rfl rfl) rfl ?_
  refine wl_ov (ov_assign rfl) rfl ?_
  refine wl_nil ?_
  refine nx_then ?_
  refine gw_ret ?_
  refine nx_ret1 rfl rfl fun wx hm => ?_
  exact ⟨rfl, hm.g⟩

set_option maxRecDepth 100000 in
set_option maxHeartbeats 400000 in
theorem hasClass_any (cs : List Cs) (A0 : Option Addr) (n0 c0 : Nat) (k : ByteArray) (w : World) (hcs : SlT csEnc 2 135 w A0 n0 cs) (_hco : ∀ x ∈ cs, CsOk x) (hn0 : n0 ≤ 1000) :
    Calls Tryz.prog 86 #[.slice A0 n0 c0, .string k] w (fun e w' => e = .returned (.bool (!noB cs k)) ∧ w.grownBy w' none) := by
  refine gw_enter ⟨8, w, none, []⟩ Tryz.func86 rfl Tryz.ntmps86 rfl (mem0 (X := [SlOld csEnc 2 135 w.heap.size none A0 n0 cs]) (allF_cons hcs.old allF_nil) (allL_cons SlOld.lasts allL_nil)) ?_
  refine gw_seq ?_
  refine gw_region ?_
  refine wl_box rfl rfl rfl fun g1 => ?_
  refine wl_ov (ov_assign rfl) rfl ?_
  refine wl_nil ?_
  refine nx_then ?_
  refine gw_seq ?_
  refine gw_region ?_
  refine wl_ov (ov_move rfl) rfl ?_
  refine wl_ov (ov_makeFunc rfl rfl) rfl ?_
  refine wl_callv rfl cb156 rfl rfl (fun wx hm => (hasC_any cs A0 n0 c0 _ k wx (hm.fact 0 rfl).1 (by omega) (hm.blkI 0 rfl))) ?_
  refine wl_ov (ov_assign rfl) rfl ?_
  refine wl_nil ?_
  refine nx_then ?_
  refine gw_ret ?_
  refine nx_ret1 rfl rfl fun wx hm => ?_
  exact ⟨by unfold noB; cases h : decide (ixP (csP k) cs 0 < 0) <;> simp at h ⊢ <;> omega, hm.g⟩

set_option maxRecDepth 100000 in
set_option maxHeartbeats 1000000 in
theorem classed_any (cs : List Cs) (A0 : Option Addr) (n0 c0 : Nat) (l : List Bk) (A : Option Addr) (n c : Nat) (w : World) (hcs : SlT csEnc 2 135 w A0 n0 cs) (hco : ∀ x ∈ cs, CsOk x) (hn0 : n0 ≤ 1000) (hl : SlT bkEnc 6 142 w A n l) (hok : ∀ x ∈ l, BkOk x) (hn : n ≤ 1000) :
    Calls Tryz.prog 94 #[.slice A0 n0 c0, .slice A n c] w (GotE w (classedE cs l)) := by
  refine gw_enter ⟨25, w, none, []⟩ Tryz.func94 rfl Tryz.ntmps94 rfl (mem0 (X := [SlOld csEnc 2 135 w.heap.size none A0 n0 cs, SlOld bkEnc 6 142 w.heap.size none A n l]) (allF_cons hcs.old (allF_cons hl.old allF_nil)) (allL_cons SlOld.lasts (allL_cons SlOld.lasts allL_nil))) ?_
  refine gw_seq ?_
  refine gw_region ?_
  have hlen := hl.len
  obtain ⟨FE, hFE⟩ : ∃ E, E = formE l := ⟨_, rfl⟩
  refine wl_ov (ov_assign rfl) rfl ?_
  refine wl_nil ?_
  refine nx_then ?_
  refine gw_seq ?_
  refine gw_seq ?_
  refine gw_region ?_
  refine wl_ov (ov_move rfl) rfl ?_
  refine wl_callv (v := .int .i64 FE) rfl cb160 rfl rfl (fun wx hm => (by rw [hFE]; exact formed_any l A n c wx (hm.fact 1 rfl).1 hok (by omega))) ?_
  refine wl_ov (ov_assign rfl) rfl ?_
  refine wl_nil ?_
  refine nx_then ?_
  refine gw_seq ?_
  refine gw_region ?_
  refine wl_ov (ov_move rfl) rfl ?_
  refine wl_ov (ov_neq rfl rfl) rfl ?_
  refine wl_nil ?_
  refine nx_then ?_
  refine gw_cond rfl (fun hh => ?_) (fun hh => ?_)
  · have h1 : ¬ (FE = 0) := by simpa using hh
    clear hh
    refine gw_seq ?_
    refine gw_region ?_
    refine wl_ov (ov_move rfl) rfl ?_
    refine wl_ov (ov_assign rfl) rfl ?_
    refine wl_nil ?_
    refine nx_then ?_
    refine gw_ret ?_
    refine nx_then_ret ?_
    refine nx_ret1 rfl rfl fun wx hm => ?_
    exact ⟨ret_int (by unfold classedE; rw [← hFE, if_pos (by simpa using h1)]), hm.g⟩
  · have h1 : FE = 0 := by simpa using hh
    clear hh
    refine gw_skip ?_
    refine nx_then ?_
    refine gw_seq ?_
    refine gw_seq ?_
    refine gw_region ?_
    have hke : classedE cs l = if l.any (fun b => noB cs b.cls) = true then 8 else 0 := by unfold classedE; rw [← hFE, if_neg (by simpa using h1)]
    refine wl_ov (ov_move rfl) rfl ?_
    refine wl_ov (ov_len es52 rfl) rfl ?_
    refine wl_ov (ov_move rfl) rfl ?_
    refine wl_nil ?_
    refine nx_then ?_
    refine gw_block ?_
    refine gw_loop (γ := Nat) (fun (i : Nat) => i ≤ n ∧ l.any (fun b => noB cs b.cls) = (l.drop i).any (fun b => noB cs b.cls)) (fun (i : Nat) => [(0, .slice A0 n0 c0), (13, .slice A n c), (14, .int .i64 ((n : Nat) : Int)), (15, .int .i64 ((i : Nat) : Int))]) (fun (i : Nat) => fun _ => True) (fun (i : Nat) => []) (fun (i : Nat) => []) (fun (i : Nat) => [SlOld csEnc 2 135 w.heap.size none A0 n0 cs, SlOld bkEnc 6 142 w.heap.size none A n l]) (fun (i : Nat) => n - i) 0 ⟨Nat.zero_le _, rfl⟩ ⟨rfl, rfl, rfl, rfl, trivial⟩ (fun _ hm => hm.pick [] [] [0, 1] rfl rfl) ?_
    intro i hinv
    replace hinv : i ≤ n ∧ l.any (fun b => noB cs b.cls) = (l.drop i).any (fun b => noB cs b.cls) := hinv
    refine gw_seq ?_
    refine gw_region ?_
    refine wl_ov (ov_lss rfl rfl) rfl ?_
    refine wl_nil ?_
    refine nx_then ?_
    refine gw_seq ?_
    refine gw_cond rfl (fun hh => ?_) (fun hh => ?_)
    · have hi : ((i : Nat) : Int) < ((n : Nat) : Int) := by simpa using hh
      clear hh
      refine gw_skip ?_
      refine nx_then ?_
      refine gw_seq ?_
      refine gw_block ?_
      refine gw_seq ?_
      refine gw_region ?_
      obtain ⟨b, off, hA, _, _⟩ := hl.get (by omega)
      subst hA
      obtain ⟨x, hx⟩ : ∃ x, l[i]? = some x := ⟨_, List.getElem?_eq_getElem (by omega)⟩
      obtain ⟨ke, cl, fr, tt, md, od⟩ := x
      have hat := any_at (p := (fun b => noB cs b.cls)) hx
      refine wl_ov (ov_index (j := i) es52 rfl rfl (by omega)) rfl ?_
      refine wl_ov (ov_elem (vs := [.string ke, .string cl, .int .i64 fr, .int .i64 tt, .int .i64 md, .int .i64 od]) rz142 rfl (fun _ hm => (hm.fact 1 rfl).1) hx rfl rfl) rfl ?_
      refine wl_alloc zc142 rfl fun g1 => ?_
      refine wl_stores (cs' := [.string ke, .string cl, .int .i64 fr, .int .i64 tt, .int .i64 md, .int .i64 od]) 0 rz142 rfl rfl rfl rfl rfl rfl rfl rfl ?_
      refine wl_nil ?_
      refine nx_then ?_
      refine gw_seq ?_
      refine gw_region ?_
      refine wl_ov (ov_move rfl) rfl ?_
      refine wl_ov (ov_field fo142_1 rfl rfl) rfl ?_
      refine wl_ov (ov_load sc9 rfl (fun _ hm => hm.blkI 0 rfl) rfl) rfl ?_
      refine wl_callv rfl cb86 rfl rfl (fun wx hm => (hasClass_any cs A0 n0 c0 cl wx (hm.fact 0 rfl).1 hco hn0)) ?_
      refine wl_ov (ov_un_not rfl) rfl ?_
      refine wl_nil ?_
      refine nx_then ?_
      refine gw_cond rfl (fun hh => ?_) (fun hh => ?_)
      · have hq : (!noB cs cl) = false := by simpa using hh
        clear hh
        refine gw_seq ?_
        refine gw_region ?_
        have hb : noB cs cl = true := by simpa using hq
        refine wl_ov (ov_assign rfl) rfl ?_
        refine wl_nil ?_
        refine nx_then ?_
        refine gw_ret ?_
        refine nx_blk_ret ?_
        refine nx_then_ret ?_
        refine nx_then_ret ?_
        refine nx_blk_ret ?_
        refine nx_then_ret ?_
        refine nx_ret1 rfl rfl fun wx hm => ?_
        exact ⟨ret_int (by rw [hke, if_pos (by rw [hinv.2, hat, hb]; rfl)]), hm.g⟩
      · have hq : (!noB cs cl) = true := by simpa using hh
        clear hh
        refine gw_skip ?_
        refine nx_blk_nrm ?_
        refine nx_then ?_
        refine gw_region ?_
        have hb : noB cs cl = false := by simpa using hq
        refine wl_ov (ov_add rfl rfl (by omega) (by omega)) rfl ?_
        refine wl_ov (ov_move rfl) rfl ?_
        refine wl_nil ?_
        exact nx_round (i + 1) ⟨by omega, by rw [hinv.2, hat, hb]; rfl⟩ (by omega) ⟨rfl, rfl, rfl, (some_int (by omega)), trivial⟩ (fun _ hm => hm.pick [] [] [0, 1] rfl rfl)
    · have hi : ¬ (((i : Nat) : Int) < ((n : Nat) : Int)) := by simpa using hh
      clear hh
      refine gw_exit ?_
      refine nx_then_exit ?_
      refine nx_then_exit ?_
      refine nx_blk_here ?_
      refine nx_then ?_
      refine gw_seq ?_
      refine gw_region ?_
      refine wl_ov (ov_assign rfl) rfl ?_
      refine wl_nil ?_
      refine nx_then ?_
      refine gw_ret ?_
      refine nx_ret1 rfl rfl fun wx hm => ?_
      exact ⟨ret_int (by rw [hke, if_neg (by rw [hinv.2, any_end (by omega)]; decide)]), hm.g⟩

set_option maxRecDepth 100000 in
set_option maxHeartbeats 1000000 in
theorem known_any (cs : List Cs) (A0 : Option Addr) (n0 c0 : Nat) (l : List Bk) (A : Option Addr) (n c : Nat) (w : World) (hcs : SlT csEnc 2 135 w A0 n0 cs) (_hco : ∀ x ∈ cs, CsOk x) (hn0 : n0 ≤ 1000) (hl : SlT bkEnc 6 142 w A n l) (_hok : ∀ x ∈ l, BkOk x) (hn : n ≤ 1000) :
    Calls Tryz.prog 154 #[.slice A0 n0 c0, .slice A n c] w (GotE w (if l.any (fun b => noB cs b.cls) = true then 8 else 0)) := by
  refine gw_enter ⟨19, w, none, []⟩ Tryz.func154 rfl Tryz.ntmps154 rfl (mem0 (X := [SlOld csEnc 2 135 w.heap.size none A0 n0 cs, SlOld bkEnc 6 142 w.heap.size none A n l]) (allF_cons hcs.old (allF_cons hl.old allF_nil)) (allL_cons SlOld.lasts (allL_cons SlOld.lasts allL_nil))) ?_
  refine gw_seq ?_
  refine gw_region ?_
  have hlen := hl.len
  obtain ⟨KE, hke⟩ : ∃ E, E = (if l.any (fun b => noB cs b.cls) = true then (8 : Int) else 0) := ⟨_, rfl⟩
  rw [← hke]
  refine wl_ov (ov_assign rfl) rfl ?_
  refine wl_nil ?_
  refine nx_then ?_
  refine gw_seq ?_
  refine gw_seq ?_
  refine gw_region ?_
  refine wl_ov (ov_move rfl) rfl ?_
  refine wl_ov (ov_len es52 rfl) rfl ?_
  refine wl_ov (ov_move rfl) rfl ?_
  refine wl_nil ?_
  refine nx_then ?_
  refine gw_block ?_
  refine gw_loop (γ := Nat) (fun (i : Nat) => i ≤ n ∧ l.any (fun b => noB cs b.cls) = (l.drop i).any (fun b => noB cs b.cls)) (fun (i : Nat) => [(0, .slice A0 n0 c0), (7, .slice A n c), (8, .int .i64 ((n : Nat) : Int)), (9, .int .i64 ((i : Nat) : Int))]) (fun (i : Nat) => fun _ => True) (fun (i : Nat) => []) (fun (i : Nat) => []) (fun (i : Nat) => [SlOld csEnc 2 135 w.heap.size none A0 n0 cs, SlOld bkEnc 6 142 w.heap.size none A n l]) (fun (i : Nat) => n - i) 0 ⟨Nat.zero_le _, rfl⟩ ⟨rfl, rfl, rfl, rfl, trivial⟩ (fun _ hm => hm.pick [] [] [0, 1] rfl rfl) ?_
  intro i hinv
  replace hinv : i ≤ n ∧ l.any (fun b => noB cs b.cls) = (l.drop i).any (fun b => noB cs b.cls) := hinv
  refine gw_seq ?_
  refine gw_region ?_
  refine wl_ov (ov_lss rfl rfl) rfl ?_
  refine wl_nil ?_
  refine nx_then ?_
  refine gw_seq ?_
  refine gw_cond rfl (fun hh => ?_) (fun hh => ?_)
  · have hi : ((i : Nat) : Int) < ((n : Nat) : Int) := by simpa using hh
    clear hh
    refine gw_skip ?_
    refine nx_then ?_
    refine gw_seq ?_
    refine gw_block ?_
    refine gw_seq ?_
    refine gw_region ?_
    obtain ⟨b, off, hA, _, _⟩ := hl.get (by omega)
    subst hA
    obtain ⟨x, hx⟩ : ∃ x, l[i]? = some x := ⟨_, List.getElem?_eq_getElem (by omega)⟩
    obtain ⟨ke, cl, fr, tt, md, od⟩ := x
    have hat := any_at (p := (fun b => noB cs b.cls)) hx
    refine wl_ov (ov_index (j := i) es52 rfl rfl (by omega)) rfl ?_
    refine wl_ov (ov_elem (vs := [.string ke, .string cl, .int .i64 fr, .int .i64 tt, .int .i64 md, .int .i64 od]) rz142 rfl (fun _ hm => (hm.fact 1 rfl).1) hx rfl rfl) rfl ?_
    refine wl_alloc zc142 rfl fun g1 => ?_
    refine wl_stores (cs' := [.string ke, .string cl, .int .i64 fr, .int .i64 tt, .int .i64 md, .int .i64 od]) 0 rz142 rfl rfl rfl rfl rfl rfl rfl rfl ?_
    refine wl_nil ?_
    refine nx_then ?_
    refine gw_seq ?_
    refine gw_region ?_
    refine wl_ov (ov_move rfl) rfl ?_
    refine wl_ov (ov_field fo142_1 rfl rfl) rfl ?_
    refine wl_ov (ov_load sc9 rfl (fun _ hm => hm.blkI 0 rfl) rfl) rfl ?_
    refine wl_callv rfl cb21 rfl rfl (fun wx hm => (rClassAt_any cs A0 n0 c0 cl wx (hm.fact 0 rfl).1 (by omega))) ?_
    refine wl_ov (ov_lss rfl rfl) rfl ?_
    refine wl_nil ?_
    refine nx_then ?_
    refine gw_cond rfl (fun hh => ?_) (fun hh => ?_)
    · have hq : ixP (csP cl) cs 0 < 0 := by simpa using hh
      clear hh
      refine gw_seq ?_
      refine gw_region ?_
      have hb : noB cs cl = true := by unfold noB; exact decide_eq_true hq
      refine wl_ov (ov_assign rfl) rfl ?_
      refine wl_nil ?_
      refine nx_then ?_
      refine gw_ret ?_
      refine nx_blk_ret ?_
      refine nx_then_ret ?_
      refine nx_then_ret ?_
      refine nx_blk_ret ?_
      refine nx_then_ret ?_
      refine nx_ret1 rfl rfl fun wx hm => ?_
      exact ⟨ret_int (by rw [hke, if_pos (by rw [hinv.2, hat, hb]; rfl)]), hm.g⟩
    · have hq : ¬ (ixP (csP cl) cs 0 < 0) := by simpa using hh
      clear hh
      refine gw_skip ?_
      refine nx_blk_nrm ?_
      refine nx_then ?_
      refine gw_region ?_
      have hb : noB cs cl = false := by unfold noB; exact decide_eq_false hq
      refine wl_ov (ov_add rfl rfl (by omega) (by omega)) rfl ?_
      refine wl_ov (ov_move rfl) rfl ?_
      refine wl_nil ?_
      exact nx_round (i + 1) ⟨by omega, by rw [hinv.2, hat, hb]; rfl⟩ (by omega) ⟨rfl, rfl, rfl, (some_int (by omega)), trivial⟩ (fun _ hm => hm.pick [] [] [0, 1] rfl rfl)
  · have hi : ¬ (((i : Nat) : Int) < ((n : Nat) : Int)) := by simpa using hh
    clear hh
    refine gw_exit ?_
    refine nx_then_exit ?_
    refine nx_then_exit ?_
    refine nx_blk_here ?_
    refine nx_then ?_
    refine gw_seq ?_
    refine gw_region ?_
    refine wl_ov (ov_assign rfl) rfl ?_
    refine wl_nil ?_
    refine nx_then ?_
    refine gw_ret ?_
    refine nx_ret1 rfl rfl fun wx hm => ?_
    exact ⟨ret_int (by rw [hke, if_neg (by rw [hinv.2, any_end (by omega)]; decide)]), hm.g⟩

set_option maxRecDepth 100000 in
set_option maxHeartbeats 400000 in
theorem bcheck_any (cs : List Cs) (A0 : Option Addr) (n0 c0 : Nat) (l : List Bk) (A : Option Addr) (n c : Nat) (w : World) (hcs : SlT csEnc 2 135 w A0 n0 cs) (hco : ∀ x ∈ cs, CsOk x) (hn0 : n0 ≤ 1000) (hl : SlT bkEnc 6 142 w A n l) (hok : ∀ x ∈ l, BkOk x) (hn : n ≤ 1000) :
    Calls Tryz.prog 24 #[.slice A0 n0 c0, .slice A n c] w (GotE w (checkE cs l)) := by
  refine gw_enter ⟨12, w, none, []⟩ Tryz.func24 rfl Tryz.ntmps24 rfl (mem0 (X := [SlOld csEnc 2 135 w.heap.size none A0 n0 cs, SlOld bkEnc 6 142 w.heap.size none A n l]) (allF_cons hcs.old (allF_cons hl.old allF_nil)) (allL_cons SlOld.lasts (allL_cons SlOld.lasts allL_nil))) ?_
  refine gw_seq ?_
  refine gw_region ?_
  obtain ⟨CE, hCE⟩ : ∃ E, E = classesE cs := ⟨_, rfl⟩
  obtain ⟨KE, hKE⟩ : ∃ E, E = classedE cs l := ⟨_, rfl⟩
  refine wl_ov (ov_assign rfl) rfl ?_
  refine wl_nil ?_
  refine nx_then ?_
  refine gw_seq ?_
  refine gw_region ?_
  refine wl_ov (ov_move rfl) rfl ?_
  refine wl_callv (v := .int .i64 CE) rfl cb93 rfl rfl (fun wx hm => (by rw [hCE]; exact checkClasses_any cs A0 n0 c0 wx (hm.fact 0 rfl).1 hco (by omega))) ?_
  refine wl_ov (ov_move rfl) rfl ?_
  refine wl_ov (ov_move rfl) rfl ?_
  refine wl_callv (v := .int .i64 KE) rfl cb94 rfl rfl (fun wx hm => (by rw [hKE]; exact classed_any cs A0 n0 c0 l A n c wx (hm.fact 0 rfl).1 hco hn0 (hm.fact 1 rfl).1 hok hn)) ?_
  refine wl_buildSlice (e := 41) (cs := [.int .i64 CE, .int .i64 KE]) rfl (by kernel_rfl) rfl fun g1 => ?_
  refine wl_callw rfl cb58 rfl rfl (fun wx hm => (first_any [CE, KE] _ _ _ wx (hm.blkI 0 rfl) (by simp))) ?_
  refine wl_ov (ov_assign rfl) rfl ?_
  refine wl_nil ?_
  refine nx_then ?_
  refine gw_ret ?_
  refine nx_ret1 rfl rfl fun wx hm => ?_
  exact ⟨ret_int (by unfold checkE; rw [hCE, hKE]), hm.g⟩

theorem stock_early {cs : List Cs} {sl : List Sk} (h : firstE [classesE cs, whenE (decide (30 < ((sl.length : Nat) : Int))) 2] ≠ 0) : stockE cs sl = firstE [classesE cs, whenE (decide (30 < ((sl.length : Nat) : Int))) 2] := by
  unfold stockE
  by_cases h30 : 30 < sl.length
  · rw [if_pos h30, decide_eq_true (by omega)]; rfl
  · rw [decide_eq_false (by omega)] at h ⊢
    unfold firstE at h ⊢
    by_cases hc : classesE cs = 0
    · rw [if_pos hc] at h; exact absurd rfl h
    · rw [if_neg hc, if_neg hc]
theorem stock_late {a : Int} {n : Nat} (h : firstE [a, whenE (decide (30 < ((n : Nat) : Int))) 2] = 0) : a = 0 ∧ ¬ 30 < n := by
  unfold firstE at h
  by_cases ha : a = 0
  · refine ⟨ha, fun h30 => ?_⟩
    rw [if_pos ha, decide_eq_true (by omega)] at h
    exact absurd h (by decide)
  · rw [if_neg ha] at h; exact absurd h ha
theorem stock_scan {cs : List Cs} {sl : List Sk} (h : classesE cs = 0) (h30 : ¬ 30 < sl.length) : stockE cs sl = scanE (skE cs) none sl := by
  unfold stockE
  rw [if_neg h30, h]
  show firstE [0, _] = _
  exact firstE_zero _
theorem stock_cls {cs : List Cs} {sl : List Sk} (h : classesE cs ≠ 0) : stockE cs sl = classesE cs := by
  unfold stockE firstE
  rw [if_neg h]
theorem stock_large {cs : List Cs} {sl : List Sk} (h : classesE cs = 0) (h30 : 30 < sl.length) : stockE cs sl = 2 := by
  unfold stockE
  rw [if_pos h30, h]; rfl

set_option maxRecDepth 100000 in
set_option maxHeartbeats 1000000 in
theorem checkStock_any (cs : List Cs) (A0 : Option Addr) (n0 c0 : Nat) (sl : List Sk) (A1 : Option Addr) (n1 c1 : Nat) (w : World) (hcs : SlT csEnc 2 135 w A0 n0 cs) (hco : ∀ x ∈ cs, CsOk x) (hn0 : n0 ≤ 1000) (hs : SlT skEnc 2 139 w A1 n1 sl) (_hso : ∀ x ∈ sl, SkOk x) (hn1 : n1 ≤ 1000) :
    Calls Tryz.prog 25 #[.slice A0 n0 c0, .slice A1 n1 c1] w (GotE w (stockE cs sl)) := by
  refine gw_enter ⟨52, w, none, []⟩ Tryz.func25 rfl Tryz.ntmps25 rfl (mem0 (X := [SlOld csEnc 2 135 w.heap.size none A0 n0 cs, SlOld skEnc 2 139 w.heap.size none A1 n1 sl]) (allF_cons hcs.old (allF_cons hs.old allF_nil)) (allL_cons SlOld.lasts (allL_cons SlOld.lasts allL_nil))) ?_
  refine gw_seq ?_
  refine gw_region ?_
  have hlen := hs.len
  obtain ⟨CE, hCE⟩ : ∃ E, E = classesE cs := ⟨_, rfl⟩
  refine wl_ov (ov_assign rfl) rfl ?_
  refine wl_nil ?_
  refine nx_then ?_
  refine gw_seq ?_
  refine gw_seq ?_
  refine gw_region ?_
  refine wl_ov (ov_move rfl) rfl ?_
  refine wl_callv (v := .int .i64 CE) rfl cb93 rfl rfl (fun wx hm => (by rw [hCE]; exact checkClasses_any cs A0 n0 c0 wx (hm.fact 0 rfl).1 hco (by omega))) ?_
  refine wl_ov (ov_move rfl) rfl ?_
  refine wl_ov (ov_len es51 rfl) rfl ?_
  refine wl_ov (ov_gtr rfl rfl) rfl ?_
  refine wl_callw rfl cb85 rfl rfl (fun wx hm => (when_any _ _ wx)) ?_
  refine wl_buildSlice (e := 41) (cs := [.int .i64 CE, .int .i64 (whenE (decide (30 < ((n1 : Nat) : Int))) 2)]) rfl (by kernel_rfl) rfl fun g1 => ?_
  refine wl_callw rfl cb58 rfl rfl (fun wx hm => (first_any [CE, whenE (decide (30 < ((n1 : Nat) : Int))) 2] _ _ _ wx (hm.blkI 0 rfl) (by simp))) ?_
  refine wl_ov (ov_assign rfl) rfl ?_
  refine wl_nil ?_
  refine nx_then ?_
  refine gw_seq ?_
  refine gw_region ?_
  refine wl_ov (ov_move rfl) rfl ?_
  refine wl_ov (ov_neq rfl rfl) rfl ?_
  refine wl_nil ?_
  refine nx_then ?_
  refine gw_cond rfl (fun hh => ?_) (fun hh => ?_)
  · have h1 : ¬ (firstE [CE, whenE (decide (30 < ((n1 : Nat) : Int))) 2] = 0) := by simpa using hh
    clear hh
    refine gw_seq ?_
    refine gw_region ?_
    refine wl_ov (ov_move rfl) rfl ?_
    refine wl_ov (ov_assign rfl) rfl ?_
    refine wl_nil ?_
    refine nx_then ?_
    refine gw_ret ?_
    refine nx_then_ret ?_
    refine nx_ret1 rfl rfl fun wx hm => ?_
    exact ⟨ret_int (by rw [stock_early (by rw [← hCE]; simpa [hlen] using h1), ← hCE, hlen]), hm.g⟩
  · have h1 : firstE [CE, whenE (decide (30 < ((n1 : Nat) : Int))) 2] = 0 := by simpa using hh
    clear hh
    refine gw_skip ?_
    refine nx_then ?_
    refine gw_seq ?_
    refine gw_seq ?_
    refine gw_region ?_
    have h1b : firstE [CE, whenE (decide (30 < ((n1 : Nat) : Int))) 2] = 0 := by simpa using h1
    obtain ⟨h0, h30⟩ := stock_late h1b
    have h0 : classesE cs = 0 := hCE.symm.trans h0
    have hse : stockE cs sl = scanE (skE cs) none sl := stock_scan h0 (by omega)
    refine wl_ov (ov_move rfl) rfl ?_
    refine wl_ov (ov_len es51 rfl) rfl ?_
    refine wl_ov (ov_move rfl) rfl ?_
    refine wl_nil ?_
    refine nx_then ?_
    refine gw_block ?_
    refine gw_loop (γ := Nat) (fun (k : Nat) => k ≤ n1 ∧ scanE (skE cs) none sl = scanE (skE cs) (prevOf sl k) (sl.drop k)) (fun (k : Nat) => [(0, .slice A0 n0 c0), (1, .slice A1 n1 c1), (19, .slice A1 n1 c1), (20, .int .i64 ((n1 : Nat) : Int)), (21, .int .i64 ((k : Nat) : Int))]) (fun (k : Nat) => fun _ => True) (fun (k : Nat) => [(g1, 41, [.int .i64 CE, .int .i64 (whenE (decide (30 < ((n1 : Nat) : Int))) 2)])]) (fun (k : Nat) => []) (fun (k : Nat) => [SlOld csEnc 2 135 w.heap.size none A0 n0 cs, SlOld skEnc 2 139 w.heap.size none A1 n1 sl]) (fun (k : Nat) => n1 - k) 0 ⟨Nat.zero_le _, rfl⟩ ⟨rfl, rfl, rfl, rfl, rfl, trivial⟩ (fun _ hm => hm.pick [0] [] [0, 1] rfl rfl) ?_
    intro k hinv
    replace hinv : k ≤ n1 ∧ scanE (skE cs) none sl = scanE (skE cs) (prevOf sl k) (sl.drop k) := hinv
    refine gw_seq ?_
    refine gw_region ?_
    refine wl_ov (ov_lss rfl rfl) rfl ?_
    refine wl_nil ?_
    refine nx_then ?_
    refine gw_seq ?_
    refine gw_cond rfl (fun hh => ?_) (fun hh => ?_)
    · have hk : ((k : Nat) : Int) < ((n1 : Nat) : Int) := by simpa using hh
      clear hh
      refine gw_skip ?_
      refine nx_then ?_
      refine gw_seq ?_
      refine gw_block ?_
      refine gw_seq ?_
      refine gw_region ?_
      obtain ⟨b, off, hA, _, _⟩ := hs.get (by omega)
      subst hA
      obtain ⟨x, hx⟩ : ∃ x, sl[k]? = some x := ⟨_, List.getElem?_eq_getElem (by omega)⟩
      obtain ⟨ke, mn⟩ := x
      have hat := scanE_at (skE cs) sl k _ hx
      refine wl_ov (ov_move rfl) rfl ?_
      refine wl_ov (ov_index (j := k) es51 rfl rfl (by omega)) rfl ?_
      refine wl_ov (ov_elem (vs := [.string ke, .int .i64 mn]) rz139 rfl (fun _ hm => (hm.fact 1 rfl).1) hx rfl rfl) rfl ?_
      refine wl_alloc zc139 rfl fun g2 => ?_
      refine wl_ov (ov_assign rfl) rfl ?_
      refine wl_stores (cs' := [.string ke, .int .i64 mn]) 0 rz139 rfl rfl rfl rfl rfl rfl rfl rfl ?_
      refine wl_nil ?_
      refine nx_then ?_
      refine gw_block ?_
      refine gw_seq ?_
      refine gw_region ?_
      refine wl_ov (ov_move rfl) rfl ?_
      refine wl_ov (ov_field fo139_0 rfl rfl) rfl ?_
      refine wl_ov (ov_load sc9 rfl (fun _ hm => hm.blkI 0 rfl) rfl) rfl ?_
      refine wl_callv rfl cb86 rfl rfl (fun wx hm => (hasClass_any cs A0 n0 c0 ke wx (hm.fact 0 rfl).1 hco hn0)) ?_
      refine wl_ov (ov_un_not rfl) rfl ?_
      refine wl_ov (ov_assign rfl) rfl ?_
      refine wl_nil ?_
      refine nx_then ?_
      refine gw_cond rfl (fun hh => ?_) (fun hh => ?_)
      · have h2 : (!noB cs ke) = false := by simpa using hh
        clear hh
        refine gw_seq ?_
        refine gw_region ?_
        have hb : noB cs ke = true := by simpa using h2
        refine wl_ov (ov_assign rfl) rfl ?_
        refine wl_nil ?_
        refine nx_then ?_
        refine gw_ret ?_
        refine nx_blk_ret ?_
        refine nx_blk_ret ?_
        refine nx_then_ret ?_
        refine nx_then_ret ?_
        refine nx_blk_ret ?_
        refine nx_then_ret ?_
        have hE : skE cs (prevOf sl k) ⟨ke, mn⟩ = 8 := by unfold skE; simp [hb]
        refine nx_ret1 rfl rfl fun wx hm => ?_
        exact ⟨ret_int (by rw [hse, hinv.2, hat, if_neg (by rw [hE]; decide), hE]), hm.g⟩
      · have h2 : (!noB cs ke) = true := by simpa using hh
        clear hh
        refine gw_seq ?_
        have hb : noB cs ke = false := by simpa using h2
        have hkb : keyB ke = true := no_key h0 hb
        by_cases hk0 : k = 0
        · have hO : leSk (prevOf sl k) ⟨ke, mn⟩ = false := by rw [prevOf_zero hk0]; rfl
          refine gw_draw (fun wz => Blk wz g2 139 [.string ke, .int .i64 mn] ∧ Blk wz g1 41 [.int .i64 CE, .int .i64 (whenE (decide (30 < ((n1 : Nat) : Int))) 2)] ∧ (SlOld csEnc 2 135 w.heap.size none A0 n0 cs) wz ∧ (SlOld skEnc 2 139 w.heap.size none (some ⟨b, off, none⟩) n1 sl) wz ∧ True) mixed ?_
          refine wa_take 0 rfl (by kernel_rfl) (by kernel_rfl) (by kernel_rfl) (listed' := #[true, false, false, false, false, false, false, false, false, false, false, false, false, false]) rfl (fun _ _ _ h => h) (fun _ hm => ⟨hm.blkI 0 rfl, hm.blkI 1 rfl, hm.fact 0 rfl, hm.fact 1 rfl, trivial⟩) (ov_move rfl) rfl ?_
          refine wa_take 1 rfl (by kernel_rfl) (by kernel_rfl) (by kernel_rfl) (listed' := #[true, true, false, false, false, false, false, false, false, false, false, false, false, false]) rfl (fun _ _ _ h => h) (fun _ hm => ⟨hm.blkI 0 rfl, hm.blkI 1 rfl, hm.fact 0 rfl, hm.fact 1 rfl, trivial⟩) (ov_gtr rfl rfl) rfl ?_
          refine wa_set 34 (v' := .bool false) rfl (congrArg Value.bool (decide_eq_false (by omega))) ?_
          refine wa_take 2 rfl (by kernel_rfl) (by kernel_rfl) (by kernel_rfl) (listed' := #[true, true, true, false, false, false, false, false, false, false, false, false, false, false]) rfl (fun _ _ _ h => h) (fun _ hm => ⟨hm.blkI 0 rfl, hm.blkI 1 rfl, hm.fact 0 rfl, hm.fact 1 rfl, trivial⟩) (ov_move rfl) rfl ?_
          refine wa_take_off 3 rfl rfl rfl (by decide) (by kernel_rfl) (by kernel_rfl) (by kernel_rfl) (listed' := #[true, true, true, true, false, false, false, false, false, false, false, false, false, false]) rfl (fun _ _ _ h => h) (fun _ hm => ⟨hm.blkI 0 rfl, hm.blkI 1 rfl, hm.fact 0 rfl, hm.fact 1 rfl, trivial⟩) rfl ?_
          refine wa_take_off 4 rfl rfl rfl (by decide) (by kernel_rfl) (by kernel_rfl) (by kernel_rfl) (listed' := #[true, true, true, true, true, false, false, false, false, false, false, false, false, false]) rfl (fun _ _ _ h => h) (fun _ hm => ⟨hm.blkI 0 rfl, hm.blkI 1 rfl, hm.fact 0 rfl, hm.fact 1 rfl, trivial⟩) rfl ?_
          refine wa_take_off 5 rfl rfl rfl (by decide) (by kernel_rfl) (by kernel_rfl) (by kernel_rfl) (listed' := #[true, true, true, true, true, true, false, false, false, false, false, false, false, false]) rfl (fun _ _ _ h => h) (fun _ hm => ⟨hm.blkI 0 rfl, hm.blkI 1 rfl, hm.fact 0 rfl, hm.fact 1 rfl, trivial⟩) rfl ?_
          refine wa_take_off 6 rfl rfl rfl (by decide) (by kernel_rfl) (by kernel_rfl) (by kernel_rfl) (listed' := #[true, true, true, true, true, true, true, false, false, false, false, false, false, false]) rfl (fun _ _ _ h => h) (fun _ hm => ⟨hm.blkI 0 rfl, hm.blkI 1 rfl, hm.fact 0 rfl, hm.fact 1 rfl, trivial⟩) rfl ?_
          refine wa_take_off 7 rfl rfl rfl (by decide) (by kernel_rfl) (by kernel_rfl) (by kernel_rfl) (listed' := #[true, true, true, true, true, true, true, true, false, false, false, false, false, false]) rfl (fun _ _ _ h => h) (fun _ hm => ⟨hm.blkI 0 rfl, hm.blkI 1 rfl, hm.fact 0 rfl, hm.fact 1 rfl, trivial⟩) rfl ?_
          refine wa_take_off 8 rfl rfl rfl (by decide) (by kernel_rfl) (by kernel_rfl) (by kernel_rfl) (listed' := #[true, true, true, true, true, true, true, true, true, false, false, false, false, false]) rfl (fun _ _ _ h => h) (fun _ hm => ⟨hm.blkI 0 rfl, hm.blkI 1 rfl, hm.fact 0 rfl, hm.fact 1 rfl, trivial⟩) rfl ?_
          refine wa_take_off 9 rfl rfl rfl (by decide) (by kernel_rfl) (by kernel_rfl) (by kernel_rfl) (listed' := #[true, true, true, true, true, true, true, true, true, true, false, false, false, false]) rfl (fun _ _ _ h => h) (fun _ hm => ⟨hm.blkI 0 rfl, hm.blkI 1 rfl, hm.fact 0 rfl, hm.fact 1 rfl, trivial⟩) rfl ?_
          refine wa_take_off 10 rfl rfl rfl (by decide) (by kernel_rfl) (by kernel_rfl) (by kernel_rfl) (listed' := #[true, true, true, true, true, true, true, true, true, true, true, false, false, false]) rfl (fun _ _ _ h => h) (fun _ hm => ⟨hm.blkI 0 rfl, hm.blkI 1 rfl, hm.fact 0 rfl, hm.fact 1 rfl, trivial⟩) rfl ?_
          refine wa_take_off 11 rfl rfl rfl (by decide) (by kernel_rfl) (by kernel_rfl) (by kernel_rfl) (listed' := #[true, true, true, true, true, true, true, true, true, true, true, true, false, false]) rfl (fun _ _ _ h => h) (fun _ hm => ⟨hm.blkI 0 rfl, hm.blkI 1 rfl, hm.fact 0 rfl, hm.fact 1 rfl, trivial⟩) rfl ?_
          refine wa_take 12 rfl (by kernel_rfl) (by kernel_rfl) (by kernel_rfl) (listed' := #[true, true, true, true, true, true, true, true, true, true, true, true, true, false]) rfl (fun _ _ _ h => h) (fun _ hm => ⟨hm.blkI 0 rfl, hm.blkI 1 rfl, hm.fact 0 rfl, hm.fact 1 rfl, trivial⟩) (ov_pick_f rfl rfl) rfl ?_
          refine wa_take 13 rfl (by kernel_rfl) (by kernel_rfl) (by kernel_rfl) (listed' := #[true, true, true, true, true, true, true, true, true, true, true, true, true, true]) rfl (fun _ _ _ h => h) (fun _ hm => ⟨hm.blkI 0 rfl, hm.blkI 1 rfl, hm.fact 0 rfl, hm.fact 1 rfl, trivial⟩) (ov_assign rfl) rfl ?_
          refine wa_done (by kernel_rfl) ?_
          refine nx_then ?_
          refine gw_cond rfl (fun hh => by cases hh) (fun _ => ?_)
          refine gw_seq ?_
          refine gw_region ?_
          refine wl_ov (ov_field fo139_1 rfl rfl) rfl ?_
          refine wl_ov (ov_load sc3 rfl (fun _ hm => hm.blkI 0 rfl) rfl) rfl ?_
          refine wl_callw rfl cb95 rfl rfl (fun wx hm => (in_any _ _ _ wx)) ?_
          refine wl_ov (ov_un_not rfl) rfl ?_
          refine wl_ov (ov_assign rfl) rfl ?_
          refine wl_nil ?_
          refine nx_then ?_
          refine gw_cond rfl (fun hh => ?_) (fun hh => ?_)
          · have h3 : (inB mn 0 100) = false := by simpa using hh
            clear hh
            refine gw_seq ?_
            refine gw_region ?_
            refine wl_ov (ov_assign rfl) rfl ?_
            refine wl_nil ?_
            refine nx_then ?_
            refine gw_ret ?_
            refine nx_blk_ret ?_
            refine nx_blk_ret ?_
            refine nx_then_ret ?_
            refine nx_then_ret ?_
            refine nx_blk_ret ?_
            refine nx_then_ret ?_
            have hE : skE cs (prevOf sl k) ⟨ke, mn⟩ = 1 := by unfold skE; simp [hb, hO, h3]
            refine nx_ret1 rfl rfl fun wx hm => ?_
            exact ⟨ret_int (by rw [hse, hinv.2, hat, if_neg (by rw [hE]; decide), hE]), hm.g⟩
          · have h3 : (inB mn 0 100) = true := by simpa using hh
            clear hh
            refine gw_skip ?_
            refine nx_blk_nrm ?_
            refine nx_blk_nrm ?_
            refine nx_then ?_
            refine gw_region ?_
            have hE : skE cs (prevOf sl k) ⟨ke, mn⟩ = 0 := by unfold skE; simp [hb, hO, h3]
            refine wl_ov (ov_add rfl rfl (by omega) (by omega)) rfl ?_
            refine wl_ov (ov_move rfl) rfl ?_
            refine wl_nil ?_
            exact nx_round (k + 1) ⟨by omega, by rw [hinv.2, hat, if_pos hE]⟩ (by omega) ⟨rfl, rfl, rfl, rfl, (some_int (by omega)), trivial⟩ (fun _ hm => hm.pick [1] [] [0, 1] rfl rfl)
        · obtain ⟨y, hy⟩ : ∃ x, sl[k - 1]? = some x := ⟨_, List.getElem?_eq_getElem (by omega)⟩
          obtain ⟨p0, p1⟩ := y
          refine gw_draw (fun wz => Blk wz g2 139 [.string ke, .int .i64 mn] ∧ Blk wz g1 41 [.int .i64 CE, .int .i64 (whenE (decide (30 < ((n1 : Nat) : Int))) 2)] ∧ (SlOld csEnc 2 135 w.heap.size none A0 n0 cs) wz ∧ (SlOld skEnc 2 139 w.heap.size none (some ⟨b, off, none⟩) n1 sl) wz ∧ True) mixed ?_
          refine wa_take 0 rfl (by kernel_rfl) (by kernel_rfl) (by kernel_rfl) (listed' := #[true, false, false, false, false, false, false, false, false, false, false, false, false, false]) rfl (fun _ _ _ h => h) (fun _ hm => ⟨hm.blkI 0 rfl, hm.blkI 1 rfl, hm.fact 0 rfl, hm.fact 1 rfl, trivial⟩) (ov_move rfl) rfl ?_
          refine wa_take 1 rfl (by kernel_rfl) (by kernel_rfl) (by kernel_rfl) (listed' := #[true, true, false, false, false, false, false, false, false, false, false, false, false, false]) rfl (fun _ _ _ h => h) (fun _ hm => ⟨hm.blkI 0 rfl, hm.blkI 1 rfl, hm.fact 0 rfl, hm.fact 1 rfl, trivial⟩) (ov_gtr rfl rfl) rfl ?_
          refine wa_set 34 (v' := .bool true) rfl (congrArg Value.bool (decide_eq_true (by omega))) ?_
          refine wa_take 2 rfl (by kernel_rfl) (by kernel_rfl) (by kernel_rfl) (listed' := #[true, true, true, false, false, false, false, false, false, false, false, false, false, false]) rfl (fun _ _ _ h => h) (fun _ hm => ⟨hm.blkI 0 rfl, hm.blkI 1 rfl, hm.fact 0 rfl, hm.fact 1 rfl, trivial⟩) (ov_move rfl) rfl ?_
          refine wa_take_on 3 rfl rfl rfl (by kernel_rfl) (by kernel_rfl) (by kernel_rfl) (listed' := #[true, true, true, true, false, false, false, false, false, false, false, false, false, false]) rfl (fun _ _ _ h => h) (fun _ hm => ⟨hm.blkI 0 rfl, hm.blkI 1 rfl, hm.fact 0 rfl, hm.fact 1 rfl, trivial⟩) (ov_field fo139_0 rfl rfl) rfl ?_
          refine wa_take_on 4 rfl rfl rfl (by kernel_rfl) (by kernel_rfl) (by kernel_rfl) (listed' := #[true, true, true, true, true, false, false, false, false, false, false, false, false, false]) rfl (fun _ _ _ h => h) (fun _ hm => ⟨hm.blkI 0 rfl, hm.blkI 1 rfl, hm.fact 0 rfl, hm.fact 1 rfl, trivial⟩) (ov_load sc9 rfl (fun _ hm => hm.1) rfl) rfl ?_
          refine wa_take_on 5 rfl rfl rfl (by kernel_rfl) (by kernel_rfl) (by kernel_rfl) (listed' := #[true, true, true, true, true, true, false, false, false, false, false, false, false, false]) rfl (fun _ _ _ h => h) (fun _ hm => ⟨hm.blkI 0 rfl, hm.blkI 1 rfl, hm.fact 0 rfl, hm.fact 1 rfl, trivial⟩) (ov_move rfl) rfl ?_
          refine wa_take_on 6 rfl rfl rfl (by kernel_rfl) (by kernel_rfl) (by kernel_rfl) (listed' := #[true, true, true, true, true, true, true, false, false, false, false, false, false, false]) rfl (fun _ _ _ h => h) (fun _ hm => ⟨hm.blkI 0 rfl, hm.blkI 1 rfl, hm.fact 0 rfl, hm.fact 1 rfl, trivial⟩) (ov_move rfl) rfl ?_
          refine wa_take_on 7 rfl rfl rfl (by kernel_rfl) (by kernel_rfl) (by kernel_rfl) (listed' := #[true, true, true, true, true, true, true, true, false, false, false, false, false, false]) rfl (fun _ _ _ h => h) (fun _ hm => ⟨hm.blkI 0 rfl, hm.blkI 1 rfl, hm.fact 0 rfl, hm.fact 1 rfl, trivial⟩) (ov_sub rfl rfl (by omega) (by omega)) rfl ?_
          refine wa_set 40 (v' := .int .i64 ((k - 1 : Nat) : Int)) rfl (congrArg (Value.int .i64) (by omega)) ?_
          refine wa_take_on 8 rfl rfl rfl (by kernel_rfl) (by kernel_rfl) (by kernel_rfl) (listed' := #[true, true, true, true, true, true, true, true, true, false, false, false, false, false]) rfl (fun _ _ _ h => h) (fun _ hm => ⟨hm.blkI 0 rfl, hm.blkI 1 rfl, hm.fact 0 rfl, hm.fact 1 rfl, trivial⟩) (ov_index (j := k - 1) es51 rfl rfl (by omega)) rfl ?_
          refine wa_take_on 9 rfl rfl rfl (by kernel_rfl) (by kernel_rfl) (by kernel_rfl) (listed' := #[true, true, true, true, true, true, true, true, true, true, false, false, false, false]) rfl (fun _ _ _ h => h) (fun _ hm => ⟨hm.blkI 0 rfl, hm.blkI 1 rfl, hm.fact 0 rfl, hm.fact 1 rfl, trivial⟩) (ov_field fo139_0 rfl rfl) rfl ?_
          refine wa_take_on 10 rfl rfl rfl (by kernel_rfl) (by kernel_rfl) (by kernel_rfl) (listed' := #[true, true, true, true, true, true, true, true, true, true, true, false, false, false]) rfl (fun _ _ _ h => h) (fun _ hm => ⟨hm.blkI 0 rfl, hm.blkI 1 rfl, hm.fact 0 rfl, hm.fact 1 rfl, trivial⟩) (ov_elem1 (k := 0) (v := .string p0) sc9 rfl (fun _ hm => (hm.2.2.2.1).1) hy rfl rfl) rfl ?_
          refine wa_take_on 11 rfl rfl rfl (by kernel_rfl) (by kernel_rfl) (by kernel_rfl) (listed' := #[true, true, true, true, true, true, true, true, true, true, true, true, false, false]) rfl (fun _ _ _ h => h) (fun _ hm => ⟨hm.blkI 0 rfl, hm.blkI 1 rfl, hm.fact 0 rfl, hm.fact 1 rfl, trivial⟩) (ov_sleq rfl rfl) rfl ?_
          refine wa_take 12 rfl (by kernel_rfl) (by kernel_rfl) (by kernel_rfl) (listed' := #[true, true, true, true, true, true, true, true, true, true, true, true, true, false]) rfl (fun _ _ _ h => h) (fun _ hm => ⟨hm.blkI 0 rfl, hm.blkI 1 rfl, hm.fact 0 rfl, hm.fact 1 rfl, trivial⟩) (ov_pick_t rfl rfl) rfl ?_
          refine wa_take 13 rfl (by kernel_rfl) (by kernel_rfl) (by kernel_rfl) (listed' := #[true, true, true, true, true, true, true, true, true, true, true, true, true, true]) rfl (fun _ _ _ h => h) (fun _ hm => ⟨hm.blkI 0 rfl, hm.blkI 1 rfl, hm.fact 0 rfl, hm.fact 1 rfl, trivial⟩) (ov_assign rfl) rfl ?_
          refine wa_done (by kernel_rfl) ?_
          refine nx_then ?_
          refine gw_cond rfl (fun hh => ?_) (fun hh => ?_)
          · have h9 : (Op.bytesLess ke.toList p0.toList || ke.toList == p0.toList) = true := by simpa using hh
            clear hh
            refine gw_seq ?_
            refine gw_region ?_
            have hO : leSk (prevOf sl k) ⟨ke, mn⟩ = true := by rw [prevOf_pos hk0 hy]; exact h9
            refine wl_ov (ov_assign rfl) rfl ?_
            refine wl_nil ?_
            refine nx_then ?_
            refine gw_ret ?_
            refine nx_blk_ret ?_
            refine nx_blk_ret ?_
            refine nx_then_ret ?_
            refine nx_then_ret ?_
            refine nx_blk_ret ?_
            refine nx_then_ret ?_
            have hE : skE cs (prevOf sl k) ⟨ke, mn⟩ = 7 := by unfold skE; simp [hb, hO]
            refine nx_ret1 rfl rfl fun wx hm => ?_
            exact ⟨ret_int (by rw [hse, hinv.2, hat, if_neg (by rw [hE]; decide), hE]), hm.g⟩
          · have h9 : (Op.bytesLess ke.toList p0.toList || ke.toList == p0.toList) = false := by simpa using hh
            clear hh
            refine gw_seq ?_
            refine gw_region ?_
            have hO : leSk (prevOf sl k) ⟨ke, mn⟩ = false := by rw [prevOf_pos hk0 hy]; exact h9
            refine wl_ov (ov_field fo139_1 rfl rfl) rfl ?_
            refine wl_ov (ov_load sc3 rfl (fun _ hm => hm.blkI 0 rfl) rfl) rfl ?_
            refine wl_callw rfl cb95 rfl rfl (fun wx hm => (in_any _ _ _ wx)) ?_
            refine wl_ov (ov_un_not rfl) rfl ?_
            refine wl_ov (ov_assign rfl) rfl ?_
            refine wl_nil ?_
            refine nx_then ?_
            refine gw_cond rfl (fun hh => ?_) (fun hh => ?_)
            · have h3 : (inB mn 0 100) = false := by simpa using hh
              clear hh
              refine gw_seq ?_
              refine gw_region ?_
              refine wl_ov (ov_assign rfl) rfl ?_
              refine wl_nil ?_
              refine nx_then ?_
              refine gw_ret ?_
              refine nx_blk_ret ?_
              refine nx_blk_ret ?_
              refine nx_then_ret ?_
              refine nx_then_ret ?_
              refine nx_blk_ret ?_
              refine nx_then_ret ?_
              have hE : skE cs (prevOf sl k) ⟨ke, mn⟩ = 1 := by unfold skE; simp [hb, hO, h3]
              refine nx_ret1 rfl rfl fun wx hm => ?_
              exact ⟨ret_int (by rw [hse, hinv.2, hat, if_neg (by rw [hE]; decide), hE]), hm.g⟩
            · have h3 : (inB mn 0 100) = true := by simpa using hh
              clear hh
              refine gw_skip ?_
              refine nx_blk_nrm ?_
              refine nx_blk_nrm ?_
              refine nx_then ?_
              refine gw_region ?_
              have hE : skE cs (prevOf sl k) ⟨ke, mn⟩ = 0 := by unfold skE; simp [hb, hO, h3]
              refine wl_ov (ov_add rfl rfl (by omega) (by omega)) rfl ?_
              refine wl_ov (ov_move rfl) rfl ?_
              refine wl_nil ?_
              exact nx_round (k + 1) ⟨by omega, by rw [hinv.2, hat, if_pos hE]⟩ (by omega) ⟨rfl, rfl, rfl, rfl, (some_int (by omega)), trivial⟩ (fun _ hm => hm.pick [1] [] [0, 1] rfl rfl)
    · have hk : ¬ (((k : Nat) : Int) < ((n1 : Nat) : Int)) := by simpa using hh
      clear hh
      refine gw_exit ?_
      refine nx_then_exit ?_
      refine nx_then_exit ?_
      refine nx_blk_here ?_
      refine nx_then ?_
      refine gw_seq ?_
      refine gw_region ?_
      refine wl_ov (ov_assign rfl) rfl ?_
      refine wl_nil ?_
      refine nx_then ?_
      refine gw_ret ?_
      refine nx_ret1 rfl rfl fun wx hm => ?_
      exact ⟨ret_int (by rw [hse, hinv.2, scanE_end _ _ _ _ (by omega)]), hm.g⟩

set_option maxRecDepth 100000 in
set_option maxHeartbeats 1000000 in
theorem stockFault_any (cs : List Cs) (A0 : Option Addr) (n0 c0 : Nat) (sl : List Sk) (A1 : Option Addr) (n1 c1 : Nat) (w : World) (hcs : SlT csEnc 2 135 w A0 n0 cs) (hco : ∀ x ∈ cs, CsOk x) (hn0 : n0 ≤ 1000) (hs : SlT skEnc 2 139 w A1 n1 sl) (_hso : ∀ x ∈ sl, SkOk x) (hn1 : n1 ≤ 1000) :
    Calls Tryz.prog 80 #[.slice A0 n0 c0, .slice A1 n1 c1] w (GotE w (stockE cs sl)) := by
  refine gw_enter ⟨42, w, none, []⟩ Tryz.func80 rfl Tryz.ntmps80 rfl (mem0 (X := [SlOld csEnc 2 135 w.heap.size none A0 n0 cs, SlOld skEnc 2 139 w.heap.size none A1 n1 sl]) (allF_cons hcs.old (allF_cons hs.old allF_nil)) (allL_cons SlOld.lasts (allL_cons SlOld.lasts allL_nil))) ?_
  refine gw_seq ?_
  refine gw_region ?_
  have hlen := hs.len
  obtain ⟨CE, hCE⟩ : ∃ E, E = classesE cs := ⟨_, rfl⟩
  refine wl_ov (ov_assign rfl) rfl ?_
  refine wl_nil ?_
  refine nx_then ?_
  refine gw_seq ?_
  refine gw_seq ?_
  refine gw_region ?_
  refine wl_ov (ov_move rfl) rfl ?_
  refine wl_callv (v := .int .i64 CE) rfl cb107 rfl rfl (fun wx hm => (by rw [hCE]; exact classesFault_any cs A0 n0 c0 wx (hm.fact 0 rfl).1 hco (by omega))) ?_
  refine wl_ov (ov_assign rfl) rfl ?_
  refine wl_nil ?_
  refine nx_then ?_
  refine gw_seq ?_
  refine gw_region ?_
  refine wl_ov (ov_move rfl) rfl ?_
  refine wl_ov (ov_neq rfl rfl) rfl ?_
  refine wl_nil ?_
  refine nx_then ?_
  refine gw_cond rfl (fun hh => ?_) (fun hh => ?_)
  · have h1 : ¬ (CE = 0) := by simpa using hh
    clear hh
    refine gw_seq ?_
    refine gw_region ?_
    refine wl_ov (ov_move rfl) rfl ?_
    refine wl_ov (ov_assign rfl) rfl ?_
    refine wl_nil ?_
    refine nx_then ?_
    refine gw_ret ?_
    refine nx_then_ret ?_
    refine nx_ret1 rfl rfl fun wx hm => ?_
    exact ⟨ret_int (by rw [stock_cls (by rw [← hCE]; simpa using h1), ← hCE]), hm.g⟩
  · have h1 : CE = 0 := by simpa using hh
    clear hh
    refine gw_skip ?_
    refine nx_then ?_
    refine gw_seq ?_
    refine gw_seq ?_
    refine gw_region ?_
    have h0 : classesE cs = 0 := hCE.symm.trans (by simpa using h1)
    refine wl_ov (ov_move rfl) rfl ?_
    refine wl_ov (ov_len es51 rfl) rfl ?_
    refine wl_ov (ov_gtr rfl rfl) rfl ?_
    refine wl_nil ?_
    refine nx_then ?_
    refine gw_cond rfl (fun hh => ?_) (fun hh => ?_)
    · have h30 : 30 < ((n1 : Nat) : Int) := by simpa using hh
      clear hh
      refine gw_seq ?_
      refine gw_region ?_
      refine wl_ov (ov_assign rfl) rfl ?_
      refine wl_nil ?_
      refine nx_then ?_
      refine gw_ret ?_
      refine nx_then_ret ?_
      refine nx_ret1 rfl rfl fun wx hm => ?_
      exact ⟨ret_int (by rw [stock_large h0 (by omega)]), hm.g⟩
    · have h30 : ¬ (30 < ((n1 : Nat) : Int)) := by simpa using hh
      clear hh
      refine gw_skip ?_
      refine nx_then ?_
      refine gw_seq ?_
      refine gw_region ?_
      have hse : stockE cs sl = scanE (skE cs) none sl := stock_scan h0 (by omega)
      refine wl_ov (ov_assign rfl) rfl ?_
      refine wl_nil ?_
      refine nx_then ?_
      refine gw_seq ?_
      refine gw_seq ?_
      refine gw_region ?_
      refine wl_ov (ov_move rfl) rfl ?_
      refine wl_ov (ov_len es51 rfl) rfl ?_
      refine wl_ov (ov_move rfl) rfl ?_
      refine wl_nil ?_
      refine nx_then ?_
      refine gw_block ?_
      refine gw_loop (γ := Nat) (fun (k : Nat) => k ≤ n1 ∧ scanE (skE cs) none sl = scanE (skE cs) (prevOf sl k) (sl.drop k)) (fun (k : Nat) => [(0, .slice A0 n0 c0), (6, .string (prevSk sl k)), (17, .slice A1 n1 c1), (18, .int .i64 ((n1 : Nat) : Int)), (19, .int .i64 ((k : Nat) : Int))]) (fun (k : Nat) => fun _ => True) (fun (k : Nat) => []) (fun (k : Nat) => []) (fun (k : Nat) => [SlOld csEnc 2 135 w.heap.size none A0 n0 cs, SlOld skEnc 2 139 w.heap.size none A1 n1 sl]) (fun (k : Nat) => n1 - k) 0 ⟨Nat.zero_le _, rfl⟩ ⟨rfl, rfl, rfl, rfl, rfl, trivial⟩ (fun _ hm => hm.pick [] [] [0, 1] rfl rfl) ?_
      intro k hinv
      replace hinv : k ≤ n1 ∧ scanE (skE cs) none sl = scanE (skE cs) (prevOf sl k) (sl.drop k) := hinv
      refine gw_seq ?_
      refine gw_region ?_
      refine wl_ov (ov_lss rfl rfl) rfl ?_
      refine wl_nil ?_
      refine nx_then ?_
      refine gw_seq ?_
      refine gw_cond rfl (fun hh => ?_) (fun hh => ?_)
      · have hk : ((k : Nat) : Int) < ((n1 : Nat) : Int) := by simpa using hh
        clear hh
        refine gw_skip ?_
        refine nx_then ?_
        refine gw_seq ?_
        refine gw_block ?_
        refine gw_seq ?_
        refine gw_region ?_
        obtain ⟨b, off, hA, _, _⟩ := hs.get (by omega)
        subst hA
        obtain ⟨x, hx⟩ : ∃ x, sl[k]? = some x := ⟨_, List.getElem?_eq_getElem (by omega)⟩
        obtain ⟨ke, mn⟩ := x
        have hat := scanE_at (skE cs) sl k _ hx
        refine wl_ov (ov_index (j := k) es51 rfl rfl (by omega)) rfl ?_
        refine wl_ov (ov_elem (vs := [.string ke, .int .i64 mn]) rz139 rfl (fun _ hm => (hm.fact 1 rfl).1) hx rfl rfl) rfl ?_
        refine wl_alloc zc139 rfl fun g1 => ?_
        refine wl_stores (cs' := [.string ke, .int .i64 mn]) 0 rz139 rfl rfl rfl rfl rfl rfl rfl rfl ?_
        refine wl_nil ?_
        refine nx_then ?_
        refine gw_seq ?_
        refine gw_block ?_
        refine gw_seq ?_
        refine gw_region ?_
        refine wl_ov (ov_move rfl) rfl ?_
        refine wl_ov (ov_field fo139_0 rfl rfl) rfl ?_
        refine wl_ov (ov_load sc9 rfl (fun _ hm => hm.blkI 0 rfl) rfl) rfl ?_
        refine wl_callv rfl cb21 rfl rfl (fun wx hm => (rClassAt_any cs A0 n0 c0 ke wx (hm.fact 0 rfl).1 (by omega))) ?_
        refine wl_ov (ov_lss rfl rfl) rfl ?_
        refine wl_ov (ov_assign rfl) rfl ?_
        refine wl_nil ?_
        refine nx_then ?_
        refine gw_cond rfl (fun hh => ?_) (fun hh => ?_)
        · have h2 : ixP (csP ke) cs 0 < 0 := by simpa using hh
          clear hh
          refine gw_seq ?_
          refine gw_region ?_
          have hb : noB cs ke = true := by unfold noB; exact decide_eq_true h2
          refine wl_ov (ov_assign rfl) rfl ?_
          refine wl_nil ?_
          refine nx_then ?_
          refine gw_ret ?_
          refine nx_blk_ret ?_
          refine nx_then_ret ?_
          refine nx_blk_ret ?_
          refine nx_then_ret ?_
          refine nx_then_ret ?_
          refine nx_blk_ret ?_
          refine nx_then_ret ?_
          have hE : skE cs (prevOf sl k) ⟨ke, mn⟩ = 8 := by unfold skE; simp [hb]
          refine nx_ret1 rfl rfl fun wx hm => ?_
          exact ⟨ret_int (by rw [hse, hinv.2, hat, if_neg (by rw [hE]; decide), hE]), hm.g⟩
        · have h2 : ¬ (ixP (csP ke) cs 0 < 0) := by simpa using hh
          clear hh
          refine gw_seq ?_
          refine gw_region ?_
          have hb : noB cs ke = false := by unfold noB; exact decide_eq_false h2
          have hkb : keyB ke = true := no_key h0 hb
          refine wl_ov (ov_field fo139_0 rfl rfl) rfl ?_
          refine wl_ov (ov_load sc9 rfl (fun _ hm => hm.blkI 0 rfl) rfl) rfl ?_
          refine wl_ov (ov_move rfl) rfl ?_
          refine wl_ov (ov_sleq rfl rfl) rfl ?_
          refine wl_ov (ov_assign rfl) rfl ?_
          refine wl_nil ?_
          refine nx_then ?_
          refine gw_cond rfl (fun hh => ?_) (fun hh => ?_)
          · have h9 : (Op.bytesLess ke.toList (prevSk sl k).toList || ke.toList == (prevSk sl k).toList) = true := by simpa using hh
            clear hh
            refine gw_seq ?_
            refine gw_region ?_
            have hO : leSk (prevOf sl k) ⟨ke, mn⟩ = true := (prevSk_le (b := ⟨ke, mn⟩) hkb).symm.trans h9
            refine wl_ov (ov_assign rfl) rfl ?_
            refine wl_nil ?_
            refine nx_then ?_
            refine gw_ret ?_
            refine nx_blk_ret ?_
            refine nx_then_ret ?_
            refine nx_blk_ret ?_
            refine nx_then_ret ?_
            refine nx_then_ret ?_
            refine nx_blk_ret ?_
            refine nx_then_ret ?_
            have hE : skE cs (prevOf sl k) ⟨ke, mn⟩ = 7 := by unfold skE; simp [hb, hO]
            refine nx_ret1 rfl rfl fun wx hm => ?_
            exact ⟨ret_int (by rw [hse, hinv.2, hat, if_neg (by rw [hE]; decide), hE]), hm.g⟩
          · have h9 : (Op.bytesLess ke.toList (prevSk sl k).toList || ke.toList == (prevSk sl k).toList) = false := by simpa using hh
            clear hh
            refine gw_seq ?_
            refine gw_region ?_
            have hO : leSk (prevOf sl k) ⟨ke, mn⟩ = false := (prevSk_le (b := ⟨ke, mn⟩) hkb).symm.trans h9
            refine wl_ov (ov_field fo139_1 rfl rfl) rfl ?_
            refine wl_ov (ov_load sc3 rfl (fun _ hm => hm.blkI 0 rfl) rfl) rfl ?_
            refine wl_callw rfl cb97 rfl rfl (fun wx hm => (rin_any _ _ _ wx)) ?_
            refine wl_ov (ov_un_not rfl) rfl ?_
            refine wl_ov (ov_assign rfl) rfl ?_
            refine wl_nil ?_
            refine nx_then ?_
            refine gw_cond rfl (fun hh => ?_) (fun hh => ?_)
            · have h3 : (inB mn 0 100) = false := by simpa using hh
              clear hh
              refine gw_seq ?_
              refine gw_region ?_
              refine wl_ov (ov_assign rfl) rfl ?_
              refine wl_nil ?_
              refine nx_then ?_
              refine gw_ret ?_
              refine nx_blk_ret ?_
              refine nx_then_ret ?_
              refine nx_blk_ret ?_
              refine nx_then_ret ?_
              refine nx_then_ret ?_
              refine nx_blk_ret ?_
              refine nx_then_ret ?_
              have hE : skE cs (prevOf sl k) ⟨ke, mn⟩ = 1 := by unfold skE; simp [hb, hO, h3]
              refine nx_ret1 rfl rfl fun wx hm => ?_
              exact ⟨ret_int (by rw [hse, hinv.2, hat, if_neg (by rw [hE]; decide), hE]), hm.g⟩
            · have h3 : (inB mn 0 100) = true := by simpa using hh
              clear hh
              refine gw_skip ?_
              refine nx_blk_nrm ?_
              refine nx_then ?_
              refine gw_region ?_
              have hE : skE cs (prevOf sl k) ⟨ke, mn⟩ = 0 := by unfold skE; simp [hb, hO, h3]
              refine wl_ov (ov_field fo139_0 rfl rfl) rfl ?_
              refine wl_ov (ov_load sc9 rfl (fun _ hm => hm.blkI 0 rfl) rfl) rfl ?_
              refine wl_ov (ov_assign rfl) rfl ?_
              refine wl_nil ?_
              refine nx_blk_nrm ?_
              refine nx_then ?_
              refine gw_region ?_
              refine wl_ov (ov_add rfl rfl (by omega) (by omega)) rfl ?_
              refine wl_ov (ov_move rfl) rfl ?_
              refine wl_nil ?_
              exact nx_round (k + 1) ⟨by omega, by rw [hinv.2, hat, if_pos hE]⟩ (by omega) ⟨rfl, (congrArg (fun z => some (Value.string z)) (prevSk_succ hx).symm), rfl, rfl, (some_int (by omega)), trivial⟩ (fun _ hm => hm.pick [] [] [0, 1] rfl rfl)
      · have hk : ¬ (((k : Nat) : Int) < ((n1 : Nat) : Int)) := by simpa using hh
        clear hh
        refine gw_exit ?_
        refine nx_then_exit ?_
        refine nx_then_exit ?_
        refine nx_blk_here ?_
        refine nx_then ?_
        refine gw_seq ?_
        refine gw_region ?_
        refine wl_ov (ov_assign rfl) rfl ?_
        refine wl_nil ?_
        refine nx_then ?_
        refine gw_ret ?_
        refine nx_ret1 rfl rfl fun wx hm => ?_
        exact ⟨ret_int (by rw [hse, hinv.2, scanE_end _ _ _ _ (by omega)]), hm.g⟩

set_option maxRecDepth 100000 in
set_option maxHeartbeats 400000 in
theorem checkAll_any (cs : List Cs) (A0 : Option Addr) (n0 c0 : Nat) (sl : List Sk) (A1 : Option Addr) (n1 c1 : Nat) (l : List Bk) (A : Option Addr) (n c : Nat) (w : World) (hcs : SlT csEnc 2 135 w A0 n0 cs) (hco : ∀ x ∈ cs, CsOk x) (hn0 : n0 ≤ 1000) (hs : SlT skEnc 2 139 w A1 n1 sl) (hso : ∀ x ∈ sl, SkOk x) (hn1 : n1 ≤ 1000) (hl : SlT bkEnc 6 142 w A n l) (hok : ∀ x ∈ l, BkOk x) (hn : n ≤ 1000) :
    Calls Tryz.prog 89 #[.slice A0 n0 c0, .slice A1 n1 c1, .slice A n c] w (GotE w (firstE [stockE cs sl, checkE cs l])) := by
  refine gw_enter ⟨15, w, none, []⟩ Tryz.func89 rfl Tryz.ntmps89 rfl (mem0 (X := [SlOld csEnc 2 135 w.heap.size none A0 n0 cs, SlOld skEnc 2 139 w.heap.size none A1 n1 sl, SlOld bkEnc 6 142 w.heap.size none A n l]) (allF_cons hcs.old (allF_cons hs.old (allF_cons hl.old allF_nil))) (allL_cons SlOld.lasts (allL_cons SlOld.lasts (allL_cons SlOld.lasts allL_nil)))) ?_
  refine gw_seq ?_
  refine gw_region ?_
  obtain ⟨SE, hSE⟩ : ∃ E, E = stockE cs sl := ⟨_, rfl⟩
  obtain ⟨KE, hKE⟩ : ∃ E, E = checkE cs l := ⟨_, rfl⟩
  refine wl_ov (ov_assign rfl) rfl ?_
  refine wl_nil ?_
  refine nx_then ?_
  refine gw_seq ?_
  refine gw_region ?_
  refine wl_ov (ov_move rfl) rfl ?_
  refine wl_ov (ov_move rfl) rfl ?_
  refine wl_callv (v := .int .i64 SE) rfl cb25 rfl rfl (fun wx hm => (by rw [hSE]; exact checkStock_any cs A0 n0 c0 sl A1 n1 c1 wx (hm.fact 0 rfl).1 hco hn0 (hm.fact 1 rfl).1 hso hn1)) ?_
  refine wl_ov (ov_move rfl) rfl ?_
  refine wl_ov (ov_move rfl) rfl ?_
  refine wl_callv (v := .int .i64 KE) rfl cb24 rfl rfl (fun wx hm => (by rw [hKE]; exact bcheck_any cs A0 n0 c0 l A n c wx (hm.fact 0 rfl).1 hco hn0 (hm.fact 2 rfl).1 hok hn)) ?_
  refine wl_buildSlice (e := 41) (cs := [.int .i64 SE, .int .i64 KE]) rfl (by kernel_rfl) rfl fun g1 => ?_
  refine wl_callw rfl cb58 rfl rfl (fun wx hm => (first_any [SE, KE] _ _ _ wx (hm.blkI 0 rfl) (by simp))) ?_
  refine wl_ov (ov_assign rfl) rfl ?_
  refine wl_nil ?_
  refine nx_then ?_
  refine gw_ret ?_
  refine nx_ret1 rfl rfl fun wx hm => ?_
  exact ⟨ret_int (by rw [hSE, hKE]), hm.g⟩

set_option maxRecDepth 100000 in
set_option maxHeartbeats 400000 in
theorem many_any (sl : List Sk) (A1 : Option Addr) (n1 c1 : Nat) (k : ByteArray) (w : World) (hs : SlT skEnc 2 139 w A1 n1 sl) (_hso : ∀ x ∈ sl, SkOk x) (hn1 : n1 ≤ 1000) :
    Calls Tryz.prog 90 #[.slice A1 n1 c1, .string k] w (GotE w (manyV sl k)) := by
  refine gw_enter ⟨20, w, none, []⟩ Tryz.func90 rfl Tryz.ntmps90 rfl (mem0 (X := [SlOld skEnc 2 139 w.heap.size none A1 n1 sl]) (allF_cons hs.old allF_nil) (allL_cons SlOld.lasts allL_nil)) ?_
  refine gw_seq ?_
  refine gw_region ?_
  have hlen := hs.len
  refine wl_ov (ov_assign rfl) rfl ?_
  refine wl_nil ?_
  refine nx_then ?_
  refine gw_seq ?_
  refine gw_seq ?_
  refine gw_region ?_
  refine wl_ov (ov_move rfl) rfl ?_
  refine wl_ov (ov_len es51 rfl) rfl ?_
  refine wl_ov (ov_move rfl) rfl ?_
  refine wl_nil ?_
  refine nx_then ?_
  refine gw_block ?_
  refine gw_loop (γ := Nat) (fun (i : Nat) => i ≤ n1 ∧ manyV sl k = manyV (sl.drop i) k) (fun (i : Nat) => [(1, .string k), (7, .slice A1 n1 c1), (8, .int .i64 ((n1 : Nat) : Int)), (9, .int .i64 ((i : Nat) : Int))]) (fun (i : Nat) => fun _ => True) (fun (i : Nat) => []) (fun (i : Nat) => []) (fun (i : Nat) => [SlOld skEnc 2 139 w.heap.size none A1 n1 sl]) (fun (i : Nat) => n1 - i) 0 ⟨Nat.zero_le _, rfl⟩ ⟨rfl, rfl, rfl, rfl, trivial⟩ (fun _ hm => hm.pick [] [] [0] rfl rfl) ?_
  intro i hinv
  replace hinv : i ≤ n1 ∧ manyV sl k = manyV (sl.drop i) k := hinv
  refine gw_seq ?_
  refine gw_region ?_
  refine wl_ov (ov_lss rfl rfl) rfl ?_
  refine wl_nil ?_
  refine nx_then ?_
  refine gw_seq ?_
  refine gw_cond rfl (fun hh => ?_) (fun hh => ?_)
  · have hi : ((i : Nat) : Int) < ((n1 : Nat) : Int) := by simpa using hh
    clear hh
    refine gw_skip ?_
    refine nx_then ?_
    refine gw_seq ?_
    refine gw_block ?_
    refine gw_seq ?_
    refine gw_region ?_
    obtain ⟨b, off, hA, _, _⟩ := hs.get (by omega)
    subst hA
    obtain ⟨x, hx⟩ : ∃ x, sl[i]? = some x := ⟨_, List.getElem?_eq_getElem (by omega)⟩
    obtain ⟨ke, mn⟩ := x
    have hat := manyV_at (k := k) hx
    refine wl_ov (ov_index (j := i) es51 rfl rfl (by omega)) rfl ?_
    refine wl_ov (ov_elem (vs := [.string ke, .int .i64 mn]) rz139 rfl (fun _ hm => (hm.fact 0 rfl).1) hx rfl rfl) rfl ?_
    refine wl_alloc zc139 rfl fun g1 => ?_
    refine wl_stores (cs' := [.string ke, .int .i64 mn]) 0 rz139 rfl rfl rfl rfl rfl rfl rfl rfl ?_
    refine wl_nil ?_
    refine nx_then ?_
    refine gw_seq ?_
    refine gw_region ?_
    refine wl_ov (ov_field fo139_0 rfl rfl) rfl ?_
    refine wl_ov (ov_load sc9 rfl (fun _ hm => hm.blkI 0 rfl) rfl) rfl ?_
    refine wl_ov (ov_move rfl) rfl ?_
    refine wl_ov (ov_seql rfl rfl) rfl ?_
    refine wl_nil ?_
    refine nx_then ?_
    refine gw_cond rfl (fun hh => ?_) (fun hh => ?_)
    · have hq : (ke.toList == k.toList) = true := by simpa using hh
      clear hh
      refine gw_seq ?_
      refine gw_region ?_
      refine wl_ov (ov_field fo139_1 rfl rfl) rfl ?_
      refine wl_ov (ov_load sc3 rfl (fun _ hm => hm.blkI 0 rfl) rfl) rfl ?_
      refine wl_ov (ov_assign rfl) rfl ?_
      refine wl_nil ?_
      refine nx_then ?_
      refine gw_ret ?_
      refine nx_blk_ret ?_
      refine nx_then_ret ?_
      refine nx_then_ret ?_
      refine nx_blk_ret ?_
      refine nx_then_ret ?_
      refine nx_ret1 rfl rfl fun wx hm => ?_
      exact ⟨ret_int (by rw [hinv.2, hat, if_pos hq]), hm.g⟩
    · have hq : (ke.toList == k.toList) = false := by simpa using hh
      clear hh
      refine gw_skip ?_
      refine nx_blk_nrm ?_
      refine nx_then ?_
      refine gw_region ?_
      refine wl_ov (ov_add rfl rfl (by omega) (by omega)) rfl ?_
      refine wl_ov (ov_move rfl) rfl ?_
      refine wl_nil ?_
      exact nx_round (i + 1) ⟨by omega, by rw [hinv.2, hat, if_neg (by rw [hq]; decide)]⟩ (by omega) ⟨rfl, rfl, rfl, (some_int (by omega)), trivial⟩ (fun _ hm => hm.pick [] [] [0] rfl rfl)
  · have hi : ¬ (((i : Nat) : Int) < ((n1 : Nat) : Int)) := by simpa using hh
    clear hh
    refine gw_exit ?_
    refine nx_then_exit ?_
    refine nx_then_exit ?_
    refine nx_blk_here ?_
    refine nx_then ?_
    refine gw_seq ?_
    refine gw_region ?_
    refine wl_ov (ov_assign rfl) rfl ?_
    refine wl_nil ?_
    refine nx_then ?_
    refine gw_ret ?_
    refine nx_ret1 rfl rfl fun wx hm => ?_
    exact ⟨ret_int (by rw [hinv.2, manyV_end (by omega)]), hm.g⟩

set_option maxRecDepth 100000 in
set_option maxHeartbeats 400000 in
theorem manyOf_any (sl : List Sk) (A1 : Option Addr) (n1 c1 : Nat) (k : ByteArray) (w : World) (hs : SlT skEnc 2 139 w A1 n1 sl) (_hso : ∀ x ∈ sl, SkOk x) (hn1 : n1 ≤ 1000) :
    Calls Tryz.prog 98 #[.slice A1 n1 c1, .string k] w (GotE w (manyV sl k)) := by
  refine gw_enter ⟨20, w, none, []⟩ Tryz.func98 rfl Tryz.ntmps98 rfl (mem0 (X := [SlOld skEnc 2 139 w.heap.size none A1 n1 sl]) (allF_cons hs.old allF_nil) (allL_cons SlOld.lasts allL_nil)) ?_
  refine gw_seq ?_
  refine gw_region ?_
  have hlen := hs.len
  refine wl_ov (ov_assign rfl) rfl ?_
  refine wl_nil ?_
  refine nx_then ?_
  refine gw_seq ?_
  refine gw_seq ?_
  refine gw_region ?_
  refine wl_ov (ov_move rfl) rfl ?_
  refine wl_ov (ov_len es51 rfl) rfl ?_
  refine wl_ov (ov_move rfl) rfl ?_
  refine wl_nil ?_
  refine nx_then ?_
  refine gw_block ?_
  refine gw_loop (γ := Nat) (fun (i : Nat) => i ≤ n1 ∧ manyV sl k = manyV (sl.drop i) k) (fun (i : Nat) => [(1, .string k), (7, .slice A1 n1 c1), (8, .int .i64 ((n1 : Nat) : Int)), (9, .int .i64 ((i : Nat) : Int))]) (fun (i : Nat) => fun _ => True) (fun (i : Nat) => []) (fun (i : Nat) => []) (fun (i : Nat) => [SlOld skEnc 2 139 w.heap.size none A1 n1 sl]) (fun (i : Nat) => n1 - i) 0 ⟨Nat.zero_le _, rfl⟩ ⟨rfl, rfl, rfl, rfl, trivial⟩ (fun _ hm => hm.pick [] [] [0] rfl rfl) ?_
  intro i hinv
  replace hinv : i ≤ n1 ∧ manyV sl k = manyV (sl.drop i) k := hinv
  refine gw_seq ?_
  refine gw_region ?_
  refine wl_ov (ov_lss rfl rfl) rfl ?_
  refine wl_nil ?_
  refine nx_then ?_
  refine gw_seq ?_
  refine gw_cond rfl (fun hh => ?_) (fun hh => ?_)
  · have hi : ((i : Nat) : Int) < ((n1 : Nat) : Int) := by simpa using hh
    clear hh
    refine gw_skip ?_
    refine nx_then ?_
    refine gw_seq ?_
    refine gw_block ?_
    refine gw_seq ?_
    refine gw_region ?_
    obtain ⟨b, off, hA, _, _⟩ := hs.get (by omega)
    subst hA
    obtain ⟨x, hx⟩ : ∃ x, sl[i]? = some x := ⟨_, List.getElem?_eq_getElem (by omega)⟩
    obtain ⟨ke, mn⟩ := x
    have hat := manyV_at (k := k) hx
    refine wl_ov (ov_index (j := i) es51 rfl rfl (by omega)) rfl ?_
    refine wl_ov (ov_elem (vs := [.string ke, .int .i64 mn]) rz139 rfl (fun _ hm => (hm.fact 0 rfl).1) hx rfl rfl) rfl ?_
    refine wl_alloc zc139 rfl fun g1 => ?_
    refine wl_stores (cs' := [.string ke, .int .i64 mn]) 0 rz139 rfl rfl rfl rfl rfl rfl rfl rfl ?_
    refine wl_nil ?_
    refine nx_then ?_
    refine gw_seq ?_
    refine gw_region ?_
    refine wl_ov (ov_field fo139_0 rfl rfl) rfl ?_
    refine wl_ov (ov_load sc9 rfl (fun _ hm => hm.blkI 0 rfl) rfl) rfl ?_
    refine wl_ov (ov_move rfl) rfl ?_
    refine wl_ov (ov_seql rfl rfl) rfl ?_
    refine wl_nil ?_
    refine nx_then ?_
    refine gw_cond rfl (fun hh => ?_) (fun hh => ?_)
    · have hq : (ke.toList == k.toList) = true := by simpa using hh
      clear hh
      refine gw_seq ?_
      refine gw_region ?_
      refine wl_ov (ov_field fo139_1 rfl rfl) rfl ?_
      refine wl_ov (ov_load sc3 rfl (fun _ hm => hm.blkI 0 rfl) rfl) rfl ?_
      refine wl_ov (ov_assign rfl) rfl ?_
      refine wl_nil ?_
      refine nx_then ?_
      refine gw_ret ?_
      refine nx_blk_ret ?_
      refine nx_then_ret ?_
      refine nx_then_ret ?_
      refine nx_blk_ret ?_
      refine nx_then_ret ?_
      refine nx_ret1 rfl rfl fun wx hm => ?_
      exact ⟨ret_int (by rw [hinv.2, hat, if_pos hq]), hm.g⟩
    · have hq : (ke.toList == k.toList) = false := by simpa using hh
      clear hh
      refine gw_skip ?_
      refine nx_blk_nrm ?_
      refine nx_then ?_
      refine gw_region ?_
      refine wl_ov (ov_add rfl rfl (by omega) (by omega)) rfl ?_
      refine wl_ov (ov_move rfl) rfl ?_
      refine wl_nil ?_
      exact nx_round (i + 1) ⟨by omega, by rw [hinv.2, hat, if_neg (by rw [hq]; decide)]⟩ (by omega) ⟨rfl, rfl, rfl, (some_int (by omega)), trivial⟩ (fun _ hm => hm.pick [] [] [0] rfl rfl)
  · have hi : ¬ (((i : Nat) : Int) < ((n1 : Nat) : Int)) := by simpa using hh
    clear hh
    refine gw_exit ?_
    refine nx_then_exit ?_
    refine nx_then_exit ?_
    refine nx_blk_here ?_
    refine nx_then ?_
    refine gw_seq ?_
    refine gw_region ?_
    refine wl_ov (ov_assign rfl) rfl ?_
    refine wl_nil ?_
    refine nx_then ?_
    refine gw_ret ?_
    refine nx_ret1 rfl rfl fun wx hm => ?_
    exact ⟨ret_int (by rw [hinv.2, manyV_end (by omega)]), hm.g⟩

end Go.Proofs.YtcggbojhalbkjaaGreatDoor
