/- Several texts as one: Bw Ta Gi Srt Gq Gck Sl Sk Stc Bt Gu Bwa Bv Sp Bd Bx Bwb Asp Asq Asr Ast Asu -/
import Derived.Test.YtempjmpfdniecaaGreatDoorN7b
import Derived.Test.YtempjmpfdniecaaGreatDoorN7a
import Derived.OneCell
import Derived.Test.YtempjmpfdniecaaGreatDoorProg
import Derived.Ground.NamesProg
import Derived.Shelf.Small.Bits
import Derived.Shelf.Small.Strs
import Derived.Laws.BitsLemmas
import Derived.Laws.Shifts
set_option maxRecDepth 100000
set_option maxHeartbeats 4000000
namespace Go.Proofs.YtempjmpfdniecaaGreatDoor
open Go.RowKit
structure Sk where
  cls : ByteArray
  many : Int
def skEnc (x : Sk) : List Value := [.string x.cls, .int .i64 x.many]
theorem sk_len (x : Sk) : (skEnc x).length = 2 := rfl
def SkOk (x : Sk) : Prop := x.cls.size ≤ 1000000 ∧ -2000000000000000 ≤ x.many ∧ x.many ≤ 2000000000000000
def noB (cs : List Cs) (k : ByteArray) : Bool := decide (ixP (csP k) cs 0 < 0)
def classedE (cs : List Cs) (l : List Bk) : Int := if formE l ≠ 0 then formE l else if l.any (fun b => noB cs b.cls) = true then 8 else 0
def checkE (cs : List Cs) (l : List Bk) : Int := firstE [classesE cs, classedE cs l]
def leSk (p : Option Sk) (b : Sk) : Bool := match p with
  | none => false
  | some q => leB b.cls q.cls
def skE (cs : List Cs) (p : Option Sk) (b : Sk) : Int := if noB cs b.cls = true then 8 else if leSk p b then 7 else if !inB b.many 0 100 then 1 else 0
def stockE (cs : List Cs) (l : List Sk) : Int := firstE [classesE cs, if 30 < l.length then 2 else scanE (skE cs) none l]
def prevSk (l : List Sk) (k : Nat) : ByteArray := match prevOf l k with
  | none => ⟨#[]⟩
  | some q => q.cls
theorem prevSk_succ {l : List Sk} {k : Nat} {x : Sk} (h : l[k]? = some x) : prevSk l (k + 1) = x.cls := by
  unfold prevSk prevOf; rw [if_neg (by omega), Nat.add_sub_cancel, h]
theorem prevSk_le {l : List Sk} {k : Nat} {b : Sk} (h : keyB b.cls = true) : leB b.cls (prevSk l k) = leSk (prevOf l k) b := by
  unfold prevSk leSk
  cases prevOf l k with
  | none => exact key_low h
  | some q => rfl
theorem cls_keys {cs : List Cs} (h : classesE cs = 0) : ∀ x ∈ cs, keyB x.key = true := fun x hx => by
  unfold classesE at h
  split at h
  · cases h
  · split at h
    · rename_i h2; exact absurd h h2
    · rename_i h2
      obtain ⟨q, hq⟩ := scanE_all (by simpa using h2 : scanE csE none cs = 0) x hx
      unfold csE at hq
      cases hk : keyB x.key with
      | true => rfl
      | false => rw [hk] at hq; simp at hq
theorem no_key {cs : List Cs} (h : classesE cs = 0) {k : ByteArray} (hk : noB cs k = false) : keyB k = true := by
  unfold noB at hk
  obtain ⟨x, _, hx, e⟩ := ix_key (by simpa using hk : 0 ≤ ixP (csP k) cs 0)
  rw [← e]; exact cls_keys h x hx
def manyV : List Sk → ByteArray → Int
  | [], _ => 0
  | x :: r, k => if x.cls.toList == k.toList then x.many else manyV r k
theorem manyV_at {l : List Sk} {i : Nat} {x : Sk} {k : ByteArray} (h : l[i]? = some x) : manyV (l.drop i) k = if x.cls.toList == k.toList then x.many else manyV (l.drop (i + 1)) k := by
  obtain ⟨hi, rfl⟩ := List.getElem?_eq_some_iff.1 h
  rw [List.drop_eq_getElem_cons hi]; rfl
theorem manyV_end {l : List Sk} {i : Nat} {k : ByteArray} (h : l.length ≤ i) : manyV (l.drop i) k = 0 := by rw [List.drop_eq_nil_of_le h]; rfl
def wEnc (t : Int × Int) : List Value := [.int .i64 t.1, .int .i64 t.2]
theorem w_len (t : Int × Int) : (wEnc t).length = 2 := rfl
theorem onT_take {T : List (Int × Int)} {i : Nat} {t : Int × Int} {x : Int} (h : T[i]? = some t) : onT (T.take (i + 1)) x = onT (T.take i) x + (if inB x t.1 (t.2 - 1) then 1 else 0) := by
  unfold onT
  rw [List.take_add_one, h, List.countP_append]
  congr 1
  simp [List.countP_cons]
def frsM (a b : Int) : List (Int × Int) → List Int
  | [] => []
  | t :: r => if inB t.1 a (b - 1) then t.1 :: frsM a b r else frsM a b r
theorem frsM_take {T : List (Int × Int)} {i : Nat} {t : Int × Int} {a b : Int} (h : T[i]? = some t) : frsM a b (T.take (i + 1)) = frsM a b (T.take i) ++ (if inB t.1 a (b - 1) then [t.1] else []) := by
  have happ : ∀ x y : List (Int × Int), frsM a b (x ++ y) = frsM a b x ++ frsM a b y := fun x y => by
    induction x with
    | nil => rfl
    | cons u r ih =>
      rw [List.cons_append, frsM, frsM]
      split <;> simp [ih]
  rw [List.take_add_one, h, happ]
  congr 1
theorem frsM_mem {a b x : Int} : ∀ {T : List (Int × Int)}, x ∈ frsM a b T ↔ ∃ t ∈ T, t.1 = x ∧ a ≤ x ∧ x < b
  | [] => by simp [frsM]
  | t :: r => by
    unfold frsM
    cases hb : inB t.1 a (b - 1) with
    | true =>
      have hb2 := inB_iff.1 hb
      rw [if_pos rfl, List.mem_cons, frsM_mem (T := r)]
      constructor
      · rintro (rfl | ⟨u, hu, h1, h2⟩)
        · exact ⟨t, List.mem_cons_self .., rfl, by omega, by omega⟩
        · exact ⟨u, List.mem_cons_of_mem _ hu, h1, h2⟩
      · rintro ⟨u, hu, h1, h2⟩
        rcases List.mem_cons.1 hu with rfl | hu
        · exact .inl h1.symm
        · exact .inr ⟨u, hu, h1, h2⟩
    | false =>
      rw [if_neg (by decide), frsM_mem (T := r)]
      constructor
      · rintro ⟨u, hu, h1, h2⟩; exact ⟨u, List.mem_cons_of_mem _ hu, h1, h2⟩
      · rintro ⟨u, hu, h1, h2⟩
        rcases List.mem_cons.1 hu with rfl | hu
        · exact absurd (inB_iff.2 (show a ≤ u.1 ∧ u.1 ≤ b - 1 by omega)) (by rw [hb]; decide)
        · exact ⟨u, hu, h1, h2⟩
theorem pred_hasClass_1_book (ke : ByteArray) (up : ByteArray) (gk : Nat) (k : ByteArray) (w : World) (hk : Blk w gk 9 [.string k]) :
  Calls Tryz.prog 242 #[.agg #[.string ke, .string up], .pointer (some ⟨gk, 0, none⟩)] w (fun e w' => e = .returned (.bool (csP k ⟨ke, up⟩)) ∧ w.grownBy w' none) := by
 refine gw_enter ⟨8, w, none, []⟩ Tryz.func242 rfl Tryz.ntmps242 rfl (mem0 (X := [BlkOld w.heap.size none gk 9 [.string k]]) (allF_cons hk.old allF_nil) (allL_cons BlkOld.lasts allL_nil)) ?_
 refine sr_ ?_
 refine wl_box rfl rfl rfl fun g1 => ?_
 refine sg_ rfl (nn_ (sr_ (fd_ fo158_0 rfl rfl (lk_ sc9 0 rfl rfl rfl ?_))))
 refine wl_ov (ov_load (v := .string k) sc9 rfl (fun _ hm => (hm.fact 0 rfl).2) rfl) rfl ?_
 refine wl_ov (ov_seql rfl rfl) rfl (sg_ rfl (nn_ ?_))
 refine gw_ret ?_
 refine nx_ret1 rfl rfl fun wx hm => ?_
 exact ⟨rfl, hm.g⟩
theorem index_hasClass_1_book (l : List Cs) (A : Option Addr) (n c0 : Nat) (gk : Nat) (k : ByteArray) (w : World) (hl : SlT csEnc 2 158 w A n l) (hn : n ≤ 1000000) (hk : Blk w gk 9 [.string k]) :
  Calls Tryz.prog 235 #[.slice A n c0, .func (.func 242) #[] #[.pointer (some ⟨gk, 0, none⟩)]] w (GotE w (ixP (csP k) l 0)) := by
 refine gw_enter ⟨19, w, none, []⟩ Tryz.func235 rfl Tryz.ntmps235 rfl (mem0 (X := [SlOld csEnc 2 158 w.heap.size none A n l, BlkOld w.heap.size none gk 9 [.string k]]) (allF_cons hl.old (allF_cons hk.old allF_nil)) (allL_cons SlOld.lasts (allL_cons BlkOld.lasts allL_nil))) ?_
 refine sr_ ?_
 have hlen := hl.len
 refine sg_ rfl (nn_ (gw_seq (sr_ (mv_ rfl (wl_ov (ov_len es58 rfl) rfl (mv_ rfl (nn_ (gw_block ?_))))))))
 refine gw_loop (γ := Nat) (fun (i : Nat) => i ≤ n ∧ ixP (csP k) l 0 = ixP (csP k) (l.drop i) i) (fun (i : Nat) => [(0, .slice A n c0), (1, .func (.func 242) #[] #[.pointer (some ⟨gk, 0, none⟩)]), (7, .int .i64 ((n : Nat) : Int)), (8, .int .i64 ((i : Nat) : Int))]) (fun (i : Nat) => fun _ => True) (fun (i : Nat) => []) (fun (i : Nat) => []) (fun (i : Nat) => [SlOld csEnc 2 158 w.heap.size none A n l, BlkOld w.heap.size none gk 9 [.string k]]) (fun (i : Nat) => n - i) 0 ⟨Nat.zero_le _, rfl⟩ ⟨rfl, rfl, rfl, rfl, trivial⟩ (fun _ hm => hm.pick [] [] [0, 1] rfl rfl) ?_
 intro i hinv
 replace hinv : i ≤ n ∧ ixP (csP k) l 0 = ixP (csP k) (l.drop i) i := hinv
 refine sr_ (wl_ov (ov_lss rfl rfl) rfl (nn_ (gw_seq ?_)))
 refine gw_cond rfl (fun hh => ?_) (fun hh => ?_)
 ·have hi : ((i : Nat) : Int) < ((n : Nat) : Int) := by simpa using hh
  clear hh
  refine gw_skip (nx_then (gw_seq (gw_block (sr_ ?_))))
  obtain ⟨b, off, hA, _, _⟩ := hl.get (by omega)
  subst hA
  obtain ⟨x, hx⟩ : ∃ x, l[i]? = some x := ⟨_, List.getElem?_eq_getElem (by omega)⟩
  obtain ⟨ke, up⟩ := x
  have hat := ixP_at (p := csP k) hx
  refine mv_ rfl (sg_ rfl (nn_ (sr_ (mv_ rfl (mv_ rfl (mv_ rfl ?_))))))
  refine wl_ov (ov_index (j := i) es58 rfl rfl (by omega)) rfl ?_
  refine wl_ov (ov_elem (vs := [.string ke, .string up]) rz158 rfl (fun _ hm => (hm.fact 0 rfl).1) hx rfl rfl) rfl ?_
  refine wl_callv rfl cb242 rfl rfl (fun wx hm => (pred_hasClass_1_book ke up gk k wx (hm.fact 1 rfl).2)) ?_
  refine nn_ ?_
  refine gw_cond rfl (fun hh => ?_) (fun hh => ?_)
  ·have hq : (csP k ⟨ke, up⟩) = true := by simpa using hh
   clear hh
   refine sr_ (mv_ rfl (sg_ rfl (nn_ ?_)))
   refine gw_ret ?_
   refine nx_blk_ret (nx_then_ret (nx_then_ret (nx_blk_ret (nx_then_ret ?_))))
   refine nx_ret1 rfl rfl fun wx hm => ?_
   exact ⟨ret_int (by rw [hinv.2, hat, if_pos hq]), hm.g⟩
  have hq : (csP k ⟨ke, up⟩) = false := by simpa using hh
  clear hh
  refine gw_skip (nx_blk_nrm (nx_then (gw_region (ad_ rfl rfl (mv_ rfl (wl_nil ?_))))))
  exact nx_round (i + 1) ⟨by omega, by rw [hinv.2, hat, if_neg (by rw [hq]; decide)]⟩ (by omega) ⟨rfl, rfl, rfl, (some_int (by omega)), trivial⟩ (fun _ hm => hm.pick [] [] [0, 1] rfl rfl)
 have hi : ¬ (((i : Nat) : Int) < ((n : Nat) : Int)) := by simpa using hh
 clear hh
 refine gw_exit ?_
 refine nx_then_exit (nx_then_exit ?_)
 refine nx_blk_here ?_
 refine nx_then (sr_ (sg_ rfl ?_))
 refine wl_set 4 (v' := .int .i64 (-1)) rfl rfl ?_
 refine nn_ ?_
 refine gw_ret ?_
 refine nx_ret1 rfl rfl fun wx hm => ?_
 exact ⟨ret_int (by rw [hinv.2, List.drop_eq_nil_of_le (by omega)]; rfl), hm.g⟩
theorem hasC_any (l : List Cs) (A : Option Addr) (n c0 : Nat) (gk : Nat) (k : ByteArray) (w : World) (hl : SlT csEnc 2 158 w A n l) (hn : n ≤ 1000000) (hk : Blk w gk 9 [.string k]) :
  Calls Tryz.prog 241 #[.slice A n c0, .func (.func 242) #[] #[.pointer (some ⟨gk, 0, none⟩)]] w (fun e w' => e = .returned (.bool (decide (0 ≤ ixP (csP k) l 0))) ∧ w.grownBy w' none) := by
 refine gw_enter ⟨9, w, none, []⟩ Tryz.func241 rfl Tryz.ntmps241 rfl (mem0 (X := [SlOld csEnc 2 158 w.heap.size none A n l, BlkOld w.heap.size none gk 9 [.string k]]) (allF_cons hl.old (allF_cons hk.old allF_nil)) (allL_cons SlOld.lasts (allL_cons BlkOld.lasts allL_nil))) ?_
 refine sr_ (sg_ rfl (nn_ (sr_ (mv_ rfl (mv_ rfl ?_)))))
 refine wl_callv rfl cb235 rfl rfl (fun wx hm => (index_hasClass_1_book l A n c0 gk k wx (hm.fact 0 rfl).1 hn (hm.fact 1 rfl).2)) ?_
 refine wl_ov (ov_geq rfl rfl) rfl ?_
 refine sg_ rfl (nn_ ?_)
 refine gw_ret ?_
 refine nx_ret1 rfl rfl fun wx hm => ?_
 exact ⟨rfl, hm.g⟩
theorem hasClass_any (cs : List Cs) (A0 : Option Addr) (n0 c0 : Nat) (k : ByteArray) (w : World) (hcs : SlT csEnc 2 158 w A0 n0 cs) (_hco : ∀ x ∈ cs, CsOk x) (hn0 : n0 ≤ 1000) :
  Calls Tryz.prog 164 #[.slice A0 n0 c0, .string k] w (fun e w' => e = .returned (.bool (!noB cs k)) ∧ w.grownBy w' none) := by
 refine gw_enter ⟨8, w, none, []⟩ Tryz.func164 rfl Tryz.ntmps164 rfl (mem0 (X := [SlOld csEnc 2 158 w.heap.size none A0 n0 cs]) (allF_cons hcs.old allF_nil) (allL_cons SlOld.lasts allL_nil)) ?_
 refine sr_ ?_
 refine wl_box rfl rfl rfl fun g1 => ?_
 refine sg_ rfl (nn_ (sr_ (mv_ rfl (wl_ov (ov_makeFunc rfl rfl) rfl ?_))))
 refine wl_callv rfl cb241 rfl rfl (fun wx hm => (hasC_any cs A0 n0 c0 _ k wx (hm.fact 0 rfl).1 (by omega) (hm.blkI 0 rfl))) ?_
 refine sg_ rfl (nn_ ?_)
 refine gw_ret ?_
 refine nx_ret1 rfl rfl fun wx hm => ?_
 exact ⟨by unfold noB; cases h : decide (ixP (csP k) cs 0 < 0) <;> simp at h ⊢ <;> omega, hm.g⟩
theorem classed_any (cs : List Cs) (A0 : Option Addr) (n0 c0 : Nat) (l : List Bk) (A : Option Addr) (n c : Nat) (w : World) (hcs : SlT csEnc 2 158 w A0 n0 cs) (hco : ∀ x ∈ cs, CsOk x) (hn0 : n0 ≤ 1000) (hl : SlT bkEnc 6 92 w A n l) (hok : ∀ x ∈ l, BkOk x) (hn : n ≤ 1000) :
  Calls Tryz.prog 226 #[.slice A0 n0 c0, .slice A n c] w (GotE w (classedE cs l)) := by
 refine gw_enter ⟨25, w, none, []⟩ Tryz.func226 rfl Tryz.ntmps226 rfl (mem0 (X := [SlOld csEnc 2 158 w.heap.size none A0 n0 cs, SlOld bkEnc 6 92 w.heap.size none A n l]) (allF_cons hcs.old (allF_cons hl.old allF_nil)) (allL_cons SlOld.lasts (allL_cons SlOld.lasts allL_nil))) ?_
 refine sr_ ?_
 have hlen := hl.len
 obtain ⟨FE, hFE⟩ : ∃ E, E = formE l := ⟨_, rfl⟩
 refine sg_ rfl (nn_ (gw_seq (sr_ (mv_ rfl ?_))))
 refine wl_callv (v := .int .i64 FE) rfl cb253 rfl rfl (fun wx hm => (by rw [hFE]; exact formed_any l A n c wx (hm.fact 1 rfl).1 hok (by omega))) ?_
 refine sg_ rfl (nn_ (sr_ (mv_ rfl (wl_ov (ov_neq rfl rfl) rfl (nn_ ?_)))))
 refine gw_cond rfl (fun hh => ?_) (fun hh => ?_)
 ·have h1 : ¬ (FE = 0) := by simpa using hh
  clear hh
  refine sr_ (mv_ rfl (sg_ rfl (nn_ ?_)))
  refine gw_ret ?_
  refine nx_then_ret ?_
  refine nx_ret1 rfl rfl fun wx hm => ?_
  exact ⟨ret_int (by unfold classedE; rw [← hFE, if_pos (by simpa using h1)]), hm.g⟩
 have h1 : FE = 0 := by simpa using hh
 clear hh
 refine gw_skip (nx_then (gw_seq (sr_ ?_)))
 have hke : classedE cs l = if l.any (fun b => noB cs b.cls) = true then 8 else 0 := by unfold classedE; rw [← hFE, if_neg (by simpa using h1)]
 refine mv_ rfl (wl_ov (ov_len es76 rfl) rfl (mv_ rfl (nn_ (gw_block ?_))))
 refine gw_loop (γ := Nat) (fun (i : Nat) => i ≤ n ∧ l.any (fun b => noB cs b.cls) = (l.drop i).any (fun b => noB cs b.cls)) (fun (i : Nat) => [(0, .slice A0 n0 c0), (13, .slice A n c), (14, .int .i64 ((n : Nat) : Int)), (15, .int .i64 ((i : Nat) : Int))]) (fun (i : Nat) => fun _ => True) (fun (i : Nat) => []) (fun (i : Nat) => []) (fun (i : Nat) => [SlOld csEnc 2 158 w.heap.size none A0 n0 cs, SlOld bkEnc 6 92 w.heap.size none A n l]) (fun (i : Nat) => n - i) 0 ⟨Nat.zero_le _, rfl⟩ ⟨rfl, rfl, rfl, rfl, trivial⟩ (fun _ hm => hm.pick [] [] [0, 1] rfl rfl) ?_
 intro i hinv
 replace hinv : i ≤ n ∧ l.any (fun b => noB cs b.cls) = (l.drop i).any (fun b => noB cs b.cls) := hinv
 refine sr_ (wl_ov (ov_lss rfl rfl) rfl (nn_ (gw_seq ?_)))
 refine gw_cond rfl (fun hh => ?_) (fun hh => ?_)
 ·have hi : ((i : Nat) : Int) < ((n : Nat) : Int) := by simpa using hh
  clear hh
  refine gw_skip (nx_then (gw_seq (gw_block (sr_ ?_))))
  obtain ⟨b, off, hA, _, _⟩ := hl.get (by omega)
  subst hA
  obtain ⟨x, hx⟩ : ∃ x, l[i]? = some x := ⟨_, List.getElem?_eq_getElem (by omega)⟩
  obtain ⟨ke, cl, fr, tt, md, od⟩ := x
  have hat := any_at (p := (fun b => noB cs b.cls)) hx
  refine wl_ov (ov_index (j := i) es76 rfl rfl (by omega)) rfl ?_
  refine wl_ov (ov_elem (vs := [.string ke, .string cl, .int .i64 fr, .int .i64 tt, .int .i64 md, .int .i64 od]) rz92 rfl (fun _ hm => (hm.fact 1 rfl).1) hx rfl rfl) rfl ?_
  refine wl_alloc zc92 rfl fun g1 => ?_
  refine wl_stores (cs' := [.string ke, .string cl, .int .i64 fr, .int .i64 tt, .int .i64 md, .int .i64 od]) 0 rz92 rfl rfl rfl rfl rfl rfl rfl rfl ?_
  refine nn_ (sr_ (mv_ rfl (fd_ fo92_1 rfl rfl (lk_ sc9 0 rfl rfl rfl ?_))))
  refine wl_callv rfl cb164 rfl rfl (fun wx hm => (hasClass_any cs A0 n0 c0 cl wx (hm.fact 0 rfl).1 hco hn0)) ?_
  refine wl_ov (ov_un_not rfl) rfl (nn_ ?_)
  refine gw_cond rfl (fun hh => ?_) (fun hh => ?_)
  ·have hq : (!noB cs cl) = false := by simpa using hh
   clear hh
   refine sr_ ?_
   have hb : noB cs cl = true := by simpa using hq
   refine sg_ rfl (nn_ ?_)
   refine gw_ret ?_
   refine nx_blk_ret (nx_then_ret (nx_then_ret (nx_blk_ret (nx_then_ret ?_))))
   refine nx_ret1 rfl rfl fun wx hm => ?_
   exact ⟨ret_int (by rw [hke, if_pos (by rw [hinv.2, hat, hb]; rfl)]), hm.g⟩
  have hq : (!noB cs cl) = true := by simpa using hh
  clear hh
  refine gw_skip (nx_blk_nrm (nx_then (gw_region ?_)))
  have hb : noB cs cl = false := by simpa using hq
  refine ad_ rfl rfl (mv_ rfl (wl_nil ?_))
  exact nx_round (i + 1) ⟨by omega, by rw [hinv.2, hat, hb]; rfl⟩ (by omega) ⟨rfl, rfl, rfl, (some_int (by omega)), trivial⟩ (fun _ hm => hm.pick [] [] [0, 1] rfl rfl)
 have hi : ¬ (((i : Nat) : Int) < ((n : Nat) : Int)) := by simpa using hh
 clear hh
 refine gw_exit ?_
 refine nx_then_exit (nx_then_exit ?_)
 refine nx_blk_here ?_
 refine nx_then (sr_ (sg_ rfl (nn_ ?_)))
 refine gw_ret ?_
 refine nx_ret1 rfl rfl fun wx hm => ?_
 exact ⟨ret_int (by rw [hke, if_neg (by rw [hinv.2, any_end (by omega)]; decide)]), hm.g⟩
theorem known_any (cs : List Cs) (A0 : Option Addr) (n0 c0 : Nat) (l : List Bk) (A : Option Addr) (n c : Nat) (w : World) (hcs : SlT csEnc 2 158 w A0 n0 cs) (_hco : ∀ x ∈ cs, CsOk x) (hn0 : n0 ≤ 1000) (hl : SlT bkEnc 6 92 w A n l) (_hok : ∀ x ∈ l, BkOk x) (hn : n ≤ 1000) :
  Calls Tryz.prog 138 #[.slice A0 n0 c0, .slice A n c] w (GotE w (if l.any (fun b => noB cs b.cls) = true then 8 else 0)) := by
 refine gw_enter ⟨19, w, none, []⟩ Tryz.func138 rfl Tryz.ntmps138 rfl (mem0 (X := [SlOld csEnc 2 158 w.heap.size none A0 n0 cs, SlOld bkEnc 6 92 w.heap.size none A n l]) (allF_cons hcs.old (allF_cons hl.old allF_nil)) (allL_cons SlOld.lasts (allL_cons SlOld.lasts allL_nil))) ?_
 refine sr_ ?_
 have hlen := hl.len
 obtain ⟨KE, hke⟩ : ∃ E, E = (if l.any (fun b => noB cs b.cls) = true then (8 : Int) else 0) := ⟨_, rfl⟩
 rw [← hke]
 refine sg_ rfl (nn_ (gw_seq (sr_ (mv_ rfl (wl_ov (ov_len es76 rfl) rfl (mv_ rfl (nn_ (gw_block ?_))))))))
 refine gw_loop (γ := Nat) (fun (i : Nat) => i ≤ n ∧ l.any (fun b => noB cs b.cls) = (l.drop i).any (fun b => noB cs b.cls)) (fun (i : Nat) => [(0, .slice A0 n0 c0), (7, .slice A n c), (8, .int .i64 ((n : Nat) : Int)), (9, .int .i64 ((i : Nat) : Int))]) (fun (i : Nat) => fun _ => True) (fun (i : Nat) => []) (fun (i : Nat) => []) (fun (i : Nat) => [SlOld csEnc 2 158 w.heap.size none A0 n0 cs, SlOld bkEnc 6 92 w.heap.size none A n l]) (fun (i : Nat) => n - i) 0 ⟨Nat.zero_le _, rfl⟩ ⟨rfl, rfl, rfl, rfl, trivial⟩ (fun _ hm => hm.pick [] [] [0, 1] rfl rfl) ?_
 intro i hinv
 replace hinv : i ≤ n ∧ l.any (fun b => noB cs b.cls) = (l.drop i).any (fun b => noB cs b.cls) := hinv
 refine sr_ (wl_ov (ov_lss rfl rfl) rfl (nn_ (gw_seq ?_)))
 refine gw_cond rfl (fun hh => ?_) (fun hh => ?_)
 ·have hi : ((i : Nat) : Int) < ((n : Nat) : Int) := by simpa using hh
  clear hh
  refine gw_skip (nx_then (gw_seq (gw_block (sr_ ?_))))
  obtain ⟨b, off, hA, _, _⟩ := hl.get (by omega)
  subst hA
  obtain ⟨x, hx⟩ : ∃ x, l[i]? = some x := ⟨_, List.getElem?_eq_getElem (by omega)⟩
  obtain ⟨ke, cl, fr, tt, md, od⟩ := x
  have hat := any_at (p := (fun b => noB cs b.cls)) hx
  refine wl_ov (ov_index (j := i) es76 rfl rfl (by omega)) rfl ?_
  refine wl_ov (ov_elem (vs := [.string ke, .string cl, .int .i64 fr, .int .i64 tt, .int .i64 md, .int .i64 od]) rz92 rfl (fun _ hm => (hm.fact 1 rfl).1) hx rfl rfl) rfl ?_
  refine wl_alloc zc92 rfl fun g1 => ?_
  refine wl_stores (cs' := [.string ke, .string cl, .int .i64 fr, .int .i64 tt, .int .i64 md, .int .i64 od]) 0 rz92 rfl rfl rfl rfl rfl rfl rfl rfl ?_
  refine nn_ (sr_ (mv_ rfl (fd_ fo92_1 rfl rfl (lk_ sc9 0 rfl rfl rfl ?_))))
  refine wl_callv rfl cb153 rfl rfl (fun wx hm => (rClassAt_any cs A0 n0 c0 cl wx (hm.fact 0 rfl).1 (by omega))) ?_
  refine wl_ov (ov_lss rfl rfl) rfl (nn_ ?_)
  refine gw_cond rfl (fun hh => ?_) (fun hh => ?_)
  ·have hq : ixP (csP cl) cs 0 < 0 := by simpa using hh
   clear hh
   refine sr_ ?_
   have hb : noB cs cl = true := by unfold noB; exact decide_eq_true hq
   refine sg_ rfl (nn_ ?_)
   refine gw_ret ?_
   refine nx_blk_ret (nx_then_ret (nx_then_ret (nx_blk_ret (nx_then_ret ?_))))
   refine nx_ret1 rfl rfl fun wx hm => ?_
   exact ⟨ret_int (by rw [hke, if_pos (by rw [hinv.2, hat, hb]; rfl)]), hm.g⟩
  have hq : ¬ (ixP (csP cl) cs 0 < 0) := by simpa using hh
  clear hh
  refine gw_skip (nx_blk_nrm (nx_then (gw_region ?_)))
  have hb : noB cs cl = false := by unfold noB; exact decide_eq_false hq
  refine ad_ rfl rfl (mv_ rfl (wl_nil ?_))
  exact nx_round (i + 1) ⟨by omega, by rw [hinv.2, hat, hb]; rfl⟩ (by omega) ⟨rfl, rfl, rfl, (some_int (by omega)), trivial⟩ (fun _ hm => hm.pick [] [] [0, 1] rfl rfl)
 have hi : ¬ (((i : Nat) : Int) < ((n : Nat) : Int)) := by simpa using hh
 clear hh
 refine gw_exit ?_
 refine nx_then_exit (nx_then_exit ?_)
 refine nx_blk_here ?_
 refine nx_then (sr_ (sg_ rfl (nn_ ?_)))
 refine gw_ret ?_
 refine nx_ret1 rfl rfl fun wx hm => ?_
 exact ⟨ret_int (by rw [hke, if_neg (by rw [hinv.2, any_end (by omega)]; decide)]), hm.g⟩
theorem bcheck_any (cs : List Cs) (A0 : Option Addr) (n0 c0 : Nat) (l : List Bk) (A : Option Addr) (n c : Nat) (w : World) (hcs : SlT csEnc 2 158 w A0 n0 cs) (hco : ∀ x ∈ cs, CsOk x) (hn0 : n0 ≤ 1000) (hl : SlT bkEnc 6 92 w A n l) (hok : ∀ x ∈ l, BkOk x) (hn : n ≤ 1000) :
  Calls Tryz.prog 141 #[.slice A0 n0 c0, .slice A n c] w (GotE w (checkE cs l)) := by
 refine gw_enter ⟨12, w, none, []⟩ Tryz.func141 rfl Tryz.ntmps141 rfl (mem0 (X := [SlOld csEnc 2 158 w.heap.size none A0 n0 cs, SlOld bkEnc 6 92 w.heap.size none A n l]) (allF_cons hcs.old (allF_cons hl.old allF_nil)) (allL_cons SlOld.lasts (allL_cons SlOld.lasts allL_nil))) ?_
 refine sr_ ?_
 obtain ⟨CE, hCE⟩ : ∃ E, E = classesE cs := ⟨_, rfl⟩
 obtain ⟨KE, hKE⟩ : ∃ E, E = classedE cs l := ⟨_, rfl⟩
 refine sg_ rfl (nn_ (sr_ (mv_ rfl ?_)))
 refine wl_callv (v := .int .i64 CE) rfl cb208 rfl rfl (fun wx hm => (by rw [hCE]; exact checkClasses_any cs A0 n0 c0 wx (hm.fact 0 rfl).1 hco (by omega))) ?_
 refine mv_ rfl (mv_ rfl ?_)
 refine wl_callv (v := .int .i64 KE) rfl cb226 rfl rfl (fun wx hm => (by rw [hKE]; exact classed_any cs A0 n0 c0 l A n c wx (hm.fact 0 rfl).1 hco hn0 (hm.fact 1 rfl).1 hok hn)) ?_
 refine wl_buildSlice (e := 33) (cs := [.int .i64 CE, .int .i64 KE]) rfl (by kernel_rfl) rfl fun g1 => ?_
 refine wl_callw rfl cb67 rfl rfl (fun wx hm => (first_any [CE, KE] _ _ _ wx (hm.blkI 0 rfl) (by simp))) ?_
 refine sg_ rfl (nn_ ?_)
 refine gw_ret ?_
 refine nx_ret1 rfl rfl fun wx hm => ?_
 exact ⟨ret_int (by unfold checkE; rw [hCE, hKE]), hm.g⟩
theorem stock_early {cs : List Cs} {sl : List Sk} (h : firstE [classesE cs, whenE (decide (30 < ((sl.length : Nat) : Int))) 2] ≠ 0) : stockE cs sl = firstE [classesE cs, whenE (decide (30 < ((sl.length : Nat) : Int))) 2] := by
  unfold stockE
  by_cases h30 : 30 < sl.length
  · rw [if_pos h30, decide_eq_true (by omega)]; rfl
  · rw [decide_eq_false (by omega)] at h ⊢
    unfold firstE at h ⊢
    by_cases hc : classesE cs = 0
    · rw [if_pos hc] at h; exact absurd rfl h
    · rw [if_neg hc, if_neg hc]
theorem stock_late {a : Int} {n : Nat} (h : firstE [a, whenE (decide (30 < ((n : Nat) : Int))) 2] = 0) : a = 0 ∧ ¬ 30 < n := by
  unfold firstE at h
  by_cases ha : a = 0
  · refine ⟨ha, fun h30 => ?_⟩
    rw [if_pos ha, decide_eq_true (by omega)] at h
    exact absurd h (by decide)
  · rw [if_neg ha] at h; exact absurd h ha
theorem stock_scan {cs : List Cs} {sl : List Sk} (h : classesE cs = 0) (h30 : ¬ 30 < sl.length) : stockE cs sl = scanE (skE cs) none sl := by
  unfold stockE
  rw [if_neg h30, h]
  show firstE [0, _] = _
  exact firstE_zero _
theorem stock_cls {cs : List Cs} {sl : List Sk} (h : classesE cs ≠ 0) : stockE cs sl = classesE cs := by
  unfold stockE firstE
  rw [if_neg h]
theorem stock_large {cs : List Cs} {sl : List Sk} (h : classesE cs = 0) (h30 : 30 < sl.length) : stockE cs sl = 2 := by
  unfold stockE
  rw [if_pos h30, h]; rfl
theorem checkStock_any (cs : List Cs) (A0 : Option Addr) (n0 c0 : Nat) (sl : List Sk) (A1 : Option Addr) (n1 c1 : Nat) (w : World) (hcs : SlT csEnc 2 158 w A0 n0 cs) (hco : ∀ x ∈ cs, CsOk x) (hn0 : n0 ≤ 1000) (hs : SlT skEnc 2 211 w A1 n1 sl) (_hso : ∀ x ∈ sl, SkOk x) (hn1 : n1 ≤ 1000) :
  Calls Tryz.prog 219 #[.slice A0 n0 c0, .slice A1 n1 c1] w (GotE w (stockE cs sl)) := by
 refine gw_enter ⟨52, w, none, []⟩ Tryz.func219 rfl Tryz.ntmps219 rfl (mem0 (X := [SlOld csEnc 2 158 w.heap.size none A0 n0 cs, SlOld skEnc 2 211 w.heap.size none A1 n1 sl]) (allF_cons hcs.old (allF_cons hs.old allF_nil)) (allL_cons SlOld.lasts (allL_cons SlOld.lasts allL_nil))) ?_
 refine sr_ ?_
 have hlen := hs.len
 obtain ⟨CE, hCE⟩ : ∃ E, E = classesE cs := ⟨_, rfl⟩
 refine sg_ rfl (nn_ (gw_seq (sr_ (mv_ rfl ?_))))
 refine wl_callv (v := .int .i64 CE) rfl cb208 rfl rfl (fun wx hm => (by rw [hCE]; exact checkClasses_any cs A0 n0 c0 wx (hm.fact 0 rfl).1 hco (by omega))) ?_
 refine mv_ rfl (wl_ov (ov_len es75 rfl) rfl ?_)
 refine wl_ov (ov_gtr rfl rfl) rfl ?_
 refine wl_callw rfl cb68 rfl rfl (fun wx hm => (when_any _ _ wx)) ?_
 refine wl_buildSlice (e := 33) (cs := [.int .i64 CE, .int .i64 (whenE (decide (30 < ((n1 : Nat) : Int))) 2)]) rfl (by kernel_rfl) rfl fun g1 => ?_
 refine wl_callw rfl cb67 rfl rfl (fun wx hm => (first_any [CE, whenE (decide (30 < ((n1 : Nat) : Int))) 2] _ _ _ wx (hm.blkI 0 rfl) (by simp))) ?_
 refine sg_ rfl (nn_ (sr_ (mv_ rfl (wl_ov (ov_neq rfl rfl) rfl (nn_ ?_)))))
 refine gw_cond rfl (fun hh => ?_) (fun hh => ?_)
 ·have h1 : ¬ (firstE [CE, whenE (decide (30 < ((n1 : Nat) : Int))) 2] = 0) := by simpa using hh
  clear hh
  refine sr_ (mv_ rfl (sg_ rfl (nn_ ?_)))
  refine gw_ret ?_
  refine nx_then_ret ?_
  refine nx_ret1 rfl rfl fun wx hm => ?_
  exact ⟨ret_int (by rw [stock_early (by rw [← hCE]; simpa [hlen] using h1), ← hCE, hlen]), hm.g⟩
 have h1 : firstE [CE, whenE (decide (30 < ((n1 : Nat) : Int))) 2] = 0 := by simpa using hh
 clear hh
 refine gw_skip (nx_then (gw_seq (sr_ ?_)))
 have h1b : firstE [CE, whenE (decide (30 < ((n1 : Nat) : Int))) 2] = 0 := by simpa using h1
 obtain ⟨h0, h30⟩ := stock_late h1b
 have h0 : classesE cs = 0 := hCE.symm.trans h0
 have hse : stockE cs sl = scanE (skE cs) none sl := stock_scan h0 (by omega)
 refine mv_ rfl (wl_ov (ov_len es75 rfl) rfl (mv_ rfl (nn_ (gw_block ?_))))
 refine gw_loop (γ := Nat) (fun (k : Nat) => k ≤ n1 ∧ scanE (skE cs) none sl = scanE (skE cs) (prevOf sl k) (sl.drop k)) (fun (k : Nat) => [(0, .slice A0 n0 c0), (1, .slice A1 n1 c1), (19, .slice A1 n1 c1), (20, .int .i64 ((n1 : Nat) : Int)), (21, .int .i64 ((k : Nat) : Int))]) (fun (k : Nat) => fun _ => True) (fun (k : Nat) => [(g1, 33, [.int .i64 CE, .int .i64 (whenE (decide (30 < ((n1 : Nat) : Int))) 2)])]) (fun (k : Nat) => []) (fun (k : Nat) => [SlOld csEnc 2 158 w.heap.size none A0 n0 cs, SlOld skEnc 2 211 w.heap.size none A1 n1 sl]) (fun (k : Nat) => n1 - k) 0 ⟨Nat.zero_le _, rfl⟩ ⟨rfl, rfl, rfl, rfl, rfl, trivial⟩ (fun _ hm => hm.pick [0] [] [0, 1] rfl rfl) ?_
 intro k hinv
 replace hinv : k ≤ n1 ∧ scanE (skE cs) none sl = scanE (skE cs) (prevOf sl k) (sl.drop k) := hinv
 refine sr_ (wl_ov (ov_lss rfl rfl) rfl (nn_ (gw_seq ?_)))
 refine gw_cond rfl (fun hh => ?_) (fun hh => ?_)
 ·have hk : ((k : Nat) : Int) < ((n1 : Nat) : Int) := by simpa using hh
  clear hh
  refine gw_skip (nx_then (gw_seq (gw_block (sr_ ?_))))
  obtain ⟨b, off, hA, _, _⟩ := hs.get (by omega)
  subst hA
  obtain ⟨x, hx⟩ : ∃ x, sl[k]? = some x := ⟨_, List.getElem?_eq_getElem (by omega)⟩
  obtain ⟨ke, mn⟩ := x
  have hat := scanE_at (skE cs) sl k _ hx
  refine mv_ rfl ?_
  refine wl_ov (ov_index (j := k) es75 rfl rfl (by omega)) rfl ?_
  refine wl_ov (ov_elem (vs := [.string ke, .int .i64 mn]) rz211 rfl (fun _ hm => (hm.fact 1 rfl).1) hx rfl rfl) rfl ?_
  refine wl_alloc zc211 rfl fun g2 => ?_
  refine sg_ rfl ?_
  refine wl_stores (cs' := [.string ke, .int .i64 mn]) 0 rz211 rfl rfl rfl rfl rfl rfl rfl rfl ?_
  refine nn_ (gw_block (sr_ (mv_ rfl (fd_ fo211_0 rfl rfl (lk_ sc9 0 rfl rfl rfl ?_)))))
  refine wl_callv rfl cb164 rfl rfl (fun wx hm => (hasClass_any cs A0 n0 c0 ke wx (hm.fact 0 rfl).1 hco hn0)) ?_
  refine wl_ov (ov_un_not rfl) rfl (sg_ rfl (nn_ ?_))
  refine gw_cond rfl (fun hh => ?_) (fun hh => ?_)
  ·have h2 : (!noB cs ke) = false := by simpa using hh
   clear hh
   refine sr_ ?_
   have hb : noB cs ke = true := by simpa using h2
   refine sg_ rfl (nn_ ?_)
   refine gw_ret ?_
   refine nx_blk_ret (nx_blk_ret (nx_then_ret (nx_then_ret (nx_blk_ret (nx_then_ret ?_)))))
   have hE : skE cs (prevOf sl k) ⟨ke, mn⟩ = 8 := by unfold skE; simp [hb]
   refine nx_ret1 rfl rfl fun wx hm => ?_
   exact ⟨ret_int (by rw [hse, hinv.2, hat, if_neg (by rw [hE]; decide), hE]), hm.g⟩
  have h2 : (!noB cs ke) = true := by simpa using hh
  clear hh
  refine gw_seq ?_
  have hb : noB cs ke = false := by simpa using h2
  have hkb : keyB ke = true := no_key h0 hb
  by_cases hk0 : k = 0
  ·have hO : leSk (prevOf sl k) ⟨ke, mn⟩ = false := by rw [prevOf_zero hk0]; rfl
   refine gd (fun wz => Blk wz g2 211 [.string ke, .int .i64 mn] ∧ Blk wz g1 33 [.int .i64 CE, .int .i64 (whenE (decide (30 < ((n1 : Nat) : Int))) 2)] ∧ (SlOld csEnc 2 158 w.heap.size none A0 n0 cs) wz ∧ (SlOld skEnc 2 211 w.heap.size none (some ⟨b, off, none⟩) n1 sl) wz ∧ True) mixed (fun _ hm => ⟨hm.bl 0, hm.bl 1, hm.fa 0, hm.fa 1, trivial⟩) fun z => ?_
   refine wt 0 14 1 rfl z (ov_move rfl) ?_
   refine wt 1 14 3 rfl z (ov_gtr rfl rfl) ?_
   refine wa_set 34 (v' := .bool false) rfl (congrArg Value.bool (decide_eq_false (by omega))) ?_
   refine wt 2 14 7 rfl z (ov_move rfl) ?_
   refine wtf 3 14 15 rfl rfl rfl z ?_
   refine wtf 4 14 31 rfl rfl rfl z ?_
   refine wtf 5 14 63 rfl rfl rfl z ?_
   refine wtf 6 14 127 rfl rfl rfl z ?_
   refine wtf 7 14 255 rfl rfl rfl z ?_
   refine wtf 8 14 511 rfl rfl rfl z ?_
   refine wtf 9 14 1023 rfl rfl rfl z ?_
   refine wtf 10 14 2047 rfl rfl rfl z ?_
   refine wtf 11 14 4095 rfl rfl rfl z ?_
   refine wt 12 14 8191 rfl z (ov_pick_f rfl rfl) ?_
   refine wt 13 14 16383 rfl z (ov_assign rfl) ?_
   refine wa_done (by kernel_rfl) ?_
   refine nx_then (cf_ rfl (sr_ (fd_ fo211_1 rfl rfl (lk_ sc3 0 rfl rfl rfl ?_))))
   refine wl_callw rfl cb166 rfl rfl (fun wx hm => (in_any _ _ _ wx)) ?_
   refine wl_ov (ov_un_not rfl) rfl (sg_ rfl (nn_ ?_))
   refine gw_cond rfl (fun hh => ?_) (fun hh => ?_)
   ·have h3 : (inB mn 0 100) = false := by simpa using hh
    clear hh
    refine sr_ (sg_ rfl (nn_ ?_))
    refine gw_ret ?_
    refine nx_blk_ret (nx_blk_ret (nx_then_ret (nx_then_ret (nx_blk_ret (nx_then_ret ?_)))))
    have hE : skE cs (prevOf sl k) ⟨ke, mn⟩ = 1 := by unfold skE; simp [hb, hO, h3]
    refine nx_ret1 rfl rfl fun wx hm => ?_
    exact ⟨ret_int (by rw [hse, hinv.2, hat, if_neg (by rw [hE]; decide), hE]), hm.g⟩
   have h3 : (inB mn 0 100) = true := by simpa using hh
   clear hh
   refine gw_skip (nx_blk_nrm (nx_blk_nrm (nx_then (gw_region ?_))))
   have hE : skE cs (prevOf sl k) ⟨ke, mn⟩ = 0 := by unfold skE; simp [hb, hO, h3]
   refine ad_ rfl rfl (mv_ rfl (wl_nil ?_))
   exact nx_round (k + 1) ⟨by omega, by rw [hinv.2, hat, if_pos hE]⟩ (by omega) ⟨rfl, rfl, rfl, rfl, (some_int (by omega)), trivial⟩ (fun _ hm => hm.pick [1] [] [0, 1] rfl rfl)
  obtain ⟨y, hy⟩ : ∃ x, sl[k - 1]? = some x := ⟨_, List.getElem?_eq_getElem (by omega)⟩
  obtain ⟨p0, p1⟩ := y
  refine gd (fun wz => Blk wz g2 211 [.string ke, .int .i64 mn] ∧ Blk wz g1 33 [.int .i64 CE, .int .i64 (whenE (decide (30 < ((n1 : Nat) : Int))) 2)] ∧ (SlOld csEnc 2 158 w.heap.size none A0 n0 cs) wz ∧ (SlOld skEnc 2 211 w.heap.size none (some ⟨b, off, none⟩) n1 sl) wz ∧ True) mixed (fun _ hm => ⟨hm.bl 0, hm.bl 1, hm.fa 0, hm.fa 1, trivial⟩) fun z => ?_
  refine wt 0 14 1 rfl z (ov_move rfl) ?_
  refine wt 1 14 3 rfl z (ov_gtr rfl rfl) ?_
  refine wa_set 34 (v' := .bool true) rfl (congrArg Value.bool (decide_eq_true (by omega))) ?_
  refine wt 2 14 7 rfl z (ov_move rfl) ?_
  refine wto 3 14 15 rfl rfl rfl z (ov_field fo211_0 rfl rfl) ?_
  refine wto 4 14 31 rfl rfl rfl z (ov_load sc9 rfl (fun _ hm => hm.1) rfl) ?_
  refine wto 5 14 63 rfl rfl rfl z (ov_move rfl) ?_
  refine wto 6 14 127 rfl rfl rfl z (ov_move rfl) ?_
  refine wto 7 14 255 rfl rfl rfl z (ov_sub rfl rfl (by omega) (by omega)) ?_
  refine wa_set 40 (v' := .int .i64 ((k - 1 : Nat) : Int)) rfl (congrArg (Value.int .i64) (by omega)) ?_
  refine wto 8 14 511 rfl rfl rfl z (ov_index (j := k - 1) es75 rfl rfl (by omega)) ?_
  refine wto 9 14 1023 rfl rfl rfl z (ov_field fo211_0 rfl rfl) ?_
  refine wto 10 14 2047 rfl rfl rfl z (ov_elem1 (k := 0) (v := .string p0) sc9 rfl (fun _ hm => (hm.2.2.2.1).1) hy rfl rfl) ?_
  refine wto 11 14 4095 rfl rfl rfl z (ov_sleq rfl rfl) ?_
  refine wt 12 14 8191 rfl z (ov_pick_t rfl rfl) ?_
  refine wt 13 14 16383 rfl z (ov_assign rfl) ?_
  refine wa_done (by kernel_rfl) ?_
  refine nx_then ?_
  refine gw_cond rfl (fun hh => ?_) (fun hh => ?_)
  ·have h9 : (Op.bytesLess ke.toList p0.toList || ke.toList == p0.toList) = true := by simpa using hh
   clear hh
   refine sr_ ?_
   have hO : leSk (prevOf sl k) ⟨ke, mn⟩ = true := by rw [prevOf_pos hk0 hy]; exact h9
   refine sg_ rfl (nn_ ?_)
   refine gw_ret ?_
   refine nx_blk_ret (nx_blk_ret (nx_then_ret (nx_then_ret (nx_blk_ret (nx_then_ret ?_)))))
   have hE : skE cs (prevOf sl k) ⟨ke, mn⟩ = 7 := by unfold skE; simp [hb, hO]
   refine nx_ret1 rfl rfl fun wx hm => ?_
   exact ⟨ret_int (by rw [hse, hinv.2, hat, if_neg (by rw [hE]; decide), hE]), hm.g⟩
  have h9 : (Op.bytesLess ke.toList p0.toList || ke.toList == p0.toList) = false := by simpa using hh
  clear hh
  refine sr_ ?_
  have hO : leSk (prevOf sl k) ⟨ke, mn⟩ = false := by rw [prevOf_pos hk0 hy]; exact h9
  refine fd_ fo211_1 rfl rfl (lk_ sc3 0 rfl rfl rfl ?_)
  refine wl_callw rfl cb166 rfl rfl (fun wx hm => (in_any _ _ _ wx)) ?_
  refine wl_ov (ov_un_not rfl) rfl (sg_ rfl (nn_ ?_))
  refine gw_cond rfl (fun hh => ?_) (fun hh => ?_)
  ·have h3 : (inB mn 0 100) = false := by simpa using hh
   clear hh
   refine sr_ (sg_ rfl (nn_ ?_))
   refine gw_ret ?_
   refine nx_blk_ret (nx_blk_ret (nx_then_ret (nx_then_ret (nx_blk_ret (nx_then_ret ?_)))))
   have hE : skE cs (prevOf sl k) ⟨ke, mn⟩ = 1 := by unfold skE; simp [hb, hO, h3]
   refine nx_ret1 rfl rfl fun wx hm => ?_
   exact ⟨ret_int (by rw [hse, hinv.2, hat, if_neg (by rw [hE]; decide), hE]), hm.g⟩
  have h3 : (inB mn 0 100) = true := by simpa using hh
  clear hh
  refine gw_skip (nx_blk_nrm (nx_blk_nrm (nx_then (gw_region ?_))))
  have hE : skE cs (prevOf sl k) ⟨ke, mn⟩ = 0 := by unfold skE; simp [hb, hO, h3]
  refine ad_ rfl rfl (mv_ rfl (wl_nil ?_))
  exact nx_round (k + 1) ⟨by omega, by rw [hinv.2, hat, if_pos hE]⟩ (by omega) ⟨rfl, rfl, rfl, rfl, (some_int (by omega)), trivial⟩ (fun _ hm => hm.pick [1] [] [0, 1] rfl rfl)
 have hk : ¬ (((k : Nat) : Int) < ((n1 : Nat) : Int)) := by simpa using hh
 clear hh
 refine gw_exit ?_
 refine nx_then_exit (nx_then_exit ?_)
 refine nx_blk_here ?_
 refine nx_then (sr_ (sg_ rfl (nn_ ?_)))
 refine gw_ret ?_
 refine nx_ret1 rfl rfl fun wx hm => ?_
 exact ⟨ret_int (by rw [hse, hinv.2, scanE_end _ _ _ _ (by omega)]), hm.g⟩
theorem stockFault_any (cs : List Cs) (A0 : Option Addr) (n0 c0 : Nat) (sl : List Sk) (A1 : Option Addr) (n1 c1 : Nat) (w : World) (hcs : SlT csEnc 2 158 w A0 n0 cs) (hco : ∀ x ∈ cs, CsOk x) (hn0 : n0 ≤ 1000) (hs : SlT skEnc 2 211 w A1 n1 sl) (_hso : ∀ x ∈ sl, SkOk x) (hn1 : n1 ≤ 1000) :
  Calls Tryz.prog 58 #[.slice A0 n0 c0, .slice A1 n1 c1] w (GotE w (stockE cs sl)) := by
 refine gw_enter ⟨42, w, none, []⟩ Tryz.func58 rfl Tryz.ntmps58 rfl (mem0 (X := [SlOld csEnc 2 158 w.heap.size none A0 n0 cs, SlOld skEnc 2 211 w.heap.size none A1 n1 sl]) (allF_cons hcs.old (allF_cons hs.old allF_nil)) (allL_cons SlOld.lasts (allL_cons SlOld.lasts allL_nil))) ?_
 refine sr_ ?_
 have hlen := hs.len
 obtain ⟨CE, hCE⟩ : ∃ E, E = classesE cs := ⟨_, rfl⟩
 refine sg_ rfl (nn_ (gw_seq (sr_ (mv_ rfl ?_))))
 refine wl_callv (v := .int .i64 CE) rfl cb148 rfl rfl (fun wx hm => (by rw [hCE]; exact classesFault_any cs A0 n0 c0 wx (hm.fact 0 rfl).1 hco (by omega))) ?_
 refine sg_ rfl (nn_ (sr_ (mv_ rfl (wl_ov (ov_neq rfl rfl) rfl (nn_ ?_)))))
 refine gw_cond rfl (fun hh => ?_) (fun hh => ?_)
 ·have h1 : ¬ (CE = 0) := by simpa using hh
  clear hh
  refine sr_ (mv_ rfl (sg_ rfl (nn_ ?_)))
  refine gw_ret ?_
  refine nx_then_ret ?_
  refine nx_ret1 rfl rfl fun wx hm => ?_
  exact ⟨ret_int (by rw [stock_cls (by rw [← hCE]; simpa using h1), ← hCE]), hm.g⟩
 have h1 : CE = 0 := by simpa using hh
 clear hh
 refine gw_skip (nx_then (gw_seq (sr_ ?_)))
 have h0 : classesE cs = 0 := hCE.symm.trans (by simpa using h1)
 refine mv_ rfl (wl_ov (ov_len es75 rfl) rfl ?_)
 refine wl_ov (ov_gtr rfl rfl) rfl ?_
 refine nn_ ?_
 refine gw_cond rfl (fun hh => ?_) (fun hh => ?_)
 ·have h30 : 30 < ((n1 : Nat) : Int) := by simpa using hh
  clear hh
  refine sr_ (sg_ rfl (nn_ ?_))
  refine gw_ret ?_
  refine nx_then_ret ?_
  refine nx_ret1 rfl rfl fun wx hm => ?_
  exact ⟨ret_int (by rw [stock_large h0 (by omega)]), hm.g⟩
 have h30 : ¬ (30 < ((n1 : Nat) : Int)) := by simpa using hh
 clear hh
 refine gw_skip (nx_then (sr_ ?_))
 have hse : stockE cs sl = scanE (skE cs) none sl := stock_scan h0 (by omega)
 refine sg_ rfl (nn_ (gw_seq (sr_ (mv_ rfl (wl_ov (ov_len es75 rfl) rfl (mv_ rfl (nn_ (gw_block ?_))))))))
 refine gw_loop (γ := Nat) (fun (k : Nat) => k ≤ n1 ∧ scanE (skE cs) none sl = scanE (skE cs) (prevOf sl k) (sl.drop k)) (fun (k : Nat) => [(0, .slice A0 n0 c0), (6, .string (prevSk sl k)), (17, .slice A1 n1 c1), (18, .int .i64 ((n1 : Nat) : Int)), (19, .int .i64 ((k : Nat) : Int))]) (fun (k : Nat) => fun _ => True) (fun (k : Nat) => []) (fun (k : Nat) => []) (fun (k : Nat) => [SlOld csEnc 2 158 w.heap.size none A0 n0 cs, SlOld skEnc 2 211 w.heap.size none A1 n1 sl]) (fun (k : Nat) => n1 - k) 0 ⟨Nat.zero_le _, rfl⟩ ⟨rfl, rfl, rfl, rfl, rfl, trivial⟩ (fun _ hm => hm.pick [] [] [0, 1] rfl rfl) ?_
 intro k hinv
 replace hinv : k ≤ n1 ∧ scanE (skE cs) none sl = scanE (skE cs) (prevOf sl k) (sl.drop k) := hinv
 refine sr_ (wl_ov (ov_lss rfl rfl) rfl (nn_ (gw_seq ?_)))
 refine gw_cond rfl (fun hh => ?_) (fun hh => ?_)
 ·have hk : ((k : Nat) : Int) < ((n1 : Nat) : Int) := by simpa using hh
  clear hh
  refine gw_skip (nx_then (gw_seq (gw_block (sr_ ?_))))
  obtain ⟨b, off, hA, _, _⟩ := hs.get (by omega)
  subst hA
  obtain ⟨x, hx⟩ : ∃ x, sl[k]? = some x := ⟨_, List.getElem?_eq_getElem (by omega)⟩
  obtain ⟨ke, mn⟩ := x
  have hat := scanE_at (skE cs) sl k _ hx
  refine wl_ov (ov_index (j := k) es75 rfl rfl (by omega)) rfl ?_
  refine wl_ov (ov_elem (vs := [.string ke, .int .i64 mn]) rz211 rfl (fun _ hm => (hm.fact 1 rfl).1) hx rfl rfl) rfl ?_
  refine wl_alloc zc211 rfl fun g1 => ?_
  refine wl_stores (cs' := [.string ke, .int .i64 mn]) 0 rz211 rfl rfl rfl rfl rfl rfl rfl rfl ?_
  refine nn_ (gw_seq (gw_block (sr_ (mv_ rfl (fd_ fo211_0 rfl rfl (lk_ sc9 0 rfl rfl rfl ?_))))))
  refine wl_callv rfl cb153 rfl rfl (fun wx hm => (rClassAt_any cs A0 n0 c0 ke wx (hm.fact 0 rfl).1 (by omega))) ?_
  refine wl_ov (ov_lss rfl rfl) rfl (sg_ rfl (nn_ ?_))
  refine gw_cond rfl (fun hh => ?_) (fun hh => ?_)
  ·have h2 : ixP (csP ke) cs 0 < 0 := by simpa using hh
   clear hh
   refine sr_ ?_
   have hb : noB cs ke = true := by unfold noB; exact decide_eq_true h2
   refine sg_ rfl (nn_ ?_)
   refine gw_ret ?_
   refine nx_blk_ret (nx_then_ret (nx_blk_ret (nx_then_ret (nx_then_ret (nx_blk_ret (nx_then_ret ?_))))))
   have hE : skE cs (prevOf sl k) ⟨ke, mn⟩ = 8 := by unfold skE; simp [hb]
   refine nx_ret1 rfl rfl fun wx hm => ?_
   exact ⟨ret_int (by rw [hse, hinv.2, hat, if_neg (by rw [hE]; decide), hE]), hm.g⟩
  have h2 : ¬ (ixP (csP ke) cs 0 < 0) := by simpa using hh
  clear hh
  refine sr_ ?_
  have hb : noB cs ke = false := by unfold noB; exact decide_eq_false h2
  have hkb : keyB ke = true := no_key h0 hb
  refine fd_ fo211_0 rfl rfl (lk_ sc9 0 rfl rfl rfl (mv_ rfl ?_))
  refine wl_ov (ov_sleq rfl rfl) rfl ?_
  refine sg_ rfl (nn_ ?_)
  refine gw_cond rfl (fun hh => ?_) (fun hh => ?_)
  ·have h9 : (Op.bytesLess ke.toList (prevSk sl k).toList || ke.toList == (prevSk sl k).toList) = true := by simpa using hh
   clear hh
   refine sr_ ?_
   have hO : leSk (prevOf sl k) ⟨ke, mn⟩ = true := (prevSk_le (b := ⟨ke, mn⟩) hkb).symm.trans h9
   refine sg_ rfl (nn_ ?_)
   refine gw_ret ?_
   refine nx_blk_ret (nx_then_ret (nx_blk_ret (nx_then_ret (nx_then_ret (nx_blk_ret (nx_then_ret ?_))))))
   have hE : skE cs (prevOf sl k) ⟨ke, mn⟩ = 7 := by unfold skE; simp [hb, hO]
   refine nx_ret1 rfl rfl fun wx hm => ?_
   exact ⟨ret_int (by rw [hse, hinv.2, hat, if_neg (by rw [hE]; decide), hE]), hm.g⟩
  have h9 : (Op.bytesLess ke.toList (prevSk sl k).toList || ke.toList == (prevSk sl k).toList) = false := by simpa using hh
  clear hh
  refine sr_ ?_
  have hO : leSk (prevOf sl k) ⟨ke, mn⟩ = false := (prevSk_le (b := ⟨ke, mn⟩) hkb).symm.trans h9
  refine fd_ fo211_1 rfl rfl (lk_ sc3 0 rfl rfl rfl ?_)
  refine wl_callw rfl cb154 rfl rfl (fun wx hm => (rin_any _ _ _ wx)) ?_
  refine wl_ov (ov_un_not rfl) rfl (sg_ rfl (nn_ ?_))
  refine gw_cond rfl (fun hh => ?_) (fun hh => ?_)
  ·have h3 : (inB mn 0 100) = false := by simpa using hh
   clear hh
   refine sr_ (sg_ rfl (nn_ ?_))
   refine gw_ret ?_
   refine nx_blk_ret (nx_then_ret (nx_blk_ret (nx_then_ret (nx_then_ret (nx_blk_ret (nx_then_ret ?_))))))
   have hE : skE cs (prevOf sl k) ⟨ke, mn⟩ = 1 := by unfold skE; simp [hb, hO, h3]
   refine nx_ret1 rfl rfl fun wx hm => ?_
   exact ⟨ret_int (by rw [hse, hinv.2, hat, if_neg (by rw [hE]; decide), hE]), hm.g⟩
  have h3 : (inB mn 0 100) = true := by simpa using hh
  clear hh
  refine gw_skip (nx_blk_nrm (nx_then (gw_region ?_)))
  have hE : skE cs (prevOf sl k) ⟨ke, mn⟩ = 0 := by unfold skE; simp [hb, hO, h3]
  refine fd_ fo211_0 rfl rfl (lk_ sc9 0 rfl rfl rfl (sg_ rfl (wl_nil (nx_blk_nrm (nx_then (gw_region (ad_ rfl rfl (mv_ rfl (wl_nil ?_)))))))))
  exact nx_round (k + 1) ⟨by omega, by rw [hinv.2, hat, if_pos hE]⟩ (by omega) ⟨rfl, (congrArg (fun z => some (Value.string z)) (prevSk_succ hx).symm), rfl, rfl, (some_int (by omega)), trivial⟩ (fun _ hm => hm.pick [] [] [0, 1] rfl rfl)
 have hk : ¬ (((k : Nat) : Int) < ((n1 : Nat) : Int)) := by simpa using hh
 clear hh
 refine gw_exit ?_
 refine nx_then_exit (nx_then_exit ?_)
 refine nx_blk_here ?_
 refine nx_then (sr_ (sg_ rfl (nn_ ?_)))
 refine gw_ret ?_
 refine nx_ret1 rfl rfl fun wx hm => ?_
 exact ⟨ret_int (by rw [hse, hinv.2, scanE_end _ _ _ _ (by omega)]), hm.g⟩
theorem checkAll_any (cs : List Cs) (A0 : Option Addr) (n0 c0 : Nat) (sl : List Sk) (A1 : Option Addr) (n1 c1 : Nat) (l : List Bk) (A : Option Addr) (n c : Nat) (w : World) (hcs : SlT csEnc 2 158 w A0 n0 cs) (hco : ∀ x ∈ cs, CsOk x) (hn0 : n0 ≤ 1000) (hs : SlT skEnc 2 211 w A1 n1 sl) (hso : ∀ x ∈ sl, SkOk x) (hn1 : n1 ≤ 1000) (hl : SlT bkEnc 6 92 w A n l) (hok : ∀ x ∈ l, BkOk x) (hn : n ≤ 1000) :
  Calls Tryz.prog 124 #[.slice A0 n0 c0, .slice A1 n1 c1, .slice A n c] w (GotE w (firstE [stockE cs sl, checkE cs l])) := by
 refine gw_enter ⟨15, w, none, []⟩ Tryz.func124 rfl Tryz.ntmps124 rfl (mem0 (X := [SlOld csEnc 2 158 w.heap.size none A0 n0 cs, SlOld skEnc 2 211 w.heap.size none A1 n1 sl, SlOld bkEnc 6 92 w.heap.size none A n l]) (allF_cons hcs.old (allF_cons hs.old (allF_cons hl.old allF_nil))) (allL_cons SlOld.lasts (allL_cons SlOld.lasts (allL_cons SlOld.lasts allL_nil)))) ?_
 refine sr_ ?_
 obtain ⟨SE, hSE⟩ : ∃ E, E = stockE cs sl := ⟨_, rfl⟩
 obtain ⟨KE, hKE⟩ : ∃ E, E = checkE cs l := ⟨_, rfl⟩
 refine sg_ rfl (nn_ (sr_ (mv_ rfl (mv_ rfl ?_))))
 refine wl_callv (v := .int .i64 SE) rfl cb219 rfl rfl (fun wx hm => (by rw [hSE]; exact checkStock_any cs A0 n0 c0 sl A1 n1 c1 wx (hm.fact 0 rfl).1 hco hn0 (hm.fact 1 rfl).1 hso hn1)) ?_
 refine mv_ rfl (mv_ rfl ?_)
 refine wl_callv (v := .int .i64 KE) rfl cb141 rfl rfl (fun wx hm => (by rw [hKE]; exact bcheck_any cs A0 n0 c0 l A n c wx (hm.fact 0 rfl).1 hco hn0 (hm.fact 2 rfl).1 hok hn)) ?_
 refine wl_buildSlice (e := 33) (cs := [.int .i64 SE, .int .i64 KE]) rfl (by kernel_rfl) rfl fun g1 => ?_
 refine wl_callw rfl cb67 rfl rfl (fun wx hm => (first_any [SE, KE] _ _ _ wx (hm.blkI 0 rfl) (by simp))) ?_
 refine sg_ rfl (nn_ ?_)
 refine gw_ret ?_
 refine nx_ret1 rfl rfl fun wx hm => ?_
 exact ⟨ret_int (by rw [hSE, hKE]), hm.g⟩
theorem many_any (sl : List Sk) (A1 : Option Addr) (n1 c1 : Nat) (k : ByteArray) (w : World) (hs : SlT skEnc 2 211 w A1 n1 sl) (_hso : ∀ x ∈ sl, SkOk x) (hn1 : n1 ≤ 1000) :
  Calls Tryz.prog 158 #[.slice A1 n1 c1, .string k] w (GotE w (manyV sl k)) := by
 refine gw_enter ⟨20, w, none, []⟩ Tryz.func158 rfl Tryz.ntmps158 rfl (mem0 (X := [SlOld skEnc 2 211 w.heap.size none A1 n1 sl]) (allF_cons hs.old allF_nil) (allL_cons SlOld.lasts allL_nil)) ?_
 refine sr_ ?_
 have hlen := hs.len
 refine sg_ rfl (nn_ (gw_seq (sr_ (mv_ rfl (wl_ov (ov_len es75 rfl) rfl (mv_ rfl (nn_ (gw_block ?_))))))))
 refine gw_loop (γ := Nat) (fun (i : Nat) => i ≤ n1 ∧ manyV sl k = manyV (sl.drop i) k) (fun (i : Nat) => [(1, .string k), (7, .slice A1 n1 c1), (8, .int .i64 ((n1 : Nat) : Int)), (9, .int .i64 ((i : Nat) : Int))]) (fun (i : Nat) => fun _ => True) (fun (i : Nat) => []) (fun (i : Nat) => []) (fun (i : Nat) => [SlOld skEnc 2 211 w.heap.size none A1 n1 sl]) (fun (i : Nat) => n1 - i) 0 ⟨Nat.zero_le _, rfl⟩ ⟨rfl, rfl, rfl, rfl, trivial⟩ (fun _ hm => hm.pick [] [] [0] rfl rfl) ?_
 intro i hinv
 replace hinv : i ≤ n1 ∧ manyV sl k = manyV (sl.drop i) k := hinv
 refine sr_ (wl_ov (ov_lss rfl rfl) rfl (nn_ (gw_seq ?_)))
 refine gw_cond rfl (fun hh => ?_) (fun hh => ?_)
 ·have hi : ((i : Nat) : Int) < ((n1 : Nat) : Int) := by simpa using hh
  clear hh
  refine gw_skip (nx_then (gw_seq (gw_block (sr_ ?_))))
  obtain ⟨b, off, hA, _, _⟩ := hs.get (by omega)
  subst hA
  obtain ⟨x, hx⟩ : ∃ x, sl[i]? = some x := ⟨_, List.getElem?_eq_getElem (by omega)⟩
  obtain ⟨ke, mn⟩ := x
  have hat := manyV_at (k := k) hx
  refine wl_ov (ov_index (j := i) es75 rfl rfl (by omega)) rfl ?_
  refine wl_ov (ov_elem (vs := [.string ke, .int .i64 mn]) rz211 rfl (fun _ hm => (hm.fact 0 rfl).1) hx rfl rfl) rfl ?_
  refine wl_alloc zc211 rfl fun g1 => ?_
  refine wl_stores (cs' := [.string ke, .int .i64 mn]) 0 rz211 rfl rfl rfl rfl rfl rfl rfl rfl ?_
  refine nn_ (sr_ (fd_ fo211_0 rfl rfl (lk_ sc9 0 rfl rfl rfl (mv_ rfl (wl_ov (ov_seql rfl rfl) rfl (nn_ ?_))))))
  refine gw_cond rfl (fun hh => ?_) (fun hh => ?_)
  ·have hq : (ke.toList == k.toList) = true := by simpa using hh
   clear hh
   refine sr_ (fd_ fo211_1 rfl rfl (lk_ sc3 0 rfl rfl rfl (sg_ rfl (nn_ ?_))))
   refine gw_ret ?_
   refine nx_blk_ret (nx_then_ret (nx_then_ret (nx_blk_ret (nx_then_ret ?_))))
   refine nx_ret1 rfl rfl fun wx hm => ?_
   exact ⟨ret_int (by rw [hinv.2, hat, if_pos hq]), hm.g⟩
  have hq : (ke.toList == k.toList) = false := by simpa using hh
  clear hh
  refine gw_skip (nx_blk_nrm (nx_then (gw_region (ad_ rfl rfl (mv_ rfl (wl_nil ?_))))))
  exact nx_round (i + 1) ⟨by omega, by rw [hinv.2, hat, if_neg (by rw [hq]; decide)]⟩ (by omega) ⟨rfl, rfl, rfl, (some_int (by omega)), trivial⟩ (fun _ hm => hm.pick [] [] [0] rfl rfl)
 have hi : ¬ (((i : Nat) : Int) < ((n1 : Nat) : Int)) := by simpa using hh
 clear hh
 refine gw_exit ?_
 refine nx_then_exit (nx_then_exit ?_)
 refine nx_blk_here ?_
 refine nx_then (sr_ (sg_ rfl (nn_ ?_)))
 refine gw_ret ?_
 refine nx_ret1 rfl rfl fun wx hm => ?_
 exact ⟨ret_int (by rw [hinv.2, manyV_end (by omega)]), hm.g⟩
theorem manyOf_any (sl : List Sk) (A1 : Option Addr) (n1 c1 : Nat) (k : ByteArray) (w : World) (hs : SlT skEnc 2 211 w A1 n1 sl) (_hso : ∀ x ∈ sl, SkOk x) (hn1 : n1 ≤ 1000) :
  Calls Tryz.prog 223 #[.slice A1 n1 c1, .string k] w (GotE w (manyV sl k)) := by
 refine gw_enter ⟨20, w, none, []⟩ Tryz.func223 rfl Tryz.ntmps223 rfl (mem0 (X := [SlOld skEnc 2 211 w.heap.size none A1 n1 sl]) (allF_cons hs.old allF_nil) (allL_cons SlOld.lasts allL_nil)) ?_
 refine sr_ ?_
 have hlen := hs.len
 refine sg_ rfl (nn_ (gw_seq (sr_ (mv_ rfl (wl_ov (ov_len es75 rfl) rfl (mv_ rfl (nn_ (gw_block ?_))))))))
 refine gw_loop (γ := Nat) (fun (i : Nat) => i ≤ n1 ∧ manyV sl k = manyV (sl.drop i) k) (fun (i : Nat) => [(1, .string k), (7, .slice A1 n1 c1), (8, .int .i64 ((n1 : Nat) : Int)), (9, .int .i64 ((i : Nat) : Int))]) (fun (i : Nat) => fun _ => True) (fun (i : Nat) => []) (fun (i : Nat) => []) (fun (i : Nat) => [SlOld skEnc 2 211 w.heap.size none A1 n1 sl]) (fun (i : Nat) => n1 - i) 0 ⟨Nat.zero_le _, rfl⟩ ⟨rfl, rfl, rfl, rfl, trivial⟩ (fun _ hm => hm.pick [] [] [0] rfl rfl) ?_
 intro i hinv
 replace hinv : i ≤ n1 ∧ manyV sl k = manyV (sl.drop i) k := hinv
 refine sr_ (wl_ov (ov_lss rfl rfl) rfl (nn_ (gw_seq ?_)))
 refine gw_cond rfl (fun hh => ?_) (fun hh => ?_)
 ·have hi : ((i : Nat) : Int) < ((n1 : Nat) : Int) := by simpa using hh
  clear hh
  refine gw_skip (nx_then (gw_seq (gw_block (sr_ ?_))))
  obtain ⟨b, off, hA, _, _⟩ := hs.get (by omega)
  subst hA
  obtain ⟨x, hx⟩ : ∃ x, sl[i]? = some x := ⟨_, List.getElem?_eq_getElem (by omega)⟩
  obtain ⟨ke, mn⟩ := x
  have hat := manyV_at (k := k) hx
  refine wl_ov (ov_index (j := i) es75 rfl rfl (by omega)) rfl ?_
  refine wl_ov (ov_elem (vs := [.string ke, .int .i64 mn]) rz211 rfl (fun _ hm => (hm.fact 0 rfl).1) hx rfl rfl) rfl ?_
  refine wl_alloc zc211 rfl fun g1 => ?_
  refine wl_stores (cs' := [.string ke, .int .i64 mn]) 0 rz211 rfl rfl rfl rfl rfl rfl rfl rfl ?_
  refine nn_ (sr_ (fd_ fo211_0 rfl rfl (lk_ sc9 0 rfl rfl rfl (mv_ rfl (wl_ov (ov_seql rfl rfl) rfl (nn_ ?_))))))
  refine gw_cond rfl (fun hh => ?_) (fun hh => ?_)
  ·have hq : (ke.toList == k.toList) = true := by simpa using hh
   clear hh
   refine sr_ (fd_ fo211_1 rfl rfl (lk_ sc3 0 rfl rfl rfl (sg_ rfl (nn_ ?_))))
   refine gw_ret ?_
   refine nx_blk_ret (nx_then_ret (nx_then_ret (nx_blk_ret (nx_then_ret ?_))))
   refine nx_ret1 rfl rfl fun wx hm => ?_
   exact ⟨ret_int (by rw [hinv.2, hat, if_pos hq]), hm.g⟩
  have hq : (ke.toList == k.toList) = false := by simpa using hh
  clear hh
  refine gw_skip (nx_blk_nrm (nx_then (gw_region (ad_ rfl rfl (mv_ rfl (wl_nil ?_))))))
  exact nx_round (i + 1) ⟨by omega, by rw [hinv.2, hat, if_neg (by rw [hq]; decide)]⟩ (by omega) ⟨rfl, rfl, rfl, (some_int (by omega)), trivial⟩ (fun _ hm => hm.pick [] [] [0] rfl rfl)
 have hi : ¬ (((i : Nat) : Int) < ((n1 : Nat) : Int)) := by simpa using hh
 clear hh
 refine gw_exit ?_
 refine nx_then_exit (nx_then_exit ?_)
 refine nx_blk_here ?_
 refine nx_then (sr_ (sg_ rfl (nn_ ?_)))
 refine gw_ret ?_
 refine nx_ret1 rfl rfl fun wx hm => ?_
 exact ⟨ret_int (by rw [hinv.2, manyV_end (by omega)]), hm.g⟩
end Go.Proofs.YtempjmpfdniecaaGreatDoor
namespace Go.Proofs.YtempjmpfdniecaaGreatDoor
open Go.RowKit
theorem b_ne_self (a : ByteArray) : (!(a.toList == a.toList)) = false := by simp
theorem i_ne_self (a : Int) : (!decide (a = a)) = false := by simp
theorem nan_string (a : ByteArray) (w : World) : Calls Tryz.prog 184 #[.string a] w (fun e w' => e = .returned (.bool false) ∧ w.grownBy w' none) := by
 refine gw_enter ⟨6, w, none, []⟩ Tryz.func184 rfl Tryz.ntmps184 rfl (mem0 (X := []) allF_nil allL_nil) ?_
 refine sr_ (sg_ rfl (nn_ (sr_ (mv_ rfl (mv_ rfl (wl_ov (ov_sneq rfl rfl) rfl ?_))))))
 refine wl_set 5 (v' := .bool false) rfl (congrArg Value.bool (b_ne_self a)) ?_
 refine sg_ rfl (nn_ ?_)
 refine gw_ret ?_
 refine nx_ret1 rfl rfl fun wx hm => ?_
 exact ⟨rfl, hm.g⟩
theorem cmp_string (a b : ByteArray) (w : World) : Calls Tryz.prog 84 #[.string a, .string b] w (fun e w' => e = .returned (.int .i64 (cmpS a b)) ∧ w.grownBy w' none) := by
 refine gw_enter ⟨20, w, none, []⟩ Tryz.func84 rfl Tryz.ntmps84 rfl (mem0 (X := []) allF_nil allL_nil) ?_
 refine sr_ (sg_ rfl (nn_ (sr_ (mv_ rfl ?_))))
 refine wl_callv rfl cb184 rfl rfl (fun wx hm => (nan_string _ wx)) ?_
 refine sg_ rfl (nn_ (sr_ (mv_ rfl ?_)))
 refine wl_callv rfl cb184 rfl rfl (fun wx hm => (nan_string _ wx)) ?_
 refine sg_ rfl (nn_ (gw_seq (sr_ (mv_ rfl (nn_ (cf_ rfl (gw_skip (nx_then (gw_seq (gw_seq ?_))))))))))
 refine gw_region (mv_ rfl (nn_ (cf_ rfl (gw_skip (nx_then (gw_seq (sr_ (mv_ rfl (mv_ rfl ?_)))))))))
 refine wl_ov (ov_slss rfl rfl) rfl ?_
 refine nn_ ?_
 refine gw_cond rfl (fun hh => ?_) (fun hh => ?_)
 ·have h1 : (Op.bytesLess a.toList b.toList) = true := by simpa using hh
  clear hh
  refine sr_ (sg_ rfl ?_)
  refine wl_set 4 (v' := .int .i64 (-1)) rfl rfl ?_
  refine nn_ ?_
  refine gw_ret ?_
  refine nx_then_ret ?_
  refine nx_ret1 rfl rfl fun wx hm => ?_
  refine ⟨?_, hm.g⟩
  unfold cmpS; rw [if_pos h1]
 have h1 : (Op.bytesLess a.toList b.toList) = false := by simpa using hh
 clear hh
 refine gw_skip (nx_then (gw_seq (sr_ (mv_ rfl (mv_ rfl ?_)))))
 refine wl_ov (ov_sgtr rfl rfl) rfl ?_
 refine nn_ ?_
 refine gw_cond rfl (fun hh => ?_) (fun hh => ?_)
 ·have h2 : (Op.bytesLess a.toList b.toList || a.toList == b.toList) = false := by simpa only [Bool.not_eq_true', Bool.not_eq_false'] using hh
  clear hh
  refine sr_ (sg_ rfl (nn_ ?_))
  refine gw_ret ?_
  refine nx_then_ret ?_
  refine nx_ret1 rfl rfl fun wx hm => ?_
  refine ⟨?_, hm.g⟩
  unfold cmpS; rw [if_neg (by rw [h1]; decide), if_pos h2]
 have h2 : (Op.bytesLess a.toList b.toList || a.toList == b.toList) = true := by simpa only [Bool.not_eq_true', Bool.not_eq_false'] using hh
 clear hh
 refine gw_skip (nx_then (sr_ (sg_ rfl (nn_ ?_))))
 refine gw_ret ?_
 refine nx_ret1 rfl rfl fun wx hm => ?_
 refine ⟨?_, hm.g⟩
 unfold cmpS; rw [if_neg (by rw [h1]; decide), if_neg (by rw [h2]; decide)]
theorem nan_int (a : Int) (w : World) : Calls Tryz.prog 183 #[.int .i64 a] w (fun e w' => e = .returned (.bool false) ∧ w.grownBy w' none) := by
 refine gw_enter ⟨6, w, none, []⟩ Tryz.func183 rfl Tryz.ntmps183 rfl (mem0 (X := []) allF_nil allL_nil) ?_
 refine sr_ (sg_ rfl (nn_ (sr_ (mv_ rfl (mv_ rfl (wl_ov (ov_neq rfl rfl) rfl ?_))))))
 refine wl_set 5 (v' := .bool false) rfl (congrArg Value.bool (i_ne_self a)) ?_
 refine sg_ rfl (nn_ ?_)
 refine gw_ret ?_
 refine nx_ret1 rfl rfl fun wx hm => ?_
 exact ⟨rfl, hm.g⟩
theorem cmp_int (a b : Int) (w : World) : Calls Tryz.prog 83 #[.int .i64 a, .int .i64 b] w (fun e w' => e = .returned (.int .i64 (cmpI a b)) ∧ w.grownBy w' none) := by
 refine gw_enter ⟨20, w, none, []⟩ Tryz.func83 rfl Tryz.ntmps83 rfl (mem0 (X := []) allF_nil allL_nil) ?_
 refine sr_ (sg_ rfl (nn_ (sr_ (mv_ rfl ?_))))
 refine wl_callv rfl cb183 rfl rfl (fun wx hm => (nan_int _ wx)) ?_
 refine sg_ rfl (nn_ (sr_ (mv_ rfl ?_)))
 refine wl_callv rfl cb183 rfl rfl (fun wx hm => (nan_int _ wx)) ?_
 refine sg_ rfl (nn_ (gw_seq (sr_ (mv_ rfl (nn_ (cf_ rfl (gw_skip (nx_then (gw_seq (gw_seq ?_))))))))))
 refine gw_region (mv_ rfl (nn_ (cf_ rfl (gw_skip (nx_then (gw_seq (sr_ (mv_ rfl (mv_ rfl (wl_ov (ov_lss rfl rfl) rfl (wl_nil ?_)))))))))))
 refine nx_then ?_
 refine gw_cond rfl (fun hh => ?_) (fun hh => ?_)
 ·have h1 : a < b := by simpa using hh
  clear hh
  refine sr_ (sg_ rfl ?_)
  refine wl_set 4 (v' := .int .i64 (-1)) rfl rfl ?_
  refine nn_ ?_
  refine gw_ret ?_
  refine nx_then_ret ?_
  refine nx_ret1 rfl rfl fun wx hm => ?_
  refine ⟨?_, hm.g⟩
  unfold cmpI; rw [if_pos h1]
 have h1 : ¬ (a < b) := by simpa using hh
 clear hh
 refine gw_skip (nx_then (gw_seq (sr_ (mv_ rfl (mv_ rfl ?_)))))
 refine wl_ov (ov_gtr rfl rfl) rfl ?_
 refine nn_ ?_
 refine gw_cond rfl (fun hh => ?_) (fun hh => ?_)
 ·have h2 : b < a := by simpa using hh
  clear hh
  refine sr_ (sg_ rfl (nn_ ?_))
  refine gw_ret ?_
  refine nx_then_ret ?_
  refine nx_ret1 rfl rfl fun wx hm => ?_
  refine ⟨?_, hm.g⟩
  unfold cmpI; rw [if_neg h1, if_pos h2]
 have h2 : ¬ (b < a) := by simpa using hh
 clear hh
 refine gw_skip (nx_then (sr_ (sg_ rfl (nn_ ?_))))
 refine gw_ret ?_
 refine nx_ret1 rfl rfl fun wx hm => ?_
 refine ⟨?_, hm.g⟩
 unfold cmpI; rw [if_neg h1, if_neg h2]
end Go.Proofs.YtempjmpfdniecaaGreatDoor
namespace Go.Proofs.YtempjmpfdniecaaGreatDoor
open Go.RowKit
/-- Whether two times have a moment in common. -/
def meetW (a b c d : Int) : Bool := decide (a < d) && decide (c < b)
def meetB (x y : Bk) : Bool := meetW x.fr x.to_ y.fr y.to_
def sgnI (z : Int) : Int := if z < 0 then -1 else if 0 < z then 1 else 0
theorem sgn_cmp (a b : Int) : sgnI (a - b) = cmpI a b := by
  unfold sgnI cmpI
  by_cases h1 : a < b
  · rw [if_pos (by omega), if_pos h1]
  · by_cases h2 : b < a
    · rw [if_neg (by omega), if_pos (by omega), if_neg h1, if_pos h2]
    · rw [if_neg (by omega), if_neg (by omega), if_neg h1, if_neg h2]
theorem meet_any (a b c d : Int) (w : World) :
  Calls Tryz.prog 161 #[.agg #[.int .i64 a, .int .i64 b], .agg #[.int .i64 c, .int .i64 d]] w (fun e w' => e = .returned (.bool (meetW a b c d)) ∧ w.grownBy w' none) := by
 refine gw_enter ⟨17, w, none, []⟩ Tryz.func161 rfl Tryz.ntmps161 rfl (mem0 (X := []) allF_nil allL_nil) ?_
 refine sr_ ?_
 refine wl_box rfl rfl rfl fun g1 => ?_
 refine wl_box rfl rfl rfl fun g2 => ?_
 refine sg_ rfl (nn_ (sr_ (fd_ fo27_0 rfl rfl (lk_ sc3 1 rfl rfl rfl (fd_ fo27_1 rfl rfl (lk_ sc3 0 rfl rfl rfl (wl_ov (ov_lss rfl rfl) rfl (mv_ rfl ?_))))))))
 rcases Bool.eq_false_or_eq_true (decide (a < d)) with h1 | h1
 ·refine wl_set 10 rfl (congrArg Value.bool h1) ?_
  refine wl_guard_on rfl rfl rfl (fd_ fo27_0 rfl rfl (wl_guard_on rfl rfl rfl (lk_ sc3 0 rfl rfl rfl (wl_guard_on rfl rfl rfl (fd_ fo27_1 rfl rfl (wl_guard_on rfl rfl rfl (lk_ sc3 1 rfl rfl rfl (wl_guard_on rfl rfl rfl (wl_ov (ov_lss rfl rfl) rfl (pt_ rfl rfl (sg_ rfl (nn_ ?_))))))))))))
  refine gw_ret ?_
  refine nx_ret1 rfl rfl fun wx hm => ?_
  exact ⟨by unfold meetW; simp [h1], hm.g⟩
 refine wl_set 10 rfl (congrArg Value.bool h1) ?_
 refine goff rfl rfl rfl (goff rfl rfl rfl (goff rfl rfl rfl (goff rfl rfl rfl (goff rfl rfl rfl (pf_ rfl rfl (sg_ rfl (nn_ ?_)))))))
 refine gw_ret ?_
 refine nx_ret1 rfl rfl fun wx hm => ?_
 exact ⟨by unfold meetW; simp [h1], hm.g⟩
theorem rmeet_any (a b c d : Int) (w : World) (hab : a < b) (hcd : c < d) :
  Calls Tryz.prog 224 #[.agg #[.int .i64 a, .int .i64 b], .agg #[.int .i64 c, .int .i64 d]] w (fun e w' => e = .returned (.bool (meetW a b c d)) ∧ w.grownBy w' none) := by
 refine gw_enter ⟨16, w, none, []⟩ Tryz.func224 rfl Tryz.ntmps224 rfl (mem0 (X := []) allF_nil allL_nil) ?_
 refine sr_ ?_
 refine wl_box rfl rfl rfl fun g1 => ?_
 refine wl_box rfl rfl rfl fun g2 => ?_
 refine sg_ rfl (nn_ (sr_ (fd_ fo27_0 rfl rfl (lk_ sc3 1 rfl rfl rfl (fd_ fo27_0 rfl rfl (lk_ sc3 0 rfl rfl rfl ?_))))))
 refine wl_ov (ov_max rfl rfl) rfl ?_
 refine fd_ fo27_1 rfl rfl (lk_ sc3 1 rfl rfl rfl (fd_ fo27_1 rfl rfl (lk_ sc3 0 rfl rfl rfl ?_)))
 refine wl_ov (ov_min rfl rfl) rfl ?_
 refine wl_ov (ov_lss rfl rfl) rfl (sg_ rfl (nn_ ?_))
 refine gw_ret ?_
 refine nx_ret1 rfl rfl fun wx hm => ?_
 refine ⟨?_, hm.g⟩
 refine congrArg (fun z => Ending.returned (.bool z)) ?_
 unfold meetW
 rw [Bool.eq_iff_iff]
 simp only [Bool.and_eq_true, decide_eq_true_eq]
 omega
theorem sign_any (z : Int) (w : World) : Calls Tryz.prog 86 #[.int .i64 z] w (fun e w' => e = .returned (.int .i64 (sgnI z)) ∧ w.grownBy w' none) := by
 refine gw_enter ⟨9, w, none, []⟩ Tryz.func86 rfl Tryz.ntmps86 rfl (mem0 (X := []) allF_nil allL_nil) ?_
 refine sr_ (sg_ rfl (nn_ (gw_seq (gw_block (sr_ (mv_ rfl (wl_ov (ov_lss rfl rfl) rfl (sg_ rfl (nn_ ?_)))))))))
 refine gw_cond rfl (fun hh => ?_) (fun hh => ?_)
 ·have h1 : z < 0 := by simpa using hh
  clear hh
  refine sr_ (sg_ rfl ?_)
  refine wl_set 2 (v' := .int .i64 (-1)) rfl rfl ?_
  refine nn_ ?_
  refine gw_ret ?_
  refine nx_blk_ret (nx_then_ret ?_)
  refine nx_ret1 rfl rfl fun wx hm => ?_
  exact ⟨by unfold sgnI; rw [if_pos h1], hm.g⟩
 have h1 : ¬ (z < 0) := by simpa using hh
 clear hh
 refine sr_ (mv_ rfl ?_)
 refine wl_ov (ov_gtr rfl rfl) rfl ?_
 refine sg_ rfl (nn_ ?_)
 refine gw_cond rfl (fun hh => ?_) (fun hh => ?_)
 ·have h2 : 0 < z := by simpa using hh
  clear hh
  refine sr_ (sg_ rfl (nn_ ?_))
  refine gw_ret ?_
  refine nx_blk_ret (nx_then_ret ?_)
  refine nx_ret1 rfl rfl fun wx hm => ?_
  exact ⟨by unfold sgnI; rw [if_neg (by omega), if_pos (by omega)], hm.g⟩
 have h2 : ¬ (0 < z) := by simpa using hh
 clear hh
 refine gw_skip (nx_blk_nrm (nx_then (sr_ (sg_ rfl (nn_ ?_)))))
 refine gw_ret ?_
 refine nx_ret1 rfl rfl fun wx hm => ?_
 exact ⟨by unfold sgnI; rw [if_neg (by omega), if_neg (by omega)], hm.g⟩
end Go.Proofs.YtempjmpfdniecaaGreatDoor
namespace Go.Proofs.YtempjmpfdniecaaGreatDoor
open Go.RowKit
section
variable {α : Type}
def sink (lt : α → α → Bool) : Nat → List α → List α
  | 0, l => l
  | j + 1, l => match l[j + 1]?, l[j]? with
    | some x, some y => if lt x y then sink lt j ((l.set (j + 1) y).set j x) else l
    | _, _ => l
def isortF (lt : α → α → Bool) : Nat → Nat → List α → List α
  | 0, _, l => l
  | f + 1, i, l => isortF lt f (i + 1) (sink lt i l)
def isort (lt : α → α → Bool) (l : List α) : List α := isortF lt (l.length - 1) 1 l
theorem sink_yes {lt : α → α → Bool} {j : Nat} {l : List α} {x y : α} (hx : l[j + 1]? = some x) (hy : l[j]? = some y) (h : lt x y = true) : sink lt (j + 1) l = sink lt j ((l.set (j + 1) y).set j x) := by
  simp only [sink, hx, hy, h, if_true]
theorem sink_no {lt : α → α → Bool} {j : Nat} {l : List α} {x y : α} (hx : l[j + 1]? = some x) (hy : l[j]? = some y) (h : lt x y = false) : sink lt (j + 1) l = l := by
  simp only [sink, hx, hy, h, Bool.false_eq_true, if_false]
theorem sink_len (lt : α → α → Bool) : ∀ (j : Nat) (l : List α), (sink lt j l).length = l.length
  | 0, _ => rfl
  | j + 1, l => by
    unfold sink
    split
    · split
      · rw [sink_len lt j]; simp
      · rfl
    · rfl
theorem isortF_len (lt : α → α → Bool) : ∀ (f i : Nat) (l : List α), (isortF lt f i l).length = l.length
  | 0, _, _ => rfl
  | f + 1, i, l => by
    unfold isortF
    rw [isortF_len lt f, sink_len]
theorem isort_len (lt : α → α → Bool) (l : List α) : (isort lt l).length = l.length := isortF_len lt _ _ _
theorem swap_perm {l : List α} {j : Nat} {x y : α} (hx : l[j + 1]? = some x) (hy : l[j]? = some y) : ((l.set (j + 1) y).set j x).Perm l := by
  obtain ⟨h1, rfl⟩ := List.getElem?_eq_some_iff.1 hx
  obtain ⟨h2, rfl⟩ := List.getElem?_eq_some_iff.1 hy
  have e : l = l.take j ++ l[j] :: l[j + 1] :: l.drop (j + 2) := by
    conv => lhs; rw [← List.take_append_drop j l, List.drop_eq_getElem_cons h2, List.drop_eq_getElem_cons h1]
  have hl : (l.take j).length = j := by simp; omega
  have e2 : (l.set (j + 1) l[j]).set j l[j + 1] = l.take j ++ l[j + 1] :: l[j] :: l.drop (j + 2) := by
    refine List.ext_getElem? fun k => ?_
    rw [List.getElem?_set, List.length_set, List.getElem?_set]
    rcases Nat.lt_trichotomy k j with hk | rfl | hk
    · rw [if_neg (by omega), if_neg (by omega), List.getElem?_append_left (by rw [hl]; exact hk), List.getElem?_take, if_pos hk]
    · rw [if_pos rfl, if_pos h2, List.getElem?_append_right (by omega), hl, Nat.sub_self]; rfl
    · rw [if_neg (by omega), List.getElem?_append_right (by omega), hl]
      rcases Nat.lt_trichotomy k (j + 1) with h3 | rfl | h3
      · omega
      · rw [if_pos rfl, if_pos h1, show j + 1 - j = 1 by omega]; rfl
      · rw [if_neg (by omega), show k - j = (k - (j + 2)) + 2 by omega]
        simp only [List.getElem?_cons_succ, List.getElem?_drop]
        congr 1; omega
  rw [e2]
  conv => rhs; rw [e]
  exact List.Perm.append_left _ (List.Perm.swap _ _ _)
theorem sink_perm (lt : α → α → Bool) : ∀ (j : Nat) (l : List α), (sink lt j l).Perm l
  | 0, _ => List.Perm.refl _
  | j + 1, l => by
    unfold sink
    split
    · rename_i x y hx hy
      split
      · exact (sink_perm lt j _).trans (swap_perm hx hy)
      · exact List.Perm.refl _
    · exact List.Perm.refl _
theorem isortF_perm (lt : α → α → Bool) : ∀ (f i : Nat) (l : List α), (isortF lt f i l).Perm l
  | 0, _, _ => List.Perm.refl _
  | f + 1, i, l => (isortF_perm lt f (i + 1) _).trans (sink_perm lt i l)
theorem isort_perm (lt : α → α → Bool) (l : List α) : (isort lt l).Perm l := isortF_perm lt _ _ _
theorem mem_in {lt : α → α → Bool} {l0 R S m : List α} {f i j : Nat} (hR : R = isort lt l0) (hF : isortF lt f i S = R) (hS : sink lt j m = S) {z : α} (hz : z ∈ m) : z ∈ l0 := by
  have h1 : z ∈ S := by rw [← hS]; exact (sink_perm lt j m).mem_iff.2 hz
  have h2 : z ∈ R := by rw [← hF]; exact (isortF_perm lt f i S).mem_iff.2 h1
  rw [hR] at h2
  exact (isort_perm lt l0).mem_iff.1 h2
theorem isort_mem {lt : α → α → Bool} {l : List α} {x : α} : x ∈ isort lt l ↔ x ∈ l := (isort_perm lt l).mem_iff
end
section
variable {P : Program} {c : Cx} {ops : Array Oper} {Q : Exit → Act → World → Prop} {rest : List Oper} {S : List (Nat × Value)} {K : World → Prop} {L : List (Nat × TypeId × List Value)} {O : List Own} {X : List (World → Prop)} {d : Nat} {ty : TypeId} {pos : String} {aft : Array Edge}
theorem memR {n0 : Nat} {Tt : List TypeId} {w : World} {base : Nat} {e : TypeId} {sz n cap g : Nat} {xs : List Value} (hS : w.ownsRow base e sz (.slice (some ⟨g, 0, none⟩) n cap) n xs) (hX : ∀ A ∈ X, A w) (hl : ∀ A ∈ X, Lasts2 w.heap.size (some g) Tt A) : Mem ⟨n0, w, some g, Tt⟩ (RowK base e sz n cap g xs) [] [] X w :=
  have hS2 : RowK base e sz n cap g xs w := hS
  ⟨World.grownBy.refl _ _, hS2, (fun _ hx => by cases hx), List.Pairwise.nil, (fun _ hx => by cases hx), (fun _ hx => by cases hx), List.Pairwise.nil, hX, RowK.keeps hS2.lt.2, hl, (fun _ hr => by cases hr; exact hS2.lt.2)⟩
/-- The row has turned. -/
theorem Mem.turned {base g n cap sz : Nat} {e : TypeId} {xs xs' : List Value} {w w' : World} (h : Mem c (RowK base e sz n cap g xs) L O X w) (hrow : c.row = some g) (hT : c.Tt.contains e = false) (hown : w'.ownsRow base e sz (.slice (some ⟨g, 0, none⟩) n cap) n xs') (hg : w.grownBy w' (some g)) : Mem c (RowK base e sz n cap g xs') L O X w' := by
  have hlt0 := h.rs g hrow
  have hk : w.ownsRow base e sz (.slice (some ⟨g, 0, none⟩) n cap) n xs := h.k
  obtain ⟨cells, hcells⟩ : ∃ cells, w.heap[g]? = some (.cells cells e (0, 0)) := by
    rcases hk.2 with ⟨h1, _⟩ | ⟨g', cap', cur, h1, _, h2, _⟩
    · cases h1
    · injection h1 with h1 _ _
      injection h1 with h1
      injection h1 with h1 _ _
      subst h1
      exact ⟨_, h2⟩
  refine ⟨grow_trans h.g (hrow ▸ hg), hown, fun x hx => ⟨(h.b x hx).1, (h.b x hx).2.grown hg (fun e => ?_)⟩, h.nd, fun r hr => (h.o r hr).kept hg ?_, h.od, h.oo, fun A hA => ?_, RowK.keeps hlt0, h.l, h.rs⟩
  · have := (h.b x hx).1; injection e with e; omega
  · cases hv : r.v.ownBlock with
    | none => exact .inl rfl
    | some g' => exact .inr (fun e => by have := ((h.o r hr).lt g' hv).1; injection e with e; omega)
  · exact (h.l A hA).st w _ g e cells hcells (fun e => by simp [e] at hT) (.inr hrow) hg (h.x A hA)
theorem wl_storesRow {α : Type} {enc : α → List Value} {t : TypeId} {x y : Operand} {base g n cap sz o j r m : Nat} {e : TypeId} {vs : List Value} {l : List α} {el el' : α} (hrow : c.row = some g) (hs : rowSz P t = some m) (hx : rd S x = some (.pointer (some ⟨g, o, none⟩))) (hy : rd S y = some (.agg vs.toArray)) (h1 : vs.all (·.oneCell') = true) (hn : vs.length = m)
    (hk : ∀ x, (enc x).length = sz) (ho : 0 + j * sz + r = o) (hj : l[j]? = some el) (hl : l.length = n) (hr : r + m ≤ sz) (he : splice (enc el) r vs = enc el') (hT : c.Tt.contains e = false)
    (h : WL P c ops Q rest S (RowK base e sz n cap g ((l.set j el').flatMap enc)) L O X) : WL P c ops Q (⟨none, .store t x y, ty, pos, aft, none⟩ :: rest) S (RowK base e sz n cap g (l.flatMap enc)) L O X := by
  intro a w ha hm
  have hown : w.ownsRow base e sz (.slice (some ⟨g, 0, none⟩) n cap) n (l.flatMap enc) := hm.k
  have hjl := (List.getElem?_eq_some_iff.1 hj).1
  have hlt : o + m ≤ n * sz := by
    have : (j + 1) * sz ≤ n * sz := Nat.mul_le_mul_right sz (by omega)
    rw [Nat.add_mul] at this
    omega
  obtain ⟨dd, hu, _, hi⟩ := run_row hs
  rcases hown.2 with ⟨h', _⟩ | ⟨g', cap', cur, h', hb, hg, hnc, hcm, hcs, htake⟩
  · simp at h'
  · simp only [Value.slice.injEq, Option.some.injEq, Addr.mk.injEq, and_true, true_and] at h'
    obtain ⟨rfl, rfl⟩ := h'
    have hbk : Blk w g e cur.toList := by unfold Blk; rw [Array.toArray_toList]; exact hg
    have hcl : n * sz ≤ cur.toList.length := by
      have := Nat.mul_le_mul_right sz hnc
      simp [hcs]; exact this
    refine wpList_store_blk rfl t x y rfl g o e cur.toList vs hbk (ha.eval hx) (ha.eval hy) m hi hn (by omega) (by simpa using h1) fun w' hb' hgr => ?_
    have hsl := splice_length cur.toList o vs (by omega)
    have hfl := flat_len enc sz hk (l.set j el')
    rw [List.length_set, hl] at hfl
    refine h _ _ ⟨ha.size, ha.val, ha.df⟩ (hm.turned hrow hT ⟨hfl, .inr ⟨g, cap, (splice cur.toList o vs).toArray, rfl, hb, hb', hnc, hcm, by simpa [hsl] using hcs, ?_⟩⟩ hgr)
    rw [List.toList_toArray, own_take_splice hcl (by omega), htake, ← ho, Nat.zero_add, own_flat_splice enc sz hk hj he (by omega)]
/-- A call that turns the row. -/
theorem wl_callK {f : FuncId} {x : Operand} {ags : List Operand} {ats : Array TypeId} {vs fs cs : List Value} {v : Value} {base g n cap sz : Nat} {e : TypeId} {xs xs' : List Value} (hrow : c.row = some g) (hT : c.Tt.contains e = false) (hx : rd S x = some (.func (.func f) fs.toArray cs.toArray)) (hf : callableB P f = true) (ha : evArgs S ags = some vs) (hd : Nat.ble (d + 1) c.n = true)
    (hC : ∀ w, Mem c (RowK base e sz n cap g xs) L O X w → Calls P f (fs ++ vs ++ cs).toArray w (fun e1 w' => e1 = .returned v ∧ w'.ownsRow base e sz (.slice (some ⟨g, 0, none⟩) n cap) n xs' ∧ w.grownBy w' (some g))) (h : WL P c ops Q rest ((d, v) :: S) (RowK base e sz n cap g xs') L O X) :
    WL P c ops Q (⟨some d, .call ⟨.value x, ags.toArray, ats⟩, ty, pos, aft, none⟩ :: rest) S (RowK base e sz n cap g xs) L O X :=
  wl_callG (γ := Unit) (val := fun _ => v) (φ := fun _ => True) (K' := fun _ => RowK base e sz n cap g xs') (L' := fun _ => L) (O' := fun _ => O) (X' := fun _ => X) hx hf ha hd (fun w hm => (hC w hm).mono fun _ _ ⟨he, ho, hg⟩ => ⟨(), he, trivial, hm.turned hrow hT ho hg⟩) (fun _ _ => h)
end
/-- A call on a row of the call's own ends by the row's contract. -/
theorem fin_row {base : Nat} {e : TypeId} {sz n cap g : Nat} {xs : List Value} {w0 w : World} (hk : RowK base e sz n cap g xs w) (hg : w0.grownBy w (some g)) : w.ownsRow base e sz (.slice (some ⟨g, 0, none⟩) n cap) n xs ∧ w0.grownBy w (some g) := ⟨hk, hg⟩
end Go.Proofs.YtempjmpfdniecaaGreatDoor
namespace Go.Proofs.YtempjmpfdniecaaGreatDoor
open Go.RowKit
theorem bk_one : ∀ (x : Bk), ∀ v ∈ bkEnc x, v.oneCell' = true := fun x v hv => by
  unfold bkEnc at hv
  simp only [List.mem_cons, List.not_mem_nil, or_false] at hv
  rcases hv with rfl | rfl | rfl | rfl | rfl | rfl <;> rfl
end Go.Proofs.YtempjmpfdniecaaGreatDoor
namespace Go.Proofs.YtempjmpfdniecaaGreatDoor
open Go.RowKit
theorem booking_info : ∃ i z, Tryz.prog.info? 92 = some i ∧ i.zero = some z ∧ i.size = 6 ∧ i.bytes = 64 ∧ z.cells.size = 6 := info_parts (by kernel_rfl)
set_option maxRecDepth 100000 in
set_option maxHeartbeats 1000000 in
theorem cloneBks_pos (l : List Bk) (A : Option Addr) (n c : Nat) (w : World) (hl : SlT bkEnc 6 92 w A n l) (hn0 : 0 < n) (hn : n ≤ 1000000) :
    Calls Tryz.prog 144 #[.slice A n c] w (fun e w' => ∃ A' c', e = .returned (.slice A' n c') ∧ w'.ownsRow w.heap.size 92 6 (.slice A' n c') n (l.flatMap bkEnc) ∧ w.grownBy w' none) := by
  obtain ⟨b, off, rfl, hbl, hfl⟩ := hl.flat bk_len hn0
  have hlen := hl.len
  obtain ⟨i0, z0, hi, hz, hsz, hby, hzs⟩ := booking_info
  have hnews : ∀ (o : Obj) j u, (l.flatMap bkEnc)[j]? = some u → (w.alloc o).cell? ((⟨b, off, none⟩ : Addr).add j) = some u := fun o j u hj =>
    (World.cell?_of_block (Below.heap_alloc w o _ (by unfold Addr.add; split <;> exact hbl))).trans (hfl j u hj)
  have hone := flat_one bkEnc bk_one l
  have hll := flat_len bkEnc 6 bk_len l
  rw [hlen] at hll
  clear hfl hl
  have Hnews := Lib.hid hnews
  clear hnews
  have he : ∀ w : World, (binOp .eql 76 (.slice (some ⟨b, off, none⟩) n c) (.slice none 0 0)).run Tryz.prog w = .ok (.bool false) w := fun _ => rfl
  go_enter Tryz.func144, Tryz.ntmps144
  go_wp2_with (at_builtin; refine wpList_append_own_at _ rfl _ _ 76 rfl w.heap.size 92 i0 z0 6 64 Tryz.underlying76 hi hz hsz hby hzs (by decide) (.slice (some ⟨w.heap.size, 0, none⟩) 0 0) 0 [] rfl ⟨rfl, .inr ⟨w.heap.size, 0, #[], rfl, Nat.le_refl _, heap_alloc_new w _, Nat.le_refl _, by decide, rfl, rfl⟩⟩ ⟨b, off, none⟩ n c (l.flatMap bkEnc) rfl hll (Hnews.out _) hone (by unfold maxLen; omega) (by omega) (by simp) ?_; intro v' w' hown hgrow hnil hat)
  rw [Nat.zero_add, List.nil_append] at hown
  have hown2 := hown
  obtain ⟨_, ho⟩ := hown2
  rcases ho with ⟨_, h0⟩ | ⟨g, cap, cur, rfl, hg, _⟩
  · omega
  · go_ret
    exact ⟨some ⟨g, 0, none⟩, cap, rfl, hown, grow_own (grow_alloc (World.grownBy.refl _ _) _) hgrow (fun k h => by cases h; exact Nat.le_refl _)⟩
set_option maxRecDepth 100000 in
set_option maxHeartbeats 1000000 in
theorem cloneBks_empty (a : Addr) (c : Nat) (w : World) :
    Calls Tryz.prog 144 #[.slice (some a) 0 c] w (fun e w' => ∃ A' c', e = .returned (.slice A' 0 c') ∧ w'.ownsRow w.heap.size 92 6 (.slice A' 0 c') 0 [] ∧ w.grownBy w' none) := by
  obtain ⟨i0, z0, hi, hz, hsz, hby, hzs⟩ := booking_info
  have he : ∀ w : World, (binOp .eql 76 (.slice (some a) 0 c) (.slice none 0 0)).run Tryz.prog w = .ok (.bool false) w := fun _ => rfl
  go_enter Tryz.func144, Tryz.ntmps144
  go_wp2_with (at_builtin; refine wpList_append_own_at _ rfl _ _ 76 rfl w.heap.size 92 i0 z0 6 64 Tryz.underlying76 hi hz hsz hby hzs (by decide) (.slice (some ⟨w.heap.size, 0, none⟩) 0 0) 0 [] rfl ⟨rfl, .inr ⟨w.heap.size, 0, #[], rfl, Nat.le_refl _, heap_alloc_new w _, Nat.le_refl _, by decide, rfl, rfl⟩⟩ a 0 c [] rfl rfl (fun j u hj => by simp at hj) (fun v hv => by cases hv) (by unfold maxLen; omega) (by omega) (by simp) ?_; intro v' w' hown hgrow hnil hat)
  rw [Nat.zero_add, List.nil_append] at hown
  have hown2 := hown
  obtain ⟨_, ho⟩ := hown2
  rcases ho with ⟨rfl, _⟩ | ⟨g, cap, cur, rfl, hg, _⟩
  · go_ret
    exact ⟨none, 0, rfl, hown, grow_own (grow_alloc (World.grownBy.refl _ _) _) hgrow (fun k h => by cases h; exact Nat.le_refl _)⟩
  · go_ret
    exact ⟨some ⟨g, 0, none⟩, cap, rfl, hown, grow_own (grow_alloc (World.grownBy.refl _ _) _) hgrow (fun k h => by cases h; exact Nat.le_refl _)⟩
set_option maxRecDepth 100000 in
set_option maxHeartbeats 400000 in
theorem cloneBks_nil (c : Nat) (w : World) : Calls Tryz.prog 144 #[.slice none 0 c] w (fun e w' => e = .returned (.slice none 0 0) ∧ w = w') := by
  have he : ∀ w : World, (binOp .eql 76 (.slice none 0 c) (.slice none 0 0)).run Tryz.prog w = .ok (.bool true) w := fun _ => rfl
  go_enter Tryz.func144, Tryz.ntmps144
  go_wp2_with fail
  go_ret
  exact ⟨rfl, rfl⟩
theorem cloneBks_any (l : List Bk) (A : Option Addr) (n c : Nat) (w : World) (hl : SlT bkEnc 6 92 w A n l) (hn : n ≤ 1000000) :
    Calls Tryz.prog 144 #[.slice A n c] w (fun e w' => ∃ A' c', e = .returned (.slice A' n c') ∧ w'.ownsRow w.heap.size 92 6 (.slice A' n c') n (l.flatMap bkEnc) ∧ w.grownBy w' none) := by
  by_cases h0 : n = 0
  · subst h0
    have hl0 : l = [] := List.length_eq_zero_iff.1 hl.len
    subst hl0
    cases A with
    | none => exact (cloneBks_nil c w).mono fun e w' ⟨he, hw⟩ => ⟨none, 0, he, ⟨rfl, .inl ⟨rfl, rfl⟩⟩, hw ▸ World.grownBy.refl _ _⟩
    | some a => exact cloneBks_empty a c w
  · exact cloneBks_pos l A n c w hl (by omega) hn
end Go.Proofs.YtempjmpfdniecaaGreatDoor
namespace Go.Proofs
open Go.Shelf
def Tryz.lays125_ren : Go.Shelf.Ren := ⟨fun | 125 => 195 | 128 => 262 | 129 => 263 | n => n, fun | 46 => 247 | 3 => 3 | 51 => 298 | 53 => 300 | 4 => 4 | 5 => 5 | 9 => 9 | n => n, fun | n => n⟩
theorem Tryz.lays125 : Go.Proofs.Lays.n125 Tryz.prog Tryz.lays125_ren := {
  mixed := by kernel_rfl
  f125 := Tryz.func195.trans (congrArg some (by kernel_rfl))
  f128 := Tryz.func262.trans (congrArg some (by kernel_rfl))
  f129 := Tryz.func263.trans (congrArg some (by kernel_rfl))
  t3 := Tryz.underlying3
  a3 := Tryz.isAgg3
  z3 := Tryz.sizeOf3
  v3 := Tryz.zeroValue3
  t4 := Tryz.underlying4
  a4 := Tryz.isAgg4
  z4 := Tryz.sizeOf4
  v4 := Tryz.zeroValue4
  t5 := Tryz.underlying5
  a5 := Tryz.isAgg5
  z5 := Tryz.sizeOf5
  v5 := Tryz.zeroValue5
  t9 := Tryz.underlying9
  a9 := Tryz.isAgg9
  z9 := Tryz.sizeOf9
  v9 := Tryz.zeroValue9
  t46 := Tryz.underlying247
  a46 := Tryz.isAgg247
  z46 := Tryz.sizeOf247
  v46 := Tryz.zeroValue247
  t51 := Tryz.underlying298
  a51 := Tryz.isAgg298
  z51 := Tryz.sizeOf298
  v51 := Tryz.zeroValue298
  t53 := Tryz.underlying300
  a53 := Tryz.isAgg300
  z53 := Tryz.sizeOf300
  v53 := Tryz.zeroValue300 }
end Go.Proofs
namespace Go.Proofs
open Go.Shelf
def Tryz.lays106_ren : Go.Shelf.Ren := ⟨fun | 106 => 87 | 213 => 185 | 265 => 252 | n => n, fun | 9 => 9 | 3 => 3 | n => n, fun | n => n⟩
theorem Tryz.lays106 : Go.Proofs.Lays.n106 Tryz.prog Tryz.lays106_ren := {
  mixed := by kernel_rfl
  f106 := Tryz.func87.trans (congrArg some (by kernel_rfl))
  f213 := Tryz.func185.trans (congrArg some (by kernel_rfl))
  f265 := Tryz.func252.trans (congrArg some (by kernel_rfl))
  t3 := Tryz.underlying3
  a3 := Tryz.isAgg3
  z3 := Tryz.sizeOf3
  v3 := Tryz.zeroValue3
  t9 := Tryz.underlying9
  a9 := Tryz.isAgg9
  z9 := Tryz.sizeOf9
  v9 := Tryz.zeroValue9 }
end Go.Proofs
namespace Go.Proofs.YtempjmpfdniecaaGreatDoor
open Go.RowKit
theorem cmpB_eq : ∀ a b : List UInt8, Lib.compareBytes a b = if Go.Op.bytesLess a b = true then -1 else if (Go.Op.bytesLess a b || a == b) = false then 1 else 0
  | [], [] => rfl
  | [], b :: y => by simp [Lib.compareBytes, Go.Op.bytesLess]
  | a :: x, [] => by simp [Lib.compareBytes, Go.Op.bytesLess]
  | a :: x, b :: y => by
    have ih := cmpB_eq x y
    unfold Lib.compareBytes Go.Op.bytesLess
    by_cases h1 : a < b
    · simp [h1]
    · by_cases h2 : b < a
      · have h3 : ¬ a = b := fun e => by subst e; exact h1 h2
        simp [h1, h2, h3]
      · have h3 : a = b := by
          rcases Decidable.em (a = b) with h | h
          · exact h
          · rcases UInt8.lt_or_lt_of_ne h with h | h
            · exact absurd h h1
            · exact absurd h h2
        subst h3
        simp only [h1, if_false, ih, decide_false, Bool.false_or, beq_self_eq_true, Bool.true_and, List.cons_beq_cons]
theorem strCompare_any (a b : ByteArray) (w : World) : Calls Tryz.prog 87 #[.string a, .string b] w (fun e w' => e = .returned (.int .i64 (cmpS a b)) ∧ w.grownBy w' none) := by
  have hcon := Any.strings_Compare Tryz.lays106 a b w
  refine Calls.mono hcon ?_
  rintro e w' ⟨rfl, rfl⟩
  refine ⟨?_, World.grownBy.refl _ _⟩
  unfold cmpS
  rw [cmpB_eq, ByteArray.toList_eq, ByteArray.toList_eq]
theorem bitsLen_any (n : Nat) (w : World) (hn : n ≤ 1000000) : Calls Tryz.prog 195 #[.int .u64 ((n : Nat) : Int)] w (fun e w' => ∃ v : Int, e = .returned (.int .i64 v) ∧ w.grownBy w' none) := by
  have hcon := Any.bits_Len Tryz.lays125 ((n : Nat) : Int) w (by omega) (by omega)
  refine Calls.mono hcon ?_
  rintro e w' ⟨rfl, rfl⟩
  exact ⟨_, rfl, World.grownBy.refl _ _⟩
end Go.Proofs.YtempjmpfdniecaaGreatDoor
namespace Go.Proofs.YtempjmpfdniecaaGreatDoor
open Go.RowKit
section
variable {P : Program} {nn : Nat} {S : List (Nat × Value)} {Z : World → Prop} {d : Nat} {ty : TypeId} {pos : String} {aft : Array Edge}
def kindTy (P : Program) (t : TypeId) : Option IntKind :=
  match P.underlying t with
  | some (.int k) => some k
  | _ => none
theorem kindTy_u {t : TypeId} {k : IntKind} (h : kindTy P t = some k) : P.underlying t = some (.int k) := by
  unfold kindTy at h
  cases hu : P.underlying t with
  | none => simp [hu] at h
  | some dd => cases dd <;> simp [hu] at h <;> simp [h]
theorem ov_u64 {s t : TypeId} {k : IntKind} {x : Operand} {a : Nat} (hs : kindTy P s = some .i64) (ht : kindTy P t = some .u64) (hx : rd S x = some (.int k (a : Int))) (ha : a ≤ 9223372036854775807) : OV P nn S Z ⟨some d, .convert s t x, ty, pos, aft, none⟩ (.int .u64 (a : Int)) := fun b w hb hm => by
  have h1 : IntKind.u64.wrap (a : Int) = (a : Int) := by rw [IntKind.wrap_u64]; omega
  have hk : P.intKind t = .u64 := by simp [Program.intKind, kindTy_u ht]
  have h2 := run_convert_int (P := P) w s t k (a : Int) (by rw [kindTy_u hs]; rfl) (by rw [hk]; exact kindTy_u ht)
  rw [hk, h1] at h2
  simp [execOp, hb.eval hx, h2]
end
end Go.Proofs.YtempjmpfdniecaaGreatDoor
namespace Go.Proofs.YtempjmpfdniecaaGreatDoor
open Go.RowKit
structure Gv where
  bk : ByteArray
  cls : ByteArray
  unit : Int
def gvEnc (x : Gv) : List Value := [.string x.bk, .string x.cls, .int .i64 x.unit]
theorem gv_len (x : Gv) : (gvEnc x).length = 3 := rfl
theorem gv_one : ∀ (x : Gv), ∀ v ∈ gvEnc x, v.oneCell' = true := fun x v hv => by
  unfold gvEnc at hv
  simp only [List.mem_cons, List.not_mem_nil, or_false] at hv
  rcases hv with rfl | rfl | rfl <;> rfl
end Go.Proofs.YtempjmpfdniecaaGreatDoor
namespace Go.Proofs.YtempjmpfdniecaaGreatDoor
open Go.RowKit
def kyLt (x y : Bk) : Bool := decide (cmpS x.key y.key < 0)
/-- Bookings and one more, by their keys. -/
def withB (l : List Bk) (b : Bk) : List Bk := isort kyLt (l ++ [b])
theorem withB_len (l : List Bk) (b : Bk) : (withB l b).length = l.length + 1 := by
  unfold withB
  rw [isort_len]; simp
theorem withB_mem {l : List Bk} {b x : Bk} : x ∈ withB l b ↔ x ∈ l ∨ x = b := by
  unfold withB
  rw [isort_mem]; simp
theorem with1_ky (x0 x1 y0 y1 : ByteArray) (x2 x3 x4 x5 y2 y3 y4 y5 : Int) (w : World) :
  Calls Tryz.prog 230 #[.agg #[.string x0, .string x1, .int .i64 x2, .int .i64 x3, .int .i64 x4, .int .i64 x5], .agg #[.string y0, .string y1, .int .i64 y2, .int .i64 y3, .int .i64 y4, .int .i64 y5]] w (fun e w' => e = .returned (.int .i64 (cmpS x0 y0)) ∧ w.grownBy w' none) := by
 refine gw_enter ⟨10, w, none, []⟩ Tryz.func230 rfl Tryz.ntmps230 rfl (mem0 (X := []) allF_nil allL_nil) ?_
 refine sr_ ?_
 refine wl_box rfl rfl rfl fun g1 => ?_
 refine wl_box rfl rfl rfl fun g2 => ?_
 refine sg_ rfl (nn_ (sr_ (fd_ fo92_0 rfl rfl (lk_ sc9 1 rfl rfl rfl (fd_ fo92_0 rfl rfl (lk_ sc9 0 rfl rfl rfl ?_))))))
 refine wl_callv rfl cb84 rfl rfl (fun wx hm => (cmp_string _ _ wx)) ?_
 refine sg_ rfl (nn_ ?_)
 refine gw_ret ?_
 refine nx_ret1 rfl rfl fun wx hm => ?_
 exact ⟨rfl, hm.g⟩
theorem ins_ky  (l0 : List Bk) (br n cap base : Nat) (w : World) (h : w.ownsRow base 92 6 (.slice (some ⟨br, 0, none⟩) n cap) n (l0.flatMap bkEnc)) (hl0 : l0.length = n) (hn : n ≤ 1000000)  :
  Calls Tryz.prog 294 #[.slice (some ⟨br, 0, none⟩) n cap, .int .i64 0, .int .i64 ((n : Nat) : Int), .func (.func 230) #[] #[]] w (fun e w' => e = .returned (.tuple #[]) ∧ w'.ownsRow base 92 6 (.slice (some ⟨br, 0, none⟩) n cap) n ((isort (kyLt) l0).flatMap bkEnc) ∧ w.grownBy w' (some br)) := by
 obtain ⟨R, hR⟩ : ∃ z, z = isort (kyLt) l0 := ⟨_, rfl⟩
 rw [← hR]
 refine gw_enter ⟨53, w, (some br), []⟩ Tryz.func294 rfl Tryz.ntmps294 rfl (memR (X := []) h allF_nil allL_nil) ?_
 refine sr_ (mv_ rfl (ad_ rfl rfl ?_))
 refine wl_set 11 (v' := .int .i64 1) rfl rfl ?_
 refine sg_ rfl (nn_ (gw_block ?_))
 refine gw_loop (γ := Nat × List Bk) (fun gg => (1 ≤ gg.1 ∧ gg.1 ≤ n + 1) ∧ gg.2.length = n ∧ isortF (kyLt) (n - gg.1) gg.1 gg.2 = R) (fun gg => [(0, .slice (some ⟨br, 0, none⟩) n cap), (1, .int .i64 0), (2, .int .i64 ((n : Nat) : Int)), (3, .func (.func 230) #[] #[]), (8, .int .i64 ((gg.1 : Nat) : Int))]) (fun gg => RowK base 92 6 n cap br ((gg.2).flatMap bkEnc)) (fun gg => []) (fun gg => []) (fun gg => []) (fun gg => n + 1 - gg.1) (1, l0) ⟨⟨Nat.le_refl _, by omega⟩, hl0, by rw [hR]; unfold isort; rw [hl0]⟩ ⟨rfl, rfl, rfl, rfl, (some_int (by omega)), trivial⟩ (fun _ hm => hm.pick [] [] [] rfl rfl) ?_
 rintro ⟨i, l⟩ hinv
 replace hinv : (1 ≤ i ∧ i ≤ n + 1) ∧ l.length = n ∧ isortF (kyLt) (n - i) i l = R := hinv
 dsimp only
 refine gw_seq (sr_ ?_)
 obtain ⟨⟨hi1, hi2⟩, hl1, hR1⟩ := hinv
 refine mv_ rfl (mv_ rfl (wl_ov (ov_lss rfl rfl) rfl (nn_ ?_)))
 refine gw_cond rfl (fun hh => ?_) (fun hh => ?_)
 ·have hi : ((i : Nat) : Int) < ((n : Nat) : Int) := by simpa using hh
  clear hh
  refine gw_skip (nx_then (gw_seq (gw_block (sr_ ?_))))
  have hRi : isortF (kyLt) (n - (i + 1)) (i + 1) (sink (kyLt) i l) = R := by rw [← hR1, show n - i = (n - (i + 1)) + 1 by omega]; rfl
  obtain ⟨S, hS⟩ : ∃ z, z = sink (kyLt) i l := ⟨_, rfl⟩
  rw [← hS] at hRi
  have hSl : S.length = n := by rw [hS, sink_len]; exact hl1
  refine mv_ rfl (sg_ rfl (nn_ (gw_block ?_)))
  refine gw_loop (γ := Nat × List Bk) (fun gg => (gg.1 ≤ i) ∧ gg.2.length = n ∧ sink (kyLt) gg.1 gg.2 = S) (fun gg => [(0, .slice (some ⟨br, 0, none⟩) n cap), (1, .int .i64 0), (2, .int .i64 ((n : Nat) : Int)), (3, .func (.func 230) #[] #[]), (8, .int .i64 ((i : Nat) : Int)), (9, .int .i64 ((gg.1 : Nat) : Int))]) (fun gg => RowK base 92 6 n cap br ((gg.2).flatMap bkEnc)) (fun gg => []) (fun gg => []) (fun gg => []) (fun gg => gg.1) (i, l) ⟨Nat.le_refl _, hl1, hS.symm⟩ ⟨rfl, rfl, rfl, rfl, rfl, rfl, trivial⟩ (fun _ hm => hm.pick [] [] [] rfl rfl) ?_
  rintro ⟨jj, m⟩ hinv
  replace hinv : (jj ≤ i) ∧ m.length = n ∧ sink (kyLt) jj m = S := hinv
  dsimp only
  refine gw_seq (gw_seq ?_)
  obtain ⟨hj1, hm1, hS1⟩ := hinv
  rcases jj with _ | j
  ·refine gd (fun wz => True) mixed (fun _ _ => trivial) fun z => ?_
   refine wt 0 17 1 rfl z (ov_move rfl) ?_
   refine wa_set 18 (v' := .int .i64 0) rfl rfl ?_
   refine wt 1 17 3 rfl z (ov_move rfl) ?_
   refine wt 2 17 7 rfl z (ov_gtr rfl rfl) ?_
   refine wa_set 20 (v' := .bool false) rfl (congrArg Value.bool (by decide)) ?_
   refine wt 3 17 15 rfl z (ov_move rfl) ?_
   refine wtf 4 17 31 rfl rfl rfl z ?_
   refine wtf 5 17 63 rfl rfl rfl z ?_
   refine wtf 6 17 127 rfl rfl rfl z ?_
   refine wtf 7 17 255 rfl rfl rfl z ?_
   refine wtf 8 17 511 rfl rfl rfl z ?_
   refine wtf 9 17 1023 rfl rfl rfl z ?_
   refine wtf 10 17 2047 rfl rfl rfl z ?_
   refine wtf 11 17 4095 rfl rfl rfl z ?_
   refine wtf 12 17 8191 rfl rfl rfl z ?_
   refine wtf 13 17 16383 rfl rfl rfl z ?_
   refine wtf 14 17 32767 rfl rfl rfl z ?_
   refine wtf 15 17 65535 rfl rfl rfl z ?_
   refine wt 16 17 131071 rfl z (ov_pick_f rfl rfl) ?_
   refine wa_done (by kernel_rfl) ?_
   refine nx_then (cf_ rfl ?_)
   refine gw_exit ?_
   refine nx_then_exit (nx_then_exit ?_)
   refine nx_blk_here ?_
   refine nx_blk_nrm (nx_then (gw_region (mv_ rfl (ad_ rfl rfl (sg_ rfl (wl_nil ?_))))))
   have hm2 : m = S := hS1
   exact nx_round (i + 1, m) ⟨⟨by dsimp only; omega, by dsimp only; omega⟩, by rw [hm2]; exact hSl, by rw [hm2]; exact hRi⟩ (by dsimp only; omega) ⟨rfl, rfl, rfl, rfl, (some_int (by omega)), trivial⟩ (fun _ hm => hm.pick [] [] [] rfl rfl)
  have hj2 : j + 1 < n := by omega
  obtain ⟨xx, hx⟩ : ∃ x, m[j + 1]? = some x := ⟨_, List.getElem?_eq_getElem (by omega)⟩
  obtain ⟨x0, x1, x2, x3, x4, x5⟩ := xx
  obtain ⟨yy, hy⟩ : ∃ x, m[j]? = some x := ⟨_, List.getElem?_eq_getElem (by omega)⟩
  obtain ⟨y0, y1, y2, y3, y4, y5⟩ := yy
  refine gd (fun wz => (RowK base 92 6 n cap br ((m).flatMap bkEnc)) wz ∧ True) mixed (fun _ hm => ⟨hm.k, trivial⟩) fun z => ?_
  refine wt 0 17 1 rfl z (ov_move rfl) ?_
  refine wt 1 17 3 rfl z (ov_move rfl) ?_
  refine wt 2 17 7 rfl z (ov_gtr rfl rfl) ?_
  refine wa_set 20 (v' := .bool true) rfl (congrArg Value.bool (decide_eq_true (by omega))) ?_
  refine wt 3 17 15 rfl z (ov_move rfl) ?_
  refine wto 4 17 31 rfl rfl rfl z (ov_move rfl) ?_
  refine wto 5 17 63 rfl rfl rfl z (ov_move rfl) ?_
  refine wto 6 17 127 rfl rfl rfl z (ov_move rfl) ?_
  refine wto 7 17 255 rfl rfl rfl z (ov_index (j := (j + 1)) es76 rfl rfl (by omega)) ?_
  refine wto 8 17 511 rfl rfl rfl z (ov_elem (vs := [.string x0, .string x1, .int .i64 x2, .int .i64 x3, .int .i64 x4, .int .i64 x5]) rz92 rfl (fun _ hm => (RowK.get (hm.1) bk_len hm1)) hx rfl rfl) ?_
  refine wto 9 17 1023 rfl rfl rfl z (ov_move rfl) ?_
  refine wto 10 17 2047 rfl rfl rfl z (ov_move rfl) ?_
  refine wto 11 17 4095 rfl rfl rfl z (ov_sub rfl rfl (by omega) (by omega)) ?_
  refine wa_set 29 (v' := .int .i64 ((j : Nat) : Int)) rfl (congrArg (Value.int .i64) (by omega)) ?_
  refine wto 12 17 8191 rfl rfl rfl z (ov_index (j := j) es76 rfl rfl (by omega)) ?_
  refine wto 13 17 16383 rfl rfl rfl z (ov_elem (vs := [.string y0, .string y1, .int .i64 y2, .int .i64 y3, .int .i64 y4, .int .i64 y5]) rz92 rfl (fun _ hm => (RowK.get (hm.1) bk_len hm1)) hy rfl rfl) ?_
  refine wa1 14 rfl ?_
  refine wl_guard_on rfl rfl rfl ?_
  refine wl_callv rfl cb230 rfl rfl (fun wx hm => (with1_ky x0 x1 y0 y1 x2 x3 x4 x5 y2 y3 y4 y5 wx)) ?_
  refine wl_nil ?_
  refine nw 17 32767 (fun _ hm => ⟨hm.k, trivial⟩) fun z => ?_
  refine wto 15 17 65535 rfl rfl rfl z (ov_lss rfl rfl) ?_
  refine wt 16 17 131071 rfl z (ov_pick_t rfl rfl) ?_
  refine wa_done (by kernel_rfl) ?_
  refine nx_then ?_
  refine gw_cond rfl (fun hh => ?_) (fun hh => ?_)
  ·have hlt : cmpS x0 y0 < 0 := by simpa using hh
   clear hh
   refine gw_skip (nx_then (gw_seq (gw_block ?_)))
   have hlt2 : (kyLt) ⟨x0, x1, x2, x3, x4, x5⟩ ⟨y0, y1, y2, y3, y4, y5⟩ = true := decide_eq_true (show cmpS x0 y0 < 0 from hlt)
   have hS2 := (sink_yes hx hy hlt2).symm.trans hS1
   refine gd (fun wz => True) mixed (fun _ _ => trivial) fun z => ?_
   refine wt 0 18 1 rfl z (ov_move rfl) ?_
   refine wt 1 18 3 rfl z (ov_move rfl) ?_
   refine wt 2 18 7 rfl z (ov_move rfl) ?_
   refine wt 3 18 15 rfl z (ov_move rfl) ?_
   refine wt 4 18 31 rfl z (ov_sub rfl rfl (by omega) (by omega)) ?_
   refine wa_set 41 (v' := .int .i64 ((j : Nat) : Int)) rfl (congrArg (Value.int .i64) (by omega)) ?_
   refine wt 5 18 63 rfl z (ov_move rfl) ?_
   refine wt 6 18 127 rfl z (ov_move rfl) ?_
   refine wt 7 18 255 rfl z (ov_sub rfl rfl (by omega) (by omega)) ?_
   refine wa_set 44 (v' := .int .i64 ((j : Nat) : Int)) rfl (congrArg (Value.int .i64) (by omega)) ?_
   refine wt 8 18 511 rfl z (ov_index (j := j) es76 rfl rfl (by omega)) ?_
   refine wt 10 18 1535 rfl z (ov_move rfl) ?_
   refine wt 11 18 3583 rfl z (ov_move rfl) ?_
   refine wt 12 18 7679 rfl z (ov_index (j := (j + 1)) es76 rfl rfl (by omega)) ?_
   refine wa_all [9, 13] (by kernel_rfl) rfl ⟨⟨_, rfl, ?_⟩, ⟨_, rfl, ?_⟩, trivial⟩
   ·refine wl_ov (ov_elem (vs := [.string y0, .string y1, .int .i64 y2, .int .i64 y3, .int .i64 y4, .int .i64 y5]) rz92 rfl (fun _ hm => (RowK.get hm.k bk_len hm1)) hy rfl rfl) rfl ?_
    refine wl_nil ?_
    refine nw 18 8191 (fun _ _ => trivial) fun z => ?_
    refine wa1 13 rfl ?_
    refine wl_ov (ov_elem (vs := [.string x0, .string x1, .int .i64 x2, .int .i64 x3, .int .i64 x4, .int .i64 x5]) rz92 rfl (fun _ hm => (RowK.get hm.k bk_len hm1)) hx rfl rfl) rfl ?_
    refine wl_nil ?_
    refine nw 18 16383 (fun _ _ => trivial) fun z => ?_
    refine wt 14 18 32767 rfl z (ov_index (j := (j + 1)) es76 rfl rfl (by omega)) ?_
    refine wa1 15 rfl ?_
    refine wl_storesRow (l := m) (j := j + 1) (r := 0) (el := ⟨x0, x1, x2, x3, x4, x5⟩) (el' := ⟨y0, y1, y2, y3, y4, y5⟩) rfl rz92 rfl rfl rfl rfl bk_len rfl hx hm1 (by decide) rfl rfl ?_
    refine wl_nil ?_
    refine nw 18 65535 (fun _ _ => trivial) fun z => ?_
    refine wt 16 18 131071 rfl z (ov_index (j := j) es76 rfl rfl (by omega)) ?_
    refine wa1 17 rfl ?_
    refine wl_storesRow (l := m.set (j + 1) ⟨y0, y1, y2, y3, y4, y5⟩) (j := j) (r := 0) (el := ⟨y0, y1, y2, y3, y4, y5⟩) (el' := ⟨x0, x1, x2, x3, x4, x5⟩) rfl rz92 rfl rfl rfl rfl bk_len rfl (by rw [List.getElem?_set_ne (by omega)]; exact hy) (by rw [List.length_set]; exact hm1) (by decide) rfl rfl ?_
    refine wl_nil ?_
    refine nw 18 262143 (fun _ _ => trivial) fun z => ?_
    refine wa_done (by kernel_rfl) ?_
    refine nx_blk_nrm (nx_then (gw_region (mv_ rfl ?_)))
    refine wl_ov (ov_sub rfl rfl (by omega) (by omega)) rfl ?_
    refine wl_set 36 (v' := .int .i64 ((j : Nat) : Int)) rfl (congrArg (Value.int .i64) (by omega)) ?_
    refine sg_ rfl (wl_nil ?_)
    exact nx_round (j, (m.set (j + 1) ⟨y0, y1, y2, y3, y4, y5⟩).set j ⟨x0, x1, x2, x3, x4, x5⟩) ⟨by dsimp only; omega, by simp [hm1], hS2⟩ (by dsimp only; omega) ⟨rfl, rfl, rfl, rfl, rfl, (some_int (by omega)), trivial⟩ (fun _ hm => hm.pick [] [] [] rfl rfl)
   refine wl_ov (ov_elem (vs := [.string x0, .string x1, .int .i64 x2, .int .i64 x3, .int .i64 x4, .int .i64 x5]) rz92 rfl (fun _ hm => (RowK.get hm.k bk_len hm1)) hx rfl rfl) rfl ?_
   refine wl_nil ?_
   refine nw 18 15871 (fun _ _ => trivial) fun z => ?_
   refine wa1 9 rfl ?_
   refine wl_ov (ov_elem (vs := [.string y0, .string y1, .int .i64 y2, .int .i64 y3, .int .i64 y4, .int .i64 y5]) rz92 rfl (fun _ hm => (RowK.get hm.k bk_len hm1)) hy rfl rfl) rfl ?_
   refine wl_nil ?_
   refine nw 18 16383 (fun _ _ => trivial) fun z => ?_
   refine wt 14 18 32767 rfl z (ov_index (j := (j + 1)) es76 rfl rfl (by omega)) ?_
   refine wa1 15 rfl ?_
   refine wl_storesRow (l := m) (j := j + 1) (r := 0) (el := ⟨x0, x1, x2, x3, x4, x5⟩) (el' := ⟨y0, y1, y2, y3, y4, y5⟩) rfl rz92 rfl rfl rfl rfl bk_len rfl hx hm1 (by decide) rfl rfl ?_
   refine wl_nil ?_
   refine nw 18 65535 (fun _ _ => trivial) fun z => ?_
   refine wt 16 18 131071 rfl z (ov_index (j := j) es76 rfl rfl (by omega)) ?_
   refine wa1 17 rfl ?_
   refine wl_storesRow (l := m.set (j + 1) ⟨y0, y1, y2, y3, y4, y5⟩) (j := j) (r := 0) (el := ⟨y0, y1, y2, y3, y4, y5⟩) (el' := ⟨x0, x1, x2, x3, x4, x5⟩) rfl rz92 rfl rfl rfl rfl bk_len rfl (by rw [List.getElem?_set_ne (by omega)]; exact hy) (by rw [List.length_set]; exact hm1) (by decide) rfl rfl ?_
   refine wl_nil ?_
   refine nw 18 262143 (fun _ _ => trivial) fun z => ?_
   refine wa_done (by kernel_rfl) ?_
   refine nx_blk_nrm (nx_then (gw_region (mv_ rfl ?_)))
   refine wl_ov (ov_sub rfl rfl (by omega) (by omega)) rfl ?_
   refine wl_set 36 (v' := .int .i64 ((j : Nat) : Int)) rfl (congrArg (Value.int .i64) (by omega)) ?_
   refine sg_ rfl (wl_nil ?_)
   exact nx_round (j, (m.set (j + 1) ⟨y0, y1, y2, y3, y4, y5⟩).set j ⟨x0, x1, x2, x3, x4, x5⟩) ⟨by dsimp only; omega, by simp [hm1], hS2⟩ (by dsimp only; omega) ⟨rfl, rfl, rfl, rfl, rfl, (some_int (by omega)), trivial⟩ (fun _ hm => hm.pick [] [] [] rfl rfl)
  have hlt : ¬ (cmpS x0 y0 < 0) := by simpa using hh
  clear hh
  refine gw_exit ?_
  refine nx_then_exit (nx_then_exit ?_)
  refine nx_blk_here ?_
  refine nx_blk_nrm (nx_then (gw_region ?_))
  have hlt2 : (kyLt) ⟨x0, x1, x2, x3, x4, x5⟩ ⟨y0, y1, y2, y3, y4, y5⟩ = false := decide_eq_false (show ¬ cmpS x0 y0 < 0 from hlt)
  have hS2 := (sink_no hx hy hlt2).symm.trans hS1
  refine mv_ rfl (ad_ rfl rfl (sg_ rfl (wl_nil ?_)))
  have hm2 : m = S := hS2
  exact nx_round (i + 1, m) ⟨⟨by dsimp only; omega, by dsimp only; omega⟩, by rw [hm2]; exact hSl, by rw [hm2]; exact hRi⟩ (by dsimp only; omega) ⟨rfl, rfl, rfl, rfl, (some_int (by omega)), trivial⟩ (fun _ hm => hm.pick [] [] [] rfl rfl)
 have hi : ¬ (((i : Nat) : Int) < ((n : Nat) : Int)) := by simpa using hh
 clear hh
 refine gw_exit ?_
 refine nx_then_exit (nx_then_exit ?_)
 refine nx_blk_here ?_
 obtain rfl : l = R := by rw [← hR1, show n - i = 0 by omega]; rfl
 refine nx_ret0 rfl fun wx hm => ?_
 exact ⟨rfl, fin_row hm.k hm.g⟩
theorem pdq_ky  (l0 : List Bk) (br n cap base : Nat) (lim : Int) (w : World) (h : w.ownsRow base 92 6 (.slice (some ⟨br, 0, none⟩) n cap) n (l0.flatMap bkEnc)) (hl0 : l0.length = n) (hn : n ≤ 12)  :
  Calls Tryz.prog 284 #[.slice (some ⟨br, 0, none⟩) n cap, .int .i64 0, .int .i64 ((n : Nat) : Int), .int .i64 lim, .func (.func 230) #[] #[]] w (fun e w' => e = .returned (.tuple #[]) ∧ w'.ownsRow base 92 6 (.slice (some ⟨br, 0, none⟩) n cap) n ((isort (kyLt) l0).flatMap bkEnc) ∧ w.grownBy w' (some br)) := by
 refine gw_enter ⟨148, w, (some br), []⟩ Tryz.func284 rfl Tryz.ntmps284 rfl (memR (X := []) h allF_nil allL_nil) ?_
 refine sr_ (sg_ rfl (nn_ (sr_ (sg_ rfl (nn_ (gw_block ?_))))))
 refine gw_rounds 1 ?_
 refine gr_next ?_
 refine gw_block (sr_ (mv_ rfl (mv_ rfl ?_)))
 refine wl_ov (ov_sub rfl rfl (by omega) (by omega)) rfl ?_
 refine sg_ rfl (nn_ (gw_seq (sr_ (mv_ rfl (wl_ov (ov_leq rfl rfl) rfl ?_)))))
 refine wl_set 25 (v' := .bool true) rfl (congrArg Value.bool (decide_eq_true (by omega))) ?_
 refine nn_ (ct_ rfl (sr_ (mv_ rfl (mv_ rfl (mv_ rfl (mv_ rfl ?_))))))
 refine wl_callK rfl rfl rfl cb294 rfl rfl (fun wx hm => (ins_ky  l0 br n cap base wx hm.k hl0 (by omega) )) ?_
 refine nn_ ?_
 refine gw_ret ?_
 refine nx_then_ret (nx_blk_ret (nx_then_ret (nx_blk_ret ?_)))
 refine nx_ret0' rfl fun wx hm => ?_
 exact ⟨rfl, fin_row hm.k hm.g⟩
theorem sort_ky  (l0 : List Bk) (br n cap base : Nat) (w : World) (h : w.ownsRow base 92 6 (.slice (some ⟨br, 0, none⟩) n cap) n (l0.flatMap bkEnc)) (hl0 : l0.length = n) (hn : n ≤ 12)  :
  Calls Tryz.prog 229 #[.slice (some ⟨br, 0, none⟩) n cap, .func (.func 230) #[] #[]] w (fun e w' => e = .returned (.tuple #[]) ∧ w'.ownsRow base 92 6 (.slice (some ⟨br, 0, none⟩) n cap) n ((isort (kyLt) l0).flatMap bkEnc) ∧ w.grownBy w' (some br)) := by
 refine gw_enter ⟨14, w, (some br), []⟩ Tryz.func229 rfl Tryz.ntmps229 rfl (memR (X := []) h allF_nil allL_nil) ?_
 refine sr_ (mv_ rfl (wl_ov (ov_len es76 rfl) rfl (sg_ rfl (nn_ (gw_region (mv_ rfl (mv_ rfl (mv_ rfl ?_))))))))
 refine wl_ov (ov_u64 (a := n) (by kernel_rfl) (by kernel_rfl) rfl (by omega)) rfl ?_
 refine wl_callx (γ := Int) (val := (fun g => .int .i64 g)) (φ := (fun g => True)) (Y := (fun g => fun _ => True)) rfl cb195 rfl rfl (fun wx hm => (bitsLen_any n wx (by omega)).mono fun _ _ ⟨v, he, hg⟩ => ⟨v, he, trivial, hg, trivial⟩) (fun _ => Lasts2.true_) ?_
 rintro lim hphi
 clear hphi
 refine mv_ rfl ?_
 refine wl_callK rfl rfl rfl cb284 rfl rfl (fun wx hm => (pdq_ky  l0 br n cap base _ wx hm.k hl0 hn )) ?_
 refine wl_nil ?_
 refine nx_ret0 rfl fun wx hm => ?_
 exact ⟨rfl, fin_row hm.k hm.g⟩
theorem with_kyO (l : List Bk) (A : Option Addr) (n c : Nat) (x0 x1 : ByteArray) (x2 x3 x4 x5 : Int) (w : World) (hl : SlT bkEnc 6 92 w A n l) (hn : n ≤ 11) :
  Calls Tryz.prog 135 #[.slice A n c, .agg #[.string x0, .string x1, .int .i64 x2, .int .i64 x3, .int .i64 x4, .int .i64 x5]] w (fun e w' => ∃ (A' : Option Addr) (c' : Nat), e = .returned (.slice A' (n + 1) c') ∧ w'.ownsRow w.heap.size 92 6 (.slice A' (n + 1) c') (n + 1) ((withB l ⟨x0, x1, x2, x3, x4, x5⟩).flatMap bkEnc) ∧ w.grownBy w' none) := by
 refine gw_enter ⟨14, w, none, []⟩ Tryz.func135 rfl Tryz.ntmps135 rfl (mem0 (X := [SlOld bkEnc 6 92 w.heap.size none A n l]) (allF_cons hl.old allF_nil) (allL_cons SlOld.lasts allL_nil)) ?_
 refine sr_ ?_
 have hlen := hl.len
 refine wl_box rfl rfl rfl fun g1 => ?_
 refine sg_ rfl (nn_ (gw_seq ?_))
 refine gd (fun wz => Blk wz g1 92 [.string x0, .string x1, .int .i64 x2, .int .i64 x3, .int .i64 x4, .int .i64 x5] ∧ (SlOld bkEnc 6 92 w.heap.size none A n l) wz ∧ True) mixed (fun _ hm => ⟨hm.bl 0, hm.fa 0, trivial⟩) fun z => ?_
 refine wt 0 6 1 rfl z (ov_move rfl) ?_
 refine wt 2 6 5 rfl z (ov_loads rz92 rfl (fun _ hm => hm.1) rfl rfl) ?_
 refine wa_all [1, 3] (by kernel_rfl) rfl ⟨⟨_, rfl, ?_⟩, ⟨_, rfl, ?_⟩, trivial⟩
 ·refine wl_callgo (γ := Option Addr × Nat) (val := (fun g => .slice g.1 n g.2)) (φ := (fun g => True)) (fun g => ⟨.slice g.1 n g.2, 92, 6, n, l.flatMap bkEnc⟩) rfl cb144 rfl rfl (fun wx hm => (cloneBks_any l A n c wx (hm.fact 0 rfl).1 (by omega)).mono fun _ _ ⟨A, c, he, ho, hg⟩ => ⟨(A, c), he, trivial, ho, hg⟩) ?_
  rintro ⟨A2, c2⟩ hphi
  dsimp only at hphi ⊢
  refine wl_nil ?_
  refine nw 6 7 (fun _ hm => ⟨hm.bl 0, hm.fa 0, trivial⟩) fun z => ?_
  refine wa1 3 rfl ?_
  refine wl_buildSlice (e := 92) (cs := [.string x0, .string x1, .int .i64 x2, .int .i64 x3, .int .i64 x4, .int .i64 x5]) rfl (by kernel_rfl) rfl fun g2 => ?_
  refine wl_nil ?_
  refine nw 6 15 (fun _ hm => ⟨hm.bl 1, hm.fa 0, trivial⟩) fun z => ?_
  refine wa1 4 rfl ?_
  refine wl_append (news := [.string x0, .string x1, .int .i64 x2, .int .i64 x3, .int .i64 x4, .int .i64 x5]) 0 0 ap76 rfl rfl rfl rfl rfl rfl rfl (by omega) (by unfold maxLen; omega) rfl rfl fun u1 hu1 => ?_
  rw [show l.flatMap bkEnc ++ ([.string x0, .string x1, .int .i64 x2, .int .i64 x3, .int .i64 x4, .int .i64 x5] : List Value) = (l ++ [(⟨x0, x1, x2, x3, x4, x5⟩ : Bk)]).flatMap bkEnc from by simp [bkEnc]]
  refine wl_look (R := ∃ A cc, u1 = .slice A (n + 1) cc) (fun wx hm => own_slice (hm.ownI 0 rfl)) ?_
  rintro ⟨A3, c3, rfl⟩
  refine wl_nil ?_
  refine nw 6 31 (fun _ hm => ⟨hm.bl 1, hm.fa 0, trivial⟩) fun z => ?_
  refine wt 5 6 63 rfl z (ov_assign rfl) ?_
  refine wa_done (by kernel_rfl) ?_
  refine nx_then (sr_ (mv_ rfl ?_))
  refine wl_look (R := ∃ g, A3 = some ⟨g, 0, none⟩) (fun wx hm => own_addr (hm.ownI 0 rfl) (by omega)) ?_
  rintro ⟨g5, rfl⟩
  refine wl_callr (v := .tuple #[]) (xs' := (withB l ⟨x0, x1, x2, x3, x4, x5⟩).flatMap bkEnc) 0 rfl rfl rfl cb229 rfl rfl (fun wx hm => sort_ky (l ++ [(⟨x0, x1, x2, x3, x4, x5⟩ : Bk)]) g5 (n + 1) c3 _ wx (hm.ownI 0 rfl) (by simp [hlen]) (by omega)) ?_
  refine nn_ (sr_ (mv_ rfl (sg_ rfl (nn_ ?_))))
  refine gw_ret ?_
  refine nx_ret1 rfl rfl fun wx hm => ?_
  exact ⟨_, c3, rfl, (hm.ownI 0 rfl), hm.g⟩
 refine wl_buildSlice (e := 92) (cs := [.string x0, .string x1, .int .i64 x2, .int .i64 x3, .int .i64 x4, .int .i64 x5]) rfl (by kernel_rfl) rfl fun g3 => ?_
 refine wl_nil ?_
 refine nw 6 13 (fun _ hm => ⟨hm.bl 1, hm.fa 0, trivial⟩) fun z => ?_
 refine wa1 1 rfl ?_
 refine wl_callgo (γ := Option Addr × Nat) (val := (fun g => .slice g.1 n g.2)) (φ := (fun g => True)) (fun g => ⟨.slice g.1 n g.2, 92, 6, n, l.flatMap bkEnc⟩) rfl cb144 rfl rfl (fun wx hm => (cloneBks_any l A n c wx (hm.fact 0 rfl).1 (by omega)).mono fun _ _ ⟨A, c, he, ho, hg⟩ => ⟨(A, c), he, trivial, ho, hg⟩) ?_
 rintro ⟨A2, c2⟩ hphi
 dsimp only at hphi ⊢
 refine wl_nil ?_
 refine nw 6 15 (fun _ hm => ⟨hm.bl 1, hm.fa 0, trivial⟩) fun z => ?_
 refine wa1 4 rfl ?_
 refine wl_append (news := [.string x0, .string x1, .int .i64 x2, .int .i64 x3, .int .i64 x4, .int .i64 x5]) 0 0 ap76 rfl rfl rfl rfl rfl rfl rfl (by omega) (by unfold maxLen; omega) rfl rfl fun u1 hu1 => ?_
 rw [show l.flatMap bkEnc ++ ([.string x0, .string x1, .int .i64 x2, .int .i64 x3, .int .i64 x4, .int .i64 x5] : List Value) = (l ++ [(⟨x0, x1, x2, x3, x4, x5⟩ : Bk)]).flatMap bkEnc from by simp [bkEnc]]
 refine wl_look (R := ∃ A cc, u1 = .slice A (n + 1) cc) (fun wx hm => own_slice (hm.ownI 0 rfl)) ?_
 rintro ⟨A3, c3, rfl⟩
 refine wl_nil ?_
 refine nw 6 31 (fun _ hm => ⟨hm.bl 1, hm.fa 0, trivial⟩) fun z => ?_
 refine wt 5 6 63 rfl z (ov_assign rfl) ?_
 refine wa_done (by kernel_rfl) ?_
 refine nx_then (sr_ (mv_ rfl ?_))
 refine wl_look (R := ∃ g, A3 = some ⟨g, 0, none⟩) (fun wx hm => own_addr (hm.ownI 0 rfl) (by omega)) ?_
 rintro ⟨g5, rfl⟩
 refine wl_callr (v := .tuple #[]) (xs' := (withB l ⟨x0, x1, x2, x3, x4, x5⟩).flatMap bkEnc) 0 rfl rfl rfl cb229 rfl rfl (fun wx hm => sort_ky (l ++ [(⟨x0, x1, x2, x3, x4, x5⟩ : Bk)]) g5 (n + 1) c3 _ wx (hm.ownI 0 rfl) (by simp [hlen]) (by omega)) ?_
 refine nn_ (sr_ (mv_ rfl (sg_ rfl (nn_ ?_))))
 refine gw_ret ?_
 refine nx_ret1 rfl rfl fun wx hm => ?_
 exact ⟨_, c3, rfl, (hm.ownI 0 rfl), hm.g⟩
theorem with1_kz (x0 x1 y0 y1 : ByteArray) (x2 x3 x4 x5 y2 y3 y4 y5 : Int) (w : World) :
  Calls Tryz.prog 232 #[.agg #[.string x0, .string x1, .int .i64 x2, .int .i64 x3, .int .i64 x4, .int .i64 x5], .agg #[.string y0, .string y1, .int .i64 y2, .int .i64 y3, .int .i64 y4, .int .i64 y5]] w (fun e w' => e = .returned (.int .i64 (cmpS x0 y0)) ∧ w.grownBy w' none) := by
 refine gw_enter ⟨10, w, none, []⟩ Tryz.func232 rfl Tryz.ntmps232 rfl (mem0 (X := []) allF_nil allL_nil) ?_
 refine sr_ ?_
 refine wl_box rfl rfl rfl fun g1 => ?_
 refine wl_box rfl rfl rfl fun g2 => ?_
 refine sg_ rfl (nn_ (sr_ (fd_ fo92_0 rfl rfl (lk_ sc9 1 rfl rfl rfl (fd_ fo92_0 rfl rfl (lk_ sc9 0 rfl rfl rfl ?_))))))
 refine wl_callv rfl cb87 rfl rfl (fun wx hm => (strCompare_any _ _ wx)) ?_
 refine sg_ rfl (nn_ ?_)
 refine gw_ret ?_
 refine nx_ret1 rfl rfl fun wx hm => ?_
 exact ⟨rfl, hm.g⟩
theorem ins_kz  (l0 : List Bk) (br n cap base : Nat) (w : World) (h : w.ownsRow base 92 6 (.slice (some ⟨br, 0, none⟩) n cap) n (l0.flatMap bkEnc)) (hl0 : l0.length = n) (hn : n ≤ 1000000)  :
  Calls Tryz.prog 294 #[.slice (some ⟨br, 0, none⟩) n cap, .int .i64 0, .int .i64 ((n : Nat) : Int), .func (.func 232) #[] #[]] w (fun e w' => e = .returned (.tuple #[]) ∧ w'.ownsRow base 92 6 (.slice (some ⟨br, 0, none⟩) n cap) n ((isort (kyLt) l0).flatMap bkEnc) ∧ w.grownBy w' (some br)) := by
 obtain ⟨R, hR⟩ : ∃ z, z = isort (kyLt) l0 := ⟨_, rfl⟩
 rw [← hR]
 refine gw_enter ⟨53, w, (some br), []⟩ Tryz.func294 rfl Tryz.ntmps294 rfl (memR (X := []) h allF_nil allL_nil) ?_
 refine sr_ (mv_ rfl (ad_ rfl rfl ?_))
 refine wl_set 11 (v' := .int .i64 1) rfl rfl ?_
 refine sg_ rfl (nn_ (gw_block ?_))
 refine gw_loop (γ := Nat × List Bk) (fun gg => (1 ≤ gg.1 ∧ gg.1 ≤ n + 1) ∧ gg.2.length = n ∧ isortF (kyLt) (n - gg.1) gg.1 gg.2 = R) (fun gg => [(0, .slice (some ⟨br, 0, none⟩) n cap), (1, .int .i64 0), (2, .int .i64 ((n : Nat) : Int)), (3, .func (.func 232) #[] #[]), (8, .int .i64 ((gg.1 : Nat) : Int))]) (fun gg => RowK base 92 6 n cap br ((gg.2).flatMap bkEnc)) (fun gg => []) (fun gg => []) (fun gg => []) (fun gg => n + 1 - gg.1) (1, l0) ⟨⟨Nat.le_refl _, by omega⟩, hl0, by rw [hR]; unfold isort; rw [hl0]⟩ ⟨rfl, rfl, rfl, rfl, (some_int (by omega)), trivial⟩ (fun _ hm => hm.pick [] [] [] rfl rfl) ?_
 rintro ⟨i, l⟩ hinv
 replace hinv : (1 ≤ i ∧ i ≤ n + 1) ∧ l.length = n ∧ isortF (kyLt) (n - i) i l = R := hinv
 dsimp only
 refine gw_seq (sr_ ?_)
 obtain ⟨⟨hi1, hi2⟩, hl1, hR1⟩ := hinv
 refine mv_ rfl (mv_ rfl (wl_ov (ov_lss rfl rfl) rfl (nn_ ?_)))
 refine gw_cond rfl (fun hh => ?_) (fun hh => ?_)
 ·have hi : ((i : Nat) : Int) < ((n : Nat) : Int) := by simpa using hh
  clear hh
  refine gw_skip (nx_then (gw_seq (gw_block (sr_ ?_))))
  have hRi : isortF (kyLt) (n - (i + 1)) (i + 1) (sink (kyLt) i l) = R := by rw [← hR1, show n - i = (n - (i + 1)) + 1 by omega]; rfl
  obtain ⟨S, hS⟩ : ∃ z, z = sink (kyLt) i l := ⟨_, rfl⟩
  rw [← hS] at hRi
  have hSl : S.length = n := by rw [hS, sink_len]; exact hl1
  refine mv_ rfl (sg_ rfl (nn_ (gw_block ?_)))
  refine gw_loop (γ := Nat × List Bk) (fun gg => (gg.1 ≤ i) ∧ gg.2.length = n ∧ sink (kyLt) gg.1 gg.2 = S) (fun gg => [(0, .slice (some ⟨br, 0, none⟩) n cap), (1, .int .i64 0), (2, .int .i64 ((n : Nat) : Int)), (3, .func (.func 232) #[] #[]), (8, .int .i64 ((i : Nat) : Int)), (9, .int .i64 ((gg.1 : Nat) : Int))]) (fun gg => RowK base 92 6 n cap br ((gg.2).flatMap bkEnc)) (fun gg => []) (fun gg => []) (fun gg => []) (fun gg => gg.1) (i, l) ⟨Nat.le_refl _, hl1, hS.symm⟩ ⟨rfl, rfl, rfl, rfl, rfl, rfl, trivial⟩ (fun _ hm => hm.pick [] [] [] rfl rfl) ?_
  rintro ⟨jj, m⟩ hinv
  replace hinv : (jj ≤ i) ∧ m.length = n ∧ sink (kyLt) jj m = S := hinv
  dsimp only
  refine gw_seq (gw_seq ?_)
  obtain ⟨hj1, hm1, hS1⟩ := hinv
  rcases jj with _ | j
  ·refine gd (fun wz => True) mixed (fun _ _ => trivial) fun z => ?_
   refine wt 0 17 1 rfl z (ov_move rfl) ?_
   refine wa_set 18 (v' := .int .i64 0) rfl rfl ?_
   refine wt 1 17 3 rfl z (ov_move rfl) ?_
   refine wt 2 17 7 rfl z (ov_gtr rfl rfl) ?_
   refine wa_set 20 (v' := .bool false) rfl (congrArg Value.bool (by decide)) ?_
   refine wt 3 17 15 rfl z (ov_move rfl) ?_
   refine wtf 4 17 31 rfl rfl rfl z ?_
   refine wtf 5 17 63 rfl rfl rfl z ?_
   refine wtf 6 17 127 rfl rfl rfl z ?_
   refine wtf 7 17 255 rfl rfl rfl z ?_
   refine wtf 8 17 511 rfl rfl rfl z ?_
   refine wtf 9 17 1023 rfl rfl rfl z ?_
   refine wtf 10 17 2047 rfl rfl rfl z ?_
   refine wtf 11 17 4095 rfl rfl rfl z ?_
   refine wtf 12 17 8191 rfl rfl rfl z ?_
   refine wtf 13 17 16383 rfl rfl rfl z ?_
   refine wtf 14 17 32767 rfl rfl rfl z ?_
   refine wtf 15 17 65535 rfl rfl rfl z ?_
   refine wt 16 17 131071 rfl z (ov_pick_f rfl rfl) ?_
   refine wa_done (by kernel_rfl) ?_
   refine nx_then (cf_ rfl ?_)
   refine gw_exit ?_
   refine nx_then_exit (nx_then_exit ?_)
   refine nx_blk_here ?_
   refine nx_blk_nrm (nx_then (gw_region (mv_ rfl (ad_ rfl rfl (sg_ rfl (wl_nil ?_))))))
   have hm2 : m = S := hS1
   exact nx_round (i + 1, m) ⟨⟨by dsimp only; omega, by dsimp only; omega⟩, by rw [hm2]; exact hSl, by rw [hm2]; exact hRi⟩ (by dsimp only; omega) ⟨rfl, rfl, rfl, rfl, (some_int (by omega)), trivial⟩ (fun _ hm => hm.pick [] [] [] rfl rfl)
  have hj2 : j + 1 < n := by omega
  obtain ⟨xx, hx⟩ : ∃ x, m[j + 1]? = some x := ⟨_, List.getElem?_eq_getElem (by omega)⟩
  obtain ⟨x0, x1, x2, x3, x4, x5⟩ := xx
  obtain ⟨yy, hy⟩ : ∃ x, m[j]? = some x := ⟨_, List.getElem?_eq_getElem (by omega)⟩
  obtain ⟨y0, y1, y2, y3, y4, y5⟩ := yy
  refine gd (fun wz => (RowK base 92 6 n cap br ((m).flatMap bkEnc)) wz ∧ True) mixed (fun _ hm => ⟨hm.k, trivial⟩) fun z => ?_
  refine wt 0 17 1 rfl z (ov_move rfl) ?_
  refine wt 1 17 3 rfl z (ov_move rfl) ?_
  refine wt 2 17 7 rfl z (ov_gtr rfl rfl) ?_
  refine wa_set 20 (v' := .bool true) rfl (congrArg Value.bool (decide_eq_true (by omega))) ?_
  refine wt 3 17 15 rfl z (ov_move rfl) ?_
  refine wto 4 17 31 rfl rfl rfl z (ov_move rfl) ?_
  refine wto 5 17 63 rfl rfl rfl z (ov_move rfl) ?_
  refine wto 6 17 127 rfl rfl rfl z (ov_move rfl) ?_
  refine wto 7 17 255 rfl rfl rfl z (ov_index (j := (j + 1)) es76 rfl rfl (by omega)) ?_
  refine wto 8 17 511 rfl rfl rfl z (ov_elem (vs := [.string x0, .string x1, .int .i64 x2, .int .i64 x3, .int .i64 x4, .int .i64 x5]) rz92 rfl (fun _ hm => (RowK.get (hm.1) bk_len hm1)) hx rfl rfl) ?_
  refine wto 9 17 1023 rfl rfl rfl z (ov_move rfl) ?_
  refine wto 10 17 2047 rfl rfl rfl z (ov_move rfl) ?_
  refine wto 11 17 4095 rfl rfl rfl z (ov_sub rfl rfl (by omega) (by omega)) ?_
  refine wa_set 29 (v' := .int .i64 ((j : Nat) : Int)) rfl (congrArg (Value.int .i64) (by omega)) ?_
  refine wto 12 17 8191 rfl rfl rfl z (ov_index (j := j) es76 rfl rfl (by omega)) ?_
  refine wto 13 17 16383 rfl rfl rfl z (ov_elem (vs := [.string y0, .string y1, .int .i64 y2, .int .i64 y3, .int .i64 y4, .int .i64 y5]) rz92 rfl (fun _ hm => (RowK.get (hm.1) bk_len hm1)) hy rfl rfl) ?_
  refine wa1 14 rfl ?_
  refine wl_guard_on rfl rfl rfl ?_
  refine wl_callv rfl cb232 rfl rfl (fun wx hm => (with1_kz x0 x1 y0 y1 x2 x3 x4 x5 y2 y3 y4 y5 wx)) ?_
  refine wl_nil ?_
  refine nw 17 32767 (fun _ hm => ⟨hm.k, trivial⟩) fun z => ?_
  refine wto 15 17 65535 rfl rfl rfl z (ov_lss rfl rfl) ?_
  refine wt 16 17 131071 rfl z (ov_pick_t rfl rfl) ?_
  refine wa_done (by kernel_rfl) ?_
  refine nx_then ?_
  refine gw_cond rfl (fun hh => ?_) (fun hh => ?_)
  ·have hlt : cmpS x0 y0 < 0 := by simpa using hh
   clear hh
   refine gw_skip (nx_then (gw_seq (gw_block ?_)))
   have hlt2 : (kyLt) ⟨x0, x1, x2, x3, x4, x5⟩ ⟨y0, y1, y2, y3, y4, y5⟩ = true := decide_eq_true (show cmpS x0 y0 < 0 from hlt)
   have hS2 := (sink_yes hx hy hlt2).symm.trans hS1
   refine gd (fun wz => True) mixed (fun _ _ => trivial) fun z => ?_
   refine wt 0 18 1 rfl z (ov_move rfl) ?_
   refine wt 1 18 3 rfl z (ov_move rfl) ?_
   refine wt 2 18 7 rfl z (ov_move rfl) ?_
   refine wt 3 18 15 rfl z (ov_move rfl) ?_
   refine wt 4 18 31 rfl z (ov_sub rfl rfl (by omega) (by omega)) ?_
   refine wa_set 41 (v' := .int .i64 ((j : Nat) : Int)) rfl (congrArg (Value.int .i64) (by omega)) ?_
   refine wt 5 18 63 rfl z (ov_move rfl) ?_
   refine wt 6 18 127 rfl z (ov_move rfl) ?_
   refine wt 7 18 255 rfl z (ov_sub rfl rfl (by omega) (by omega)) ?_
   refine wa_set 44 (v' := .int .i64 ((j : Nat) : Int)) rfl (congrArg (Value.int .i64) (by omega)) ?_
   refine wt 8 18 511 rfl z (ov_index (j := j) es76 rfl rfl (by omega)) ?_
   refine wt 10 18 1535 rfl z (ov_move rfl) ?_
   refine wt 11 18 3583 rfl z (ov_move rfl) ?_
   refine wt 12 18 7679 rfl z (ov_index (j := (j + 1)) es76 rfl rfl (by omega)) ?_
   refine wa_all [9, 13] (by kernel_rfl) rfl ⟨⟨_, rfl, ?_⟩, ⟨_, rfl, ?_⟩, trivial⟩
   ·refine wl_ov (ov_elem (vs := [.string y0, .string y1, .int .i64 y2, .int .i64 y3, .int .i64 y4, .int .i64 y5]) rz92 rfl (fun _ hm => (RowK.get hm.k bk_len hm1)) hy rfl rfl) rfl ?_
    refine wl_nil ?_
    refine nw 18 8191 (fun _ _ => trivial) fun z => ?_
    refine wa1 13 rfl ?_
    refine wl_ov (ov_elem (vs := [.string x0, .string x1, .int .i64 x2, .int .i64 x3, .int .i64 x4, .int .i64 x5]) rz92 rfl (fun _ hm => (RowK.get hm.k bk_len hm1)) hx rfl rfl) rfl ?_
    refine wl_nil ?_
    refine nw 18 16383 (fun _ _ => trivial) fun z => ?_
    refine wt 14 18 32767 rfl z (ov_index (j := (j + 1)) es76 rfl rfl (by omega)) ?_
    refine wa1 15 rfl ?_
    refine wl_storesRow (l := m) (j := j + 1) (r := 0) (el := ⟨x0, x1, x2, x3, x4, x5⟩) (el' := ⟨y0, y1, y2, y3, y4, y5⟩) rfl rz92 rfl rfl rfl rfl bk_len rfl hx hm1 (by decide) rfl rfl ?_
    refine wl_nil ?_
    refine nw 18 65535 (fun _ _ => trivial) fun z => ?_
    refine wt 16 18 131071 rfl z (ov_index (j := j) es76 rfl rfl (by omega)) ?_
    refine wa1 17 rfl ?_
    refine wl_storesRow (l := m.set (j + 1) ⟨y0, y1, y2, y3, y4, y5⟩) (j := j) (r := 0) (el := ⟨y0, y1, y2, y3, y4, y5⟩) (el' := ⟨x0, x1, x2, x3, x4, x5⟩) rfl rz92 rfl rfl rfl rfl bk_len rfl (by rw [List.getElem?_set_ne (by omega)]; exact hy) (by rw [List.length_set]; exact hm1) (by decide) rfl rfl ?_
    refine wl_nil ?_
    refine nw 18 262143 (fun _ _ => trivial) fun z => ?_
    refine wa_done (by kernel_rfl) ?_
    refine nx_blk_nrm (nx_then (gw_region (mv_ rfl ?_)))
    refine wl_ov (ov_sub rfl rfl (by omega) (by omega)) rfl ?_
    refine wl_set 36 (v' := .int .i64 ((j : Nat) : Int)) rfl (congrArg (Value.int .i64) (by omega)) ?_
    refine sg_ rfl (wl_nil ?_)
    exact nx_round (j, (m.set (j + 1) ⟨y0, y1, y2, y3, y4, y5⟩).set j ⟨x0, x1, x2, x3, x4, x5⟩) ⟨by dsimp only; omega, by simp [hm1], hS2⟩ (by dsimp only; omega) ⟨rfl, rfl, rfl, rfl, rfl, (some_int (by omega)), trivial⟩ (fun _ hm => hm.pick [] [] [] rfl rfl)
   refine wl_ov (ov_elem (vs := [.string x0, .string x1, .int .i64 x2, .int .i64 x3, .int .i64 x4, .int .i64 x5]) rz92 rfl (fun _ hm => (RowK.get hm.k bk_len hm1)) hx rfl rfl) rfl ?_
   refine wl_nil ?_
   refine nw 18 15871 (fun _ _ => trivial) fun z => ?_
   refine wa1 9 rfl ?_
   refine wl_ov (ov_elem (vs := [.string y0, .string y1, .int .i64 y2, .int .i64 y3, .int .i64 y4, .int .i64 y5]) rz92 rfl (fun _ hm => (RowK.get hm.k bk_len hm1)) hy rfl rfl) rfl ?_
   refine wl_nil ?_
   refine nw 18 16383 (fun _ _ => trivial) fun z => ?_
   refine wt 14 18 32767 rfl z (ov_index (j := (j + 1)) es76 rfl rfl (by omega)) ?_
   refine wa1 15 rfl ?_
   refine wl_storesRow (l := m) (j := j + 1) (r := 0) (el := ⟨x0, x1, x2, x3, x4, x5⟩) (el' := ⟨y0, y1, y2, y3, y4, y5⟩) rfl rz92 rfl rfl rfl rfl bk_len rfl hx hm1 (by decide) rfl rfl ?_
   refine wl_nil ?_
   refine nw 18 65535 (fun _ _ => trivial) fun z => ?_
   refine wt 16 18 131071 rfl z (ov_index (j := j) es76 rfl rfl (by omega)) ?_
   refine wa1 17 rfl ?_
   refine wl_storesRow (l := m.set (j + 1) ⟨y0, y1, y2, y3, y4, y5⟩) (j := j) (r := 0) (el := ⟨y0, y1, y2, y3, y4, y5⟩) (el' := ⟨x0, x1, x2, x3, x4, x5⟩) rfl rz92 rfl rfl rfl rfl bk_len rfl (by rw [List.getElem?_set_ne (by omega)]; exact hy) (by rw [List.length_set]; exact hm1) (by decide) rfl rfl ?_
   refine wl_nil ?_
   refine nw 18 262143 (fun _ _ => trivial) fun z => ?_
   refine wa_done (by kernel_rfl) ?_
   refine nx_blk_nrm (nx_then (gw_region (mv_ rfl ?_)))
   refine wl_ov (ov_sub rfl rfl (by omega) (by omega)) rfl ?_
   refine wl_set 36 (v' := .int .i64 ((j : Nat) : Int)) rfl (congrArg (Value.int .i64) (by omega)) ?_
   refine sg_ rfl (wl_nil ?_)
   exact nx_round (j, (m.set (j + 1) ⟨y0, y1, y2, y3, y4, y5⟩).set j ⟨x0, x1, x2, x3, x4, x5⟩) ⟨by dsimp only; omega, by simp [hm1], hS2⟩ (by dsimp only; omega) ⟨rfl, rfl, rfl, rfl, rfl, (some_int (by omega)), trivial⟩ (fun _ hm => hm.pick [] [] [] rfl rfl)
  have hlt : ¬ (cmpS x0 y0 < 0) := by simpa using hh
  clear hh
  refine gw_exit ?_
  refine nx_then_exit (nx_then_exit ?_)
  refine nx_blk_here ?_
  refine nx_blk_nrm (nx_then (gw_region ?_))
  have hlt2 : (kyLt) ⟨x0, x1, x2, x3, x4, x5⟩ ⟨y0, y1, y2, y3, y4, y5⟩ = false := decide_eq_false (show ¬ cmpS x0 y0 < 0 from hlt)
  have hS2 := (sink_no hx hy hlt2).symm.trans hS1
  refine mv_ rfl (ad_ rfl rfl (sg_ rfl (wl_nil ?_)))
  have hm2 : m = S := hS2
  exact nx_round (i + 1, m) ⟨⟨by dsimp only; omega, by dsimp only; omega⟩, by rw [hm2]; exact hSl, by rw [hm2]; exact hRi⟩ (by dsimp only; omega) ⟨rfl, rfl, rfl, rfl, (some_int (by omega)), trivial⟩ (fun _ hm => hm.pick [] [] [] rfl rfl)
 have hi : ¬ (((i : Nat) : Int) < ((n : Nat) : Int)) := by simpa using hh
 clear hh
 refine gw_exit ?_
 refine nx_then_exit (nx_then_exit ?_)
 refine nx_blk_here ?_
 obtain rfl : l = R := by rw [← hR1, show n - i = 0 by omega]; rfl
 refine nx_ret0 rfl fun wx hm => ?_
 exact ⟨rfl, fin_row hm.k hm.g⟩
theorem pdq_kz  (l0 : List Bk) (br n cap base : Nat) (lim : Int) (w : World) (h : w.ownsRow base 92 6 (.slice (some ⟨br, 0, none⟩) n cap) n (l0.flatMap bkEnc)) (hl0 : l0.length = n) (hn : n ≤ 12)  :
  Calls Tryz.prog 284 #[.slice (some ⟨br, 0, none⟩) n cap, .int .i64 0, .int .i64 ((n : Nat) : Int), .int .i64 lim, .func (.func 232) #[] #[]] w (fun e w' => e = .returned (.tuple #[]) ∧ w'.ownsRow base 92 6 (.slice (some ⟨br, 0, none⟩) n cap) n ((isort (kyLt) l0).flatMap bkEnc) ∧ w.grownBy w' (some br)) := by
 refine gw_enter ⟨148, w, (some br), []⟩ Tryz.func284 rfl Tryz.ntmps284 rfl (memR (X := []) h allF_nil allL_nil) ?_
 refine sr_ (sg_ rfl (nn_ (sr_ (sg_ rfl (nn_ (gw_block ?_))))))
 refine gw_rounds 1 ?_
 refine gr_next ?_
 refine gw_block (sr_ (mv_ rfl (mv_ rfl ?_)))
 refine wl_ov (ov_sub rfl rfl (by omega) (by omega)) rfl ?_
 refine sg_ rfl (nn_ (gw_seq (sr_ (mv_ rfl (wl_ov (ov_leq rfl rfl) rfl ?_)))))
 refine wl_set 25 (v' := .bool true) rfl (congrArg Value.bool (decide_eq_true (by omega))) ?_
 refine nn_ (ct_ rfl (sr_ (mv_ rfl (mv_ rfl (mv_ rfl (mv_ rfl ?_))))))
 refine wl_callK rfl rfl rfl cb294 rfl rfl (fun wx hm => (ins_kz  l0 br n cap base wx hm.k hl0 (by omega) )) ?_
 refine nn_ ?_
 refine gw_ret ?_
 refine nx_then_ret (nx_blk_ret (nx_then_ret (nx_blk_ret ?_)))
 refine nx_ret0' rfl fun wx hm => ?_
 exact ⟨rfl, fin_row hm.k hm.g⟩
theorem sort_kz  (l0 : List Bk) (br n cap base : Nat) (w : World) (h : w.ownsRow base 92 6 (.slice (some ⟨br, 0, none⟩) n cap) n (l0.flatMap bkEnc)) (hl0 : l0.length = n) (hn : n ≤ 12)  :
  Calls Tryz.prog 229 #[.slice (some ⟨br, 0, none⟩) n cap, .func (.func 232) #[] #[]] w (fun e w' => e = .returned (.tuple #[]) ∧ w'.ownsRow base 92 6 (.slice (some ⟨br, 0, none⟩) n cap) n ((isort (kyLt) l0).flatMap bkEnc) ∧ w.grownBy w' (some br)) := by
 refine gw_enter ⟨14, w, (some br), []⟩ Tryz.func229 rfl Tryz.ntmps229 rfl (memR (X := []) h allF_nil allL_nil) ?_
 refine sr_ (mv_ rfl (wl_ov (ov_len es76 rfl) rfl (sg_ rfl (nn_ (gw_region (mv_ rfl (mv_ rfl (mv_ rfl ?_))))))))
 refine wl_ov (ov_u64 (a := n) (by kernel_rfl) (by kernel_rfl) rfl (by omega)) rfl ?_
 refine wl_callx (γ := Int) (val := (fun g => .int .i64 g)) (φ := (fun g => True)) (Y := (fun g => fun _ => True)) rfl cb195 rfl rfl (fun wx hm => (bitsLen_any n wx (by omega)).mono fun _ _ ⟨v, he, hg⟩ => ⟨v, he, trivial, hg, trivial⟩) (fun _ => Lasts2.true_) ?_
 rintro lim hphi
 clear hphi
 refine mv_ rfl ?_
 refine wl_callK rfl rfl rfl cb284 rfl rfl (fun wx hm => (pdq_kz  l0 br n cap base _ wx hm.k hl0 hn )) ?_
 refine wl_nil ?_
 refine nx_ret0 rfl fun wx hm => ?_
 exact ⟨rfl, fin_row hm.k hm.g⟩
theorem with_kzO (l : List Bk) (A : Option Addr) (n c : Nat) (x0 x1 : ByteArray) (x2 x3 x4 x5 : Int) (w : World) (hl : SlT bkEnc 6 92 w A n l) (hn : n ≤ 11) :
  Calls Tryz.prog 140 #[.slice A n c, .agg #[.string x0, .string x1, .int .i64 x2, .int .i64 x3, .int .i64 x4, .int .i64 x5]] w (fun e w' => ∃ (A' : Option Addr) (c' : Nat), e = .returned (.slice A' (n + 1) c') ∧ w'.ownsRow w.heap.size 92 6 (.slice A' (n + 1) c') (n + 1) ((withB l ⟨x0, x1, x2, x3, x4, x5⟩).flatMap bkEnc) ∧ w.grownBy w' none) := by
 refine gw_enter ⟨14, w, none, []⟩ Tryz.func140 rfl Tryz.ntmps140 rfl (mem0 (X := [SlOld bkEnc 6 92 w.heap.size none A n l]) (allF_cons hl.old allF_nil) (allL_cons SlOld.lasts allL_nil)) ?_
 refine sr_ ?_
 have hlen := hl.len
 refine wl_box rfl rfl rfl fun g1 => ?_
 refine sg_ rfl (nn_ (gw_seq ?_))
 refine gd (fun wz => Blk wz g1 92 [.string x0, .string x1, .int .i64 x2, .int .i64 x3, .int .i64 x4, .int .i64 x5] ∧ (SlOld bkEnc 6 92 w.heap.size none A n l) wz ∧ True) mixed (fun _ hm => ⟨hm.bl 0, hm.fa 0, trivial⟩) fun z => ?_
 refine wt 0 6 1 rfl z (ov_move rfl) ?_
 refine wt 2 6 5 rfl z (ov_loads rz92 rfl (fun _ hm => hm.1) rfl rfl) ?_
 refine wa_all [1, 3] (by kernel_rfl) rfl ⟨⟨_, rfl, ?_⟩, ⟨_, rfl, ?_⟩, trivial⟩
 ·refine wl_callgo (γ := Option Addr × Nat) (val := (fun g => .slice g.1 n g.2)) (φ := (fun g => True)) (fun g => ⟨.slice g.1 n g.2, 92, 6, n, l.flatMap bkEnc⟩) rfl cb144 rfl rfl (fun wx hm => (cloneBks_any l A n c wx (hm.fact 0 rfl).1 (by omega)).mono fun _ _ ⟨A, c, he, ho, hg⟩ => ⟨(A, c), he, trivial, ho, hg⟩) ?_
  rintro ⟨A2, c2⟩ hphi
  dsimp only at hphi ⊢
  refine wl_nil ?_
  refine nw 6 7 (fun _ hm => ⟨hm.bl 0, hm.fa 0, trivial⟩) fun z => ?_
  refine wa1 3 rfl ?_
  refine wl_buildSlice (e := 92) (cs := [.string x0, .string x1, .int .i64 x2, .int .i64 x3, .int .i64 x4, .int .i64 x5]) rfl (by kernel_rfl) rfl fun g2 => ?_
  refine wl_nil ?_
  refine nw 6 15 (fun _ hm => ⟨hm.bl 1, hm.fa 0, trivial⟩) fun z => ?_
  refine wa1 4 rfl ?_
  refine wl_append (news := [.string x0, .string x1, .int .i64 x2, .int .i64 x3, .int .i64 x4, .int .i64 x5]) 0 0 ap76 rfl rfl rfl rfl rfl rfl rfl (by omega) (by unfold maxLen; omega) rfl rfl fun u1 hu1 => ?_
  rw [show l.flatMap bkEnc ++ ([.string x0, .string x1, .int .i64 x2, .int .i64 x3, .int .i64 x4, .int .i64 x5] : List Value) = (l ++ [(⟨x0, x1, x2, x3, x4, x5⟩ : Bk)]).flatMap bkEnc from by simp [bkEnc]]
  refine wl_look (R := ∃ A cc, u1 = .slice A (n + 1) cc) (fun wx hm => own_slice (hm.ownI 0 rfl)) ?_
  rintro ⟨A3, c3, rfl⟩
  refine wl_nil ?_
  refine nw 6 31 (fun _ hm => ⟨hm.bl 1, hm.fa 0, trivial⟩) fun z => ?_
  refine wt 5 6 63 rfl z (ov_assign rfl) ?_
  refine wa_done (by kernel_rfl) ?_
  refine nx_then (sr_ (mv_ rfl ?_))
  refine wl_look (R := ∃ g, A3 = some ⟨g, 0, none⟩) (fun wx hm => own_addr (hm.ownI 0 rfl) (by omega)) ?_
  rintro ⟨g5, rfl⟩
  refine wl_callr (v := .tuple #[]) (xs' := (withB l ⟨x0, x1, x2, x3, x4, x5⟩).flatMap bkEnc) 0 rfl rfl rfl cb229 rfl rfl (fun wx hm => sort_kz (l ++ [(⟨x0, x1, x2, x3, x4, x5⟩ : Bk)]) g5 (n + 1) c3 _ wx (hm.ownI 0 rfl) (by simp [hlen]) (by omega)) ?_
  refine nn_ (sr_ (mv_ rfl (sg_ rfl (nn_ ?_))))
  refine gw_ret ?_
  refine nx_ret1 rfl rfl fun wx hm => ?_
  exact ⟨_, c3, rfl, (hm.ownI 0 rfl), hm.g⟩
 refine wl_buildSlice (e := 92) (cs := [.string x0, .string x1, .int .i64 x2, .int .i64 x3, .int .i64 x4, .int .i64 x5]) rfl (by kernel_rfl) rfl fun g3 => ?_
 refine wl_nil ?_
 refine nw 6 13 (fun _ hm => ⟨hm.bl 1, hm.fa 0, trivial⟩) fun z => ?_
 refine wa1 1 rfl ?_
 refine wl_callgo (γ := Option Addr × Nat) (val := (fun g => .slice g.1 n g.2)) (φ := (fun g => True)) (fun g => ⟨.slice g.1 n g.2, 92, 6, n, l.flatMap bkEnc⟩) rfl cb144 rfl rfl (fun wx hm => (cloneBks_any l A n c wx (hm.fact 0 rfl).1 (by omega)).mono fun _ _ ⟨A, c, he, ho, hg⟩ => ⟨(A, c), he, trivial, ho, hg⟩) ?_
 rintro ⟨A2, c2⟩ hphi
 dsimp only at hphi ⊢
 refine wl_nil ?_
 refine nw 6 15 (fun _ hm => ⟨hm.bl 1, hm.fa 0, trivial⟩) fun z => ?_
 refine wa1 4 rfl ?_
 refine wl_append (news := [.string x0, .string x1, .int .i64 x2, .int .i64 x3, .int .i64 x4, .int .i64 x5]) 0 0 ap76 rfl rfl rfl rfl rfl rfl rfl (by omega) (by unfold maxLen; omega) rfl rfl fun u1 hu1 => ?_
 rw [show l.flatMap bkEnc ++ ([.string x0, .string x1, .int .i64 x2, .int .i64 x3, .int .i64 x4, .int .i64 x5] : List Value) = (l ++ [(⟨x0, x1, x2, x3, x4, x5⟩ : Bk)]).flatMap bkEnc from by simp [bkEnc]]
 refine wl_look (R := ∃ A cc, u1 = .slice A (n + 1) cc) (fun wx hm => own_slice (hm.ownI 0 rfl)) ?_
 rintro ⟨A3, c3, rfl⟩
 refine wl_nil ?_
 refine nw 6 31 (fun _ hm => ⟨hm.bl 1, hm.fa 0, trivial⟩) fun z => ?_
 refine wt 5 6 63 rfl z (ov_assign rfl) ?_
 refine wa_done (by kernel_rfl) ?_
 refine nx_then (sr_ (mv_ rfl ?_))
 refine wl_look (R := ∃ g, A3 = some ⟨g, 0, none⟩) (fun wx hm => own_addr (hm.ownI 0 rfl) (by omega)) ?_
 rintro ⟨g5, rfl⟩
 refine wl_callr (v := .tuple #[]) (xs' := (withB l ⟨x0, x1, x2, x3, x4, x5⟩).flatMap bkEnc) 0 rfl rfl rfl cb229 rfl rfl (fun wx hm => sort_kz (l ++ [(⟨x0, x1, x2, x3, x4, x5⟩ : Bk)]) g5 (n + 1) c3 _ wx (hm.ownI 0 rfl) (by simp [hlen]) (by omega)) ?_
 refine nn_ (sr_ (mv_ rfl (sg_ rfl (nn_ ?_))))
 refine gw_ret ?_
 refine nx_ret1 rfl rfl fun wx hm => ?_
 exact ⟨_, c3, rfl, (hm.ownI 0 rfl), hm.g⟩
theorem with_kz (l : List Bk) (A : Option Addr) (n c : Nat) (x0 x1 : ByteArray) (x2 x3 x4 x5 : Int) (w : World) (hl : SlT bkEnc 6 92 w A n l) (hn : n ≤ 11) :
    Calls Tryz.prog 140 #[.slice A n c, .agg #[.string x0, .string x1, .int .i64 x2, .int .i64 x3, .int .i64 x4, .int .i64 x5]] w (fun e w' => ∃ (A' : Option Addr) (c' : Nat), e = .returned (.slice A' (n + 1) c') ∧ SlT bkEnc 6 92 w' A' (n + 1) (withB l ⟨x0, x1, x2, x3, x4, x5⟩) ∧ w.grownBy w' none) :=
  (with_kzO l A n c x0 x1 x2 x3 x4 x5 w hl hn).mono fun _ _ ⟨A2, c2, he, ho, hg⟩ => ⟨A2, c2, he, SlT.ofOwn bk_len ho (by rw [withB_len, hl.len]), hg⟩
end Go.Proofs.YtempjmpfdniecaaGreatDoor
namespace Go.Proofs.YtempjmpfdniecaaGreatDoor
open Go.RowKit
def TimOk (T : List (Int × Int)) : Prop := ∀ t ∈ T, 0 ≤ t.1 ∧ t.1 < t.2 ∧ t.2 ≤ 5761439
def BkTim (l : List Bk) : Prop := ∀ b ∈ l, 0 ≤ b.fr ∧ b.fr < b.to_ ∧ b.to_ ≤ 5761439
theorem form_tim {l : List Bk} (h : formE l = 0) : BkTim l := fun b hb => by
  unfold formE at h
  split at h
  · cases h
  · obtain ⟨q, hq⟩ := scanE_all h b hb
    have := bookE_ok hq
    exact ⟨this.1, this.2.1, this.2.2.1⟩
def busyT (T : List (Int × Int)) (a b : Int) : Int × Int := busyF (onT T) (sortI (a :: frsM a b T))
theorem busyF_stp {f : Int → Nat} {S : List Int} {k : Nat} {x : Int} (h : S[k]? = some x) (hc : (busyF f (S.take k)).1 < (f x : Int)) : (busyF f (S.take (k + 1))).1 = (f x : Int) ∧ (busyF f (S.take (k + 1))).2 = x := by
  rw [busyF_take h]; unfold busyS; rw [if_pos hc]; exact ⟨rfl, rfl⟩
theorem busyF_sty {f : Int → Nat} {S : List Int} {k : Nat} {x : Int} (h : S[k]? = some x) (hc : ¬ (busyF f (S.take k)).1 < (f x : Int)) : busyF f (S.take (k + 1)) = busyF f (S.take k) := by
  rw [busyF_take h]; unfold busyS; rw [if_neg hc]
theorem busiest_any (T : List (Int × Int)) (A : Option Addr) (n c : Nat) (a b : Int) (w : World) (ht : SlT wEnc 2 27 w A n T) (hT : TimOk T) (hn : n ≤ 1000) (hb : 0 ≤ b ∧ b ≤ 5761440) :
  Calls Tryz.prog 320 #[.slice A n c, .agg #[.int .i64 a, .int .i64 b]] w (fun e w' => e = .returned (.tuple #[.int .i64 (busyT T a b).1, .int .i64 (busyT T a b).2]) ∧ w.grownBy w' none) := by
 refine gw_enter ⟨71, w, none, []⟩ Tryz.func320 rfl Tryz.ntmps320 rfl (mem0 (X := [SlOld wEnc 2 27 w.heap.size none A n T]) (allF_cons ht.old allF_nil) (allL_cons SlOld.lasts allL_nil)) ?_
 refine sr_ ?_
 have hlen := ht.len
 refine wl_box rfl rfl rfl fun g1 => ?_
 refine sg_ rfl (sg_ rfl (nn_ (sr_ (fd_ fo27_0 rfl rfl (lk_ sc3 0 rfl rfl rfl ?_)))))
 refine wl_buildSlice (e := 3) (cs := [.int .i64 a]) rfl (by kernel_rfl) rfl fun g2 => ?_
 refine sg_ rfl (nn_ (gw_seq (sr_ (mv_ rfl (wl_ov (ov_len es341 rfl) rfl (mv_ rfl (nn_ (gw_block ?_))))))))
 refine gw_toOwn (sz := 1) (n := 1) 0 [1] rfl rfl rfl (by unfold maxLen; omega) ?_
 refine gw_loop (γ := Nat × Nat × Value × List Value) (fun g => g.1 ≤ n ∧ (frsM a b (T.take g.1)).length = g.2.1 ∧ g.2.1 ≤ g.1 ∧ g.2.2.2 = (a :: frsM a b (T.take g.1)).flatMap iEnc) (fun g => [(0, .slice A n c), (3, .pointer (some ⟨g1, 0, none⟩)), (4, .int .i64 0), (5, .int .i64 0), (6, g.2.2.1), (19, .slice A n c), (20, .int .i64 ((n : Nat) : Int)), (21, .int .i64 ((g.1 : Nat) : Int))]) (fun g => fun _ => True) (fun g => [(g1, 27, [.int .i64 a, .int .i64 b])]) (fun g => [⟨g.2.2.1, 3, 1, (g.2.1 + 1), g.2.2.2⟩]) (fun g => [SlOld wEnc 2 27 w.heap.size none A n T]) (fun g => n - g.1) (0, 0, .slice (some ⟨g2, 0, none⟩) 1 1, [.int .i64 a]) ⟨Nat.zero_le _, by simp [frsM], Nat.le_refl _, by simp [frsM, iEnc]⟩ ⟨rfl, rfl, rfl, rfl, rfl, rfl, rfl, rfl, trivial⟩ (fun _ hm => hm.pick [0] [0] [0] rfl rfl) ?_
 rintro ⟨i, k, v, xs⟩ hinv
 replace hinv : i ≤ n ∧ (frsM a b (T.take i)).length = k ∧ k ≤ i ∧ xs = (a :: frsM a b (T.take i)).flatMap iEnc := hinv
 dsimp only
 refine sr_ ?_
 obtain ⟨hi0, hk, hki, rfl⟩ := hinv
 refine wl_ov (ov_lss rfl rfl) rfl (nn_ (gw_seq ?_))
 refine gw_cond rfl (fun hh => ?_) (fun hh => ?_)
 ·have hi : ((i : Nat) : Int) < ((n : Nat) : Int) := by simpa using hh
  clear hh
  refine gw_skip (nx_then (gw_seq (gw_block (sr_ ?_))))
  obtain ⟨bt, off, hA, _, _⟩ := ht.get (by omega)
  subst hA
  obtain ⟨x, hx⟩ : ∃ x, T[i]? = some x := ⟨_, List.getElem?_eq_getElem (by omega)⟩
  obtain ⟨fr, tt⟩ := x
  obtain ⟨ht0, ht1, ht2⟩ := hT _ (List.mem_of_getElem? hx)
  dsimp only at ht0 ht1 ht2
  have hft := frsM_take (a := a) (b := b) hx
  refine wl_ov (ov_index (j := i) es341 rfl rfl (by omega)) rfl ?_
  refine wl_ov (ov_elem (vs := [.int .i64 fr, .int .i64 tt]) rz27 rfl (fun _ hm => (hm.fact 0 rfl).1) hx rfl rfl) rfl ?_
  refine wl_alloc zc27 rfl fun g3 => ?_
  refine wl_stores (cs' := [.int .i64 fr, .int .i64 tt]) 0 rz27 rfl rfl rfl rfl rfl rfl rfl rfl ?_
  refine nn_ (sr_ (fd_ fo27_0 rfl rfl (lk_ sc3 0 rfl rfl rfl (fd_ fo27_0 rfl rfl (lk_ sc3 1 rfl rfl rfl (fd_ fo27_1 rfl rfl (lk_ sc3 1 rfl rfl rfl ?_)))))))
  refine wl_ov (ov_sub rfl rfl (by omega) (by omega)) rfl ?_
  refine wl_callw rfl cb166 rfl rfl (fun wx hm => (in_any _ _ _ wx)) ?_
  refine nn_ ?_
  refine gw_cond rfl (fun hh => ?_) (fun hh => ?_)
  ·have hq : (inB fr a (b - 1)) = true := by simpa using hh
   clear hh
   refine gw_region ?_
   rw [if_pos hq] at hft
   refine mv_ rfl (fd_ fo27_0 rfl rfl (lk_ sc3 0 rfl rfl rfl ?_))
   refine wl_buildSlice (e := 3) (cs := [.int .i64 fr]) rfl (by kernel_rfl) rfl fun g4 => ?_
   refine wl_append (news := [.int .i64 fr]) 0 0 ap22 rfl rfl rfl rfl rfl rfl rfl (by omega) (by unfold maxLen; omega) rfl rfl fun v2 hv2 => ?_
   refine sg_ rfl (wl_nil (nx_blk_nrm (nx_then (gw_region (ad_ rfl rfl (mv_ rfl (wl_nil ?_)))))))
   exact nx_round (i + 1, k + 1, v2, (a :: frsM a b (T.take i)).flatMap iEnc ++ ([.int .i64 fr] : List Value)) ⟨by dsimp only; omega, by rw [hft]; simp [hk], by dsimp only; omega, by rw [hft]; simp [iEnc]⟩ (by dsimp only; omega) ⟨rfl, rfl, rfl, rfl, rfl, rfl, rfl, (some_int (by omega)), trivial⟩ (fun _ hm => hm.pick [2] [0] [0] rfl rfl)
  have hq : (inB fr a (b - 1)) = false := by simpa using hh
  clear hh
  refine gw_skip (nx_blk_nrm (nx_then (gw_region ?_)))
  rw [if_neg (by rw [hq]; decide), List.append_nil] at hft
  refine ad_ rfl rfl (mv_ rfl (wl_nil ?_))
  exact nx_round (i + 1, k, v, (a :: frsM a b (T.take i)).flatMap iEnc) ⟨by dsimp only; omega, by rw [hft]; exact hk, by dsimp only; omega, by rw [hft]⟩ (by dsimp only; omega) ⟨rfl, rfl, rfl, rfl, rfl, rfl, rfl, (some_int (by omega)), trivial⟩ (fun _ hm => hm.pick [1] [0] [0] rfl rfl)
 have hi : ¬ (((i : Nat) : Int) < ((n : Nat) : Int)) := by simpa using hh
 clear hh
 refine gw_exit ?_
 refine nx_then_exit (nx_then_exit ?_)
 refine nx_blk_here ?_
 refine nx_then (sr_ ?_)
 have hall : T.take i = T := List.take_of_length_le (by omega)
 rw [hall] at hk ⊢
 obtain ⟨S, hS⟩ : ∃ S, S = sortI (a :: frsM a b T) := ⟨_, rfl⟩
 have hSl : S.length = k + 1 := by rw [hS, sortI_len, List.length_cons, hk]
 have hgoal : busyT T a b = busyF (onT T) S := by unfold busyT; rw [hS]
 rw [hgoal]
 refine wl_look (R := ∃ A cc, v = .slice A (k + 1) cc) (fun wx hm => own_slice (hm.ownI 0 rfl)) ?_
 rintro ⟨A3, c3, rfl⟩
 refine wl_look (R := ∃ g, A3 = some ⟨g, 0, none⟩) (fun wx hm => own_addr (hm.ownI 0 rfl) (by omega)) ?_
 rintro ⟨g3, rfl⟩
 refine mv_ rfl ?_
 refine wl_callr (v := .tuple #[]) (xs' := S.flatMap iEnc) 0 rfl rfl rfl cb136 rfl rfl (fun wx hm => (by have h := sort_own (a :: frsM a b T) g3 (k + 1) c3 _ wx (hm.ownI 0 rfl) (by simp [hk]) (by omega); rw [← hS] at h; exact h)) ?_
 refine nn_ (sr_ (sg_ rfl ?_))
 refine wl_set 9 (v' := .int .i64 (-1)) rfl rfl ?_
 refine sg_ rfl (nn_ (gw_seq (sr_ (mv_ rfl (wl_ov (ov_len es22 rfl) rfl (mv_ rfl (nn_ (gw_block ?_))))))))
 refine gw_loop (γ := Nat) (fun (j : Nat) => j ≤ k + 1) (fun (j : Nat) => [(0, .slice A n c), (4, .int .i64 0), (5, .int .i64 0), (9, .int .i64 ((busyF (onT T) (S.take j)).1)), (10, .int .i64 ((busyF (onT T) (S.take j)).2)), (41, .slice (some ⟨g3, 0, none⟩) (k + 1) c3), (42, .int .i64 (((k + 1) : Nat) : Int)), (43, .int .i64 ((j : Nat) : Int))]) (fun (j : Nat) => fun _ => True) (fun (j : Nat) => [(g1, 27, [.int .i64 a, .int .i64 b])]) (fun (j : Nat) => [⟨.slice (some ⟨g3, 0, none⟩) (k + 1) c3, 3, 1, (k + 1), S.flatMap iEnc⟩]) (fun (j : Nat) => [SlOld wEnc 2 27 w.heap.size none A n T]) (fun (j : Nat) => k + 1 - j) 0 (Nat.zero_le _) ⟨rfl, rfl, rfl, (some_int (by rw [List.take_zero]; rfl)), (some_int (by rw [List.take_zero]; rfl)), rfl, rfl, rfl, trivial⟩ (fun _ hm => hm.pick [0] [0] [0] rfl rfl) ?_
 intro j hinv
 replace hinv : j ≤ k + 1 := hinv
 refine sr_ (wl_ov (ov_lss rfl rfl) rfl (nn_ (gw_seq ?_)))
 refine gw_cond rfl (fun hh => ?_) (fun hh => ?_)
 ·have hj : ((j : Nat) : Int) < (((k + 1) : Nat) : Int) := by simpa using hh
  clear hh
  refine gw_skip (nx_then (gw_seq (gw_block (sr_ ?_))))
  obtain ⟨x, hxS⟩ : ∃ x, S[j]? = some x := ⟨_, List.getElem?_eq_getElem (by omega)⟩
  refine wl_ov (ov_index (j := j) es22 rfl rfl (by omega)) rfl ?_
  refine wl_ov (ov_elem1 (k := 0) (v := .int .i64 x) sc3 rfl (fun _ hm => (SlT.ofOwn i_len (hm.ownI 0 rfl) hSl)) hxS rfl rfl) rfl ?_
  refine sg_ rfl (nn_ (sr_ (sg_ rfl (nn_ (gw_seq (sr_ (mv_ rfl (wl_ov (ov_len es341 rfl) rfl (mv_ rfl ?_)))))))))
  refine nn_ (gw_block ?_)
  refine gw_loop (γ := Nat) (fun (i : Nat) => i ≤ n) (fun (i : Nat) => [(0, .slice A n c), (4, .int .i64 0), (5, .int .i64 0), (9, .int .i64 ((busyF (onT T) (S.take j)).1)), (10, .int .i64 ((busyF (onT T) (S.take j)).2)), (12, .int .i64 x), (13, .int .i64 ((onT (T.take i) x : Nat) : Int)), (41, .slice (some ⟨g3, 0, none⟩) (k + 1) c3), (42, .int .i64 (((k + 1) : Nat) : Int)), (43, .int .i64 ((j : Nat) : Int)), (47, .slice A n c), (48, .int .i64 ((n : Nat) : Int)), (49, .int .i64 ((i : Nat) : Int))]) (fun (i : Nat) => fun _ => True) (fun (i : Nat) => [(g1, 27, [.int .i64 a, .int .i64 b])]) (fun (i : Nat) => [⟨.slice (some ⟨g3, 0, none⟩) (k + 1) c3, 3, 1, (k + 1), S.flatMap iEnc⟩]) (fun (i : Nat) => [SlOld wEnc 2 27 w.heap.size none A n T]) (fun (i : Nat) => n - i) 0 (Nat.zero_le _) ⟨rfl, rfl, rfl, rfl, rfl, rfl, (some_int (by rw [List.take_zero]; rfl)), rfl, rfl, rfl, rfl, rfl, rfl, trivial⟩ (fun _ hm => hm.pick [0] [0] [0] rfl rfl) ?_
  intro i hinv
  replace hinv : i ≤ n := hinv
  refine sr_ (wl_ov (ov_lss rfl rfl) rfl (nn_ (gw_seq ?_)))
  refine gw_cond rfl (fun hh => ?_) (fun hh => ?_)
  ·have hi3 : ((i : Nat) : Int) < ((n : Nat) : Int) := by simpa using hh
   clear hh
   refine gw_skip (nx_then (gw_seq (gw_block (sr_ ?_))))
   obtain ⟨bt, off, hA, _, _⟩ := ht.get (by omega)
   subst hA
   obtain ⟨x3, hx3⟩ : ∃ x, T[i]? = some x := ⟨_, List.getElem?_eq_getElem (by omega)⟩
   obtain ⟨fr, tt⟩ := x3
   obtain ⟨ht0, ht1, ht2⟩ := hT _ (List.mem_of_getElem? hx3)
   dsimp only at ht0 ht1 ht2
   have hon := onT_take (x := x) hx3
   have hob := onT_le (T.take i) x
   have hobl : (T.take i).length ≤ n := by rw [List.length_take]; omega
   refine wl_ov (ov_index (j := i) es341 rfl rfl (by omega)) rfl ?_
   refine wl_ov (ov_elem (vs := [.int .i64 fr, .int .i64 tt]) rz27 rfl (fun _ hm => (hm.fact 0 rfl).1) hx3 rfl rfl) rfl ?_
   refine wl_alloc zc27 rfl fun g5 => ?_
   refine wl_stores (cs' := [.int .i64 fr, .int .i64 tt]) 0 rz27 rfl rfl rfl rfl rfl rfl rfl rfl ?_
   refine nn_ (sr_ (mv_ rfl (fd_ fo27_0 rfl rfl (lk_ sc3 0 rfl rfl rfl (fd_ fo27_1 rfl rfl (lk_ sc3 0 rfl rfl rfl ?_))))))
   refine wl_ov (ov_sub rfl rfl (by omega) (by omega)) rfl ?_
   refine wl_callw rfl cb166 rfl rfl (fun wx hm => (in_any _ _ _ wx)) ?_
   refine nn_ ?_
   refine gw_cond rfl (fun hh => ?_) (fun hh => ?_)
   ·have hq : (inB x fr (tt - 1)) = true := by simpa using hh
    clear hh
    refine gw_region ?_
    rw [if_pos hq] at hon
    refine mv_ rfl (ad_ rfl rfl (sg_ rfl (wl_nil (nx_blk_nrm (nx_then (gw_region (ad_ rfl rfl (mv_ rfl (wl_nil ?_)))))))))
    exact nx_round (i + 1) (by omega) (by omega) ⟨rfl, rfl, rfl, rfl, rfl, rfl, (some_int (by rw [hon]; omega)), rfl, rfl, rfl, rfl, rfl, (some_int (by omega)), trivial⟩ (fun _ hm => hm.pick [1] [0] [0] rfl rfl)
   have hq : (inB x fr (tt - 1)) = false := by simpa using hh
   clear hh
   refine gw_skip (nx_blk_nrm (nx_then (gw_region ?_)))
   rw [if_neg (by rw [hq]; decide)] at hon
   refine ad_ rfl rfl (mv_ rfl (wl_nil ?_))
   exact nx_round (i + 1) (by omega) (by omega) ⟨rfl, rfl, rfl, rfl, rfl, rfl, (some_int (by rw [hon]; omega)), rfl, rfl, rfl, rfl, rfl, (some_int (by omega)), trivial⟩ (fun _ hm => hm.pick [1] [0] [0] rfl rfl)
  have hi3 : ¬ (((i : Nat) : Int) < ((n : Nat) : Int)) := by simpa using hh
  clear hh
  refine gw_exit ?_
  refine nx_then_exit (nx_then_exit ?_)
  refine nx_blk_here ?_
  refine nx_then (sr_ ?_)
  have hall3 : T.take i = T := List.take_of_length_le (by omega)
  rw [hall3]
  refine mv_ rfl (mv_ rfl ?_)
  refine wl_ov (ov_gtr rfl rfl) rfl ?_
  refine nn_ ?_
  refine gw_cond rfl (fun hh => ?_) (fun hh => ?_)
  ·have hc : (busyF (onT T) (S.take j)).1 < ((onT T x : Nat) : Int) := by simpa using hh
   clear hh
   refine gw_region ?_
   have hst := busyF_stp (f := onT T) hxS hc
   refine mv_ rfl (mv_ rfl (sg_ rfl (sg_ rfl (wl_nil (nx_blk_nrm (nx_then (gw_region (ad_ rfl rfl (mv_ rfl (wl_nil ?_))))))))))
   exact nx_round (j + 1) (by omega) (by omega) ⟨rfl, rfl, rfl, (some_int hst.1.symm), (some_int hst.2.symm), rfl, rfl, (some_int (by omega)), trivial⟩ (fun _ hm => hm.pick [0] [0] [0] rfl rfl)
  have hc : ¬ ((busyF (onT T) (S.take j)).1 < ((onT T x : Nat) : Int)) := by simpa using hh
  clear hh
  refine gw_skip (nx_blk_nrm (nx_then (gw_region ?_)))
  have hst := busyF_sty (f := onT T) hxS hc
  refine ad_ rfl rfl (mv_ rfl (wl_nil ?_))
  exact nx_round (j + 1) (by omega) (by omega) ⟨rfl, rfl, rfl, (some_int (by rw [hst])), (some_int (by rw [hst])), rfl, rfl, (some_int (by omega)), trivial⟩ (fun _ hm => hm.pick [0] [0] [0] rfl rfl)
 have hj : ¬ (((j : Nat) : Int) < (((k + 1) : Nat) : Int)) := by simpa using hh
 clear hh
 refine gw_exit ?_
 refine nx_then_exit (nx_then_exit ?_)
 refine nx_blk_here ?_
 refine nx_then (sr_ (mv_ rfl (mv_ rfl (sg_ rfl (sg_ rfl (nn_ ?_))))))
 refine gw_ret ?_
 have hall2 : S.take j = S := List.take_of_length_le (by omega)
 refine nx_ret2 rfl rfl rfl fun wx hm => ?_
 exact ⟨by rw [hall2], hm.g⟩
theorem checkE_eq (cs : List Cs) (l : List Bk) : checkE cs l = firstE [classesE cs, formE l, if l.any (fun b => noB cs b.cls) = true then 8 else 0] := by
  unfold checkE classedE
  by_cases h : classesE cs = 0
  · rw [h]
    by_cases h2 : formE l = 0
    · rw [if_neg (by simpa using h2), h2]; simp [firstE]
    · rw [if_pos h2]; simp [firstE, h2]
  · simp [firstE, h]
theorem bf1_any (cs : List Cs) (A0 : Option Addr) (n0 c0 : Nat) (gc : Nat) (w : World) (hcs : SlT csEnc 2 158 w A0 n0 cs) (hco : ∀ x ∈ cs, CsOk x) (hn0 : n0 ≤ 1000) (hgc : Blk w gc 58 [.slice A0 n0 c0]) :
  Calls Tryz.prog 147 #[.pointer (some ⟨gc, 0, none⟩)] w (GotE w (classesE cs)) := by
 refine gw_enter ⟨4, w, none, []⟩ Tryz.func147 rfl Tryz.ntmps147 rfl (mem0 (X := [SlOld csEnc 2 158 w.heap.size none A0 n0 cs, BlkOld w.heap.size none gc 58 [.slice A0 n0 c0]]) (allF_cons hcs.old (allF_cons hgc.old allF_nil)) (allL_cons SlOld.lasts (allL_cons BlkOld.lasts allL_nil))) ?_
 refine sr_ ?_
 obtain ⟨EE, hEE⟩ : ∃ E : Int, E = (classesE cs) := ⟨_, rfl⟩
 rw [← hEE]
 refine sg_ rfl (nn_ (sr_ ?_))
 refine wl_ov (ov_load (v := .slice A0 n0 c0) sc58 rfl (fun _ hm => (hm.fact 1 rfl).2) rfl) rfl ?_
 refine wl_callv (v := .int .i64 EE) rfl cb148 rfl rfl (fun wx hm => (by rw [hEE]; exact classesFault_any cs A0 n0 c0 wx (hm.fact 0 rfl).1 hco (by omega))) ?_
 refine sg_ rfl (nn_ ?_)
 refine gw_ret ?_
 refine nx_ret1 rfl rfl fun wx hm => ?_
 exact ⟨rfl, hm.g⟩
theorem bf2_any (l : List Bk) (A : Option Addr) (n c : Nat) (gb : Nat) (w : World) (hl : SlT bkEnc 6 92 w A n l) (hok : ∀ x ∈ l, BkOk x) (hn : n ≤ 1000) (hgb : Blk w gb 76 [.slice A n c]) :
  Calls Tryz.prog 149 #[.pointer (some ⟨gb, 0, none⟩)] w (GotE w (formE l)) := by
 refine gw_enter ⟨4, w, none, []⟩ Tryz.func149 rfl Tryz.ntmps149 rfl (mem0 (X := [SlOld bkEnc 6 92 w.heap.size none A n l, BlkOld w.heap.size none gb 76 [.slice A n c]]) (allF_cons hl.old (allF_cons hgb.old allF_nil)) (allL_cons SlOld.lasts (allL_cons BlkOld.lasts allL_nil))) ?_
 refine sr_ ?_
 obtain ⟨EE, hEE⟩ : ∃ E : Int, E = (formE l) := ⟨_, rfl⟩
 rw [← hEE]
 refine sg_ rfl (nn_ (sr_ ?_))
 refine wl_ov (ov_load (v := .slice A n c) sc76 rfl (fun _ hm => (hm.fact 1 rfl).2) rfl) rfl ?_
 refine wl_callv (v := .int .i64 EE) rfl cb137 rfl rfl (fun wx hm => (by rw [hEE]; exact bookingForm_any l A n c wx (hm.fact 0 rfl).1 hok (by omega))) ?_
 refine sg_ rfl (nn_ ?_)
 refine gw_ret ?_
 refine nx_ret1 rfl rfl fun wx hm => ?_
 exact ⟨rfl, hm.g⟩
theorem bf3_any (cs : List Cs) (A0 : Option Addr) (n0 c0 : Nat) (l : List Bk) (A : Option Addr) (n c : Nat) (gc gb : Nat) (w : World) (hcs : SlT csEnc 2 158 w A0 n0 cs) (hco : ∀ x ∈ cs, CsOk x) (hn0 : n0 ≤ 1000) (hl : SlT bkEnc 6 92 w A n l) (hok : ∀ x ∈ l, BkOk x) (hn : n ≤ 1000) (hgc : Blk w gc 58 [.slice A0 n0 c0]) (hgb : Blk w gb 76 [.slice A n c]) :
  Calls Tryz.prog 150 #[.pointer (some ⟨gc, 0, none⟩), .pointer (some ⟨gb, 0, none⟩)] w (GotE w (if l.any (fun b => noB cs b.cls) = true then 8 else 0)) := by
 refine gw_enter ⟨6, w, none, []⟩ Tryz.func150 rfl Tryz.ntmps150 rfl (mem0 (X := [SlOld csEnc 2 158 w.heap.size none A0 n0 cs, SlOld bkEnc 6 92 w.heap.size none A n l, BlkOld w.heap.size none gc 58 [.slice A0 n0 c0], BlkOld w.heap.size none gb 76 [.slice A n c]]) (allF_cons hcs.old (allF_cons hl.old (allF_cons hgc.old (allF_cons hgb.old allF_nil)))) (allL_cons SlOld.lasts (allL_cons SlOld.lasts (allL_cons BlkOld.lasts (allL_cons BlkOld.lasts allL_nil))))) ?_
 refine sr_ ?_
 obtain ⟨EE, hEE⟩ : ∃ E : Int, E = (if l.any (fun b => noB cs b.cls) = true then 8 else 0) := ⟨_, rfl⟩
 rw [← hEE]
 refine sg_ rfl (nn_ (sr_ ?_))
 refine wl_ov (ov_load (v := .slice A0 n0 c0) sc58 rfl (fun _ hm => (hm.fact 2 rfl).2) rfl) rfl ?_
 refine wl_ov (ov_load (v := .slice A n c) sc76 rfl (fun _ hm => (hm.fact 3 rfl).2) rfl) rfl ?_
 refine wl_callv (v := .int .i64 EE) rfl cb138 rfl rfl (fun wx hm => (by rw [hEE]; exact known_any cs A0 n0 c0 l A n c wx (hm.fact 0 rfl).1 hco hn0 (hm.fact 1 rfl).1 hok hn)) ?_
 refine sg_ rfl (nn_ ?_)
 refine gw_ret ?_
 refine nx_ret1 rfl rfl fun wx hm => ?_
 exact ⟨rfl, hm.g⟩
theorem bookingsFault_any (cs : List Cs) (A0 : Option Addr) (n0 c0 : Nat) (l : List Bk) (A : Option Addr) (n c : Nat) (w : World) (hcs : SlT csEnc 2 158 w A0 n0 cs) (hco : ∀ x ∈ cs, CsOk x) (hn0 : n0 ≤ 1000) (hl : SlT bkEnc 6 92 w A n l) (hok : ∀ x ∈ l, BkOk x) (hn : n ≤ 1000) :
  Calls Tryz.prog 51 #[.slice A0 n0 c0, .slice A n c] w (GotE w (checkE cs l)) := by
 refine gw_enter ⟨23, w, none, []⟩ Tryz.func51 rfl Tryz.ntmps51 rfl (mem0 (X := [SlOld csEnc 2 158 w.heap.size none A0 n0 cs, SlOld bkEnc 6 92 w.heap.size none A n l]) (allF_cons hcs.old (allF_cons hl.old allF_nil)) (allL_cons SlOld.lasts (allL_cons SlOld.lasts allL_nil))) ?_
 refine sr_ ?_
 rw [checkE_eq]
 obtain ⟨CE, hCE⟩ : ∃ E, E = classesE cs := ⟨_, rfl⟩
 obtain ⟨FE, hFE⟩ : ∃ E, E = formE l := ⟨_, rfl⟩
 obtain ⟨KE, hKE⟩ : ∃ E, E = (if l.any (fun b => noB cs b.cls) = true then (8 : Int) else 0) := ⟨_, rfl⟩
 rw [← hCE, ← hFE, ← hKE]
 refine wl_box rfl rfl rfl fun g1 => ?_
 refine wl_box rfl rfl rfl fun g2 => ?_
 refine sg_ rfl (nn_ (gw_seq (sr_ (wl_ov (ov_makeFunc rfl rfl) rfl (wl_ov (ov_makeFunc rfl rfl) rfl (wl_ov (ov_makeFunc rfl rfl) rfl ?_))))))
 refine wl_buildSlice (e := 84) (cs := [.func (.func 147) #[] #[.pointer (some ⟨g1, 0, none⟩)], .func (.func 149) #[] #[.pointer (some ⟨g2, 0, none⟩)], .func (.func 150) #[] #[.pointer (some ⟨g1, 0, none⟩), .pointer (some ⟨g2, 0, none⟩)]]) rfl (by kernel_rfl) rfl fun g3 => ?_
 refine wl_ov (ov_len es208 rfl) rfl ?_
 refine wl_set 12 (v' := .int .i64 3) rfl rfl ?_
 refine mv_ rfl (nn_ (gw_block ?_))
 refine gw_rounds 4 ?_
 refine gr_next ?_
 refine sr_ (wl_ov (ov_lss rfl rfl) rfl ?_)
 refine wl_set 14 (v' := .bool true) rfl (congrArg Value.bool (by decide)) ?_
 refine nn_ (gw_seq (ct_ rfl (gw_skip (nx_then (gw_seq (gw_block (sr_ ?_)))))))
 refine wl_ov (ov_index (j := 0) es208 rfl rfl (by decide)) rfl ?_
 refine lk_ sc84 0 rfl rfl rfl (sg_ rfl (nn_ (sr_ (mv_ rfl ?_))))
 refine wl_callv (v := .int .i64 CE) rfl cb147 rfl rfl (fun wx hm => (by rw [hCE]; exact bf1_any cs A0 n0 c0 _ wx (hm.fact 0 rfl).1 hco hn0 (hm.blkI 2 rfl))) ?_
 refine sg_ rfl (nn_ (sr_ (mv_ rfl (wl_ov (ov_neq rfl rfl) rfl (nn_ ?_)))))
 refine gw_cond rfl (fun hh => ?_) (fun hh => ?_)
 ·have h0 : ¬ (CE = 0) := by simpa using hh
  clear hh
  refine sr_ (mv_ rfl (sg_ rfl (nn_ ?_)))
  refine gw_ret ?_
  refine nx_blk_ret (nx_then_ret (nx_then_ret (nx_blk_ret (nx_then_ret ?_))))
  refine nx_ret1 rfl rfl fun wx hm => ?_
  exact ⟨ret_int (by simp [firstE, h0]), hm.g⟩
 have h0 : CE = 0 := by simpa using hh
 clear hh
 refine gw_skip (nx_blk_nrm (nx_then (gw_region (ad_ rfl rfl ?_))))
 refine wl_set 22 (v' := .int .i64 1) rfl rfl ?_
 refine mv_ rfl (wl_nil ?_)
 refine nx_next ?_
 refine gr_next ?_
 refine sr_ (wl_ov (ov_lss rfl rfl) rfl ?_)
 refine wl_set 14 (v' := .bool true) rfl (congrArg Value.bool (by decide)) ?_
 refine nn_ (gw_seq (ct_ rfl (gw_skip (nx_then (gw_seq (gw_block (sr_ ?_)))))))
 refine wl_ov (ov_index (j := 1) es208 rfl rfl (by decide)) rfl ?_
 refine lk_ sc84 0 rfl rfl rfl (sg_ rfl (nn_ (sr_ (mv_ rfl ?_))))
 refine wl_callv (v := .int .i64 FE) rfl cb149 rfl rfl (fun wx hm => (by rw [hFE]; exact bf2_any l A n c _ wx (hm.fact 1 rfl).1 hok hn (hm.blkI 1 rfl))) ?_
 refine sg_ rfl (nn_ (sr_ (mv_ rfl (wl_ov (ov_neq rfl rfl) rfl (nn_ ?_)))))
 refine gw_cond rfl (fun hh => ?_) (fun hh => ?_)
 ·have h1 : ¬ (FE = 0) := by simpa using hh
  clear hh
  refine sr_ (mv_ rfl (sg_ rfl (nn_ ?_)))
  refine gw_ret ?_
  refine nx_blk_ret (nx_then_ret (nx_then_ret (nx_blk_ret (nx_then_ret ?_))))
  refine nx_ret1 rfl rfl fun wx hm => ?_
  exact ⟨ret_int (by simp [firstE, h0, h1]), hm.g⟩
 have h1 : FE = 0 := by simpa using hh
 clear hh
 refine gw_skip (nx_blk_nrm (nx_then (gw_region (ad_ rfl rfl ?_))))
 refine wl_set 22 (v' := .int .i64 2) rfl rfl ?_
 refine mv_ rfl (wl_nil ?_)
 refine nx_next ?_
 refine gr_next ?_
 refine sr_ (wl_ov (ov_lss rfl rfl) rfl ?_)
 refine wl_set 14 (v' := .bool true) rfl (congrArg Value.bool (by decide)) ?_
 refine nn_ (gw_seq (ct_ rfl (gw_skip (nx_then (gw_seq (gw_block (sr_ ?_)))))))
 refine wl_ov (ov_index (j := 2) es208 rfl rfl (by decide)) rfl ?_
 refine lk_ sc84 0 rfl rfl rfl (sg_ rfl (nn_ (sr_ (mv_ rfl ?_))))
 refine wl_callv (v := .int .i64 KE) rfl cb150 rfl rfl (fun wx hm => (by rw [hKE]; exact bf3_any cs A0 n0 c0 l A n c _ _ wx (hm.fact 0 rfl).1 hco hn0 (hm.fact 1 rfl).1 hok hn (hm.blkI 2 rfl) (hm.blkI 1 rfl))) ?_
 refine sg_ rfl (nn_ (sr_ (mv_ rfl (wl_ov (ov_neq rfl rfl) rfl (nn_ ?_)))))
 refine gw_cond rfl (fun hh => ?_) (fun hh => ?_)
 ·have h2 : ¬ (KE = 0) := by simpa using hh
  clear hh
  refine sr_ (mv_ rfl (sg_ rfl (nn_ ?_)))
  refine gw_ret ?_
  refine nx_blk_ret (nx_then_ret (nx_then_ret (nx_blk_ret (nx_then_ret ?_))))
  refine nx_ret1 rfl rfl fun wx hm => ?_
  exact ⟨ret_int (by simp [firstE, h0, h1, h2]), hm.g⟩
 have h2 : KE = 0 := by simpa using hh
 clear hh
 refine gw_skip (nx_blk_nrm (nx_then (gw_region (ad_ rfl rfl ?_))))
 refine wl_set 22 (v' := .int .i64 3) rfl rfl ?_
 refine mv_ rfl (wl_nil ?_)
 refine nx_next ?_
 refine gr_next ?_
 refine sr_ (wl_ov (ov_lss rfl rfl) rfl ?_)
 refine wl_set 14 (v' := .bool false) rfl (congrArg Value.bool (by decide)) ?_
 refine nn_ (gw_seq (cf_ rfl ?_))
 refine gw_exit ?_
 refine nx_then_exit (nx_then_exit ?_)
 refine nx_blk_here ?_
 refine nx_then (sr_ (sg_ rfl (nn_ ?_)))
 refine gw_ret ?_
 refine nx_ret1 rfl rfl fun wx hm => ?_
 exact ⟨ret_int (by simp [firstE, h0, h1, h2]), hm.g⟩
end Go.Proofs.YtempjmpfdniecaaGreatDoor
namespace Go.Proofs.YtempjmpfdniecaaGreatDoor
open Go.RowKit
structure Fr where
  num : Int
  den : Int
def frEnc (x : Fr) : List Value := [.int .i64 x.num, .int .i64 x.den]
theorem fr_len (x : Fr) : (frEnc x).length = 2 := rfl
/-- The lowest terms of n / d. -/
def lowF (n d : Nat) : Fr := ⟨((n / Nat.gcd n d : Nat) : Int), ((d / Nat.gcd n d : Nat) : Int)⟩
theorem gcd_step {a b g : Nat} (h : Nat.gcd a b = g) : Nat.gcd b (a % b) = g := by
  rw [Nat.gcd_comm, ← Nat.gcd_rec, Nat.gcd_comm]; exact h
def oddsE (l : List Bk) : Int := firstE [formE l, whenE (decide (9 < (l.length : Int))) 2]
theorem lowest_any (n d : Nat) (w : World) (hn : n ≤ 1000000000000000000) (hd : d ≤ 1000000000000000000) (hd0 : 0 < d) :
  Calls Tryz.prog 193 #[.int .i64 ((n : Nat) : Int), .int .i64 ((d : Nat) : Int)] w (fun e w' => e = .returned (.agg #[.int .i64 (lowF n d).num, .int .i64 (lowF n d).den]) ∧ w.grownBy w' none) := by
 refine gw_enter ⟨25, w, none, []⟩ Tryz.func193 rfl Tryz.ntmps193 rfl (mem0 (X := []) allF_nil allL_nil) ?_
 refine sr_ ?_
 refine wl_alloc zc196 rfl fun g1 => ?_
 refine nn_ (sr_ (mv_ rfl (mv_ rfl ?_)))
 refine wl_ov (ov_neg rfl (by omega) (by omega)) rfl ?_
 refine wl_ov (ov_max rfl rfl) rfl ?_
 refine mv_ rfl (sg_ rfl (sg_ rfl (nn_ (gw_seq (gw_block ?_)))))
 refine gw_loop (γ := Nat × Nat) (fun g => Nat.gcd g.1 g.2 = Nat.gcd n d ∧ g.1 ≤ 1000000000000000000 ∧ g.2 ≤ 1000000000000000000) (fun g => [(0, .int .i64 ((n : Nat) : Int)), (1, .int .i64 ((d : Nat) : Int)), (4, .pointer (some ⟨g1, 0, none⟩)), (5, .int .i64 ((g.1 : Nat) : Int)), (6, .int .i64 ((g.2 : Nat) : Int))]) (fun g => fun _ => True) (fun g => [(g1, 196, [.int .i64 0, .int .i64 0])]) (fun g => []) (fun g => []) (fun g => g.2) (n, d) ⟨rfl, by omega, by omega⟩ ⟨rfl, rfl, rfl, (some_int (by omega)), rfl, trivial⟩ (fun _ hm => hm.pick [0] [] [] rfl rfl) ?_
 rintro ⟨a, b⟩ hinv
 replace hinv : Nat.gcd a b = Nat.gcd n d ∧ a ≤ 1000000000000000000 ∧ b ≤ 1000000000000000000 := hinv
 dsimp only
 refine gw_seq (sr_ (mv_ rfl (wl_ov (ov_neq rfl rfl) rfl (nn_ ?_))))
 refine gw_cond rfl (fun hh => ?_) (fun hh => ?_)
 ·have hb : ¬ (((b : Nat) : Int) = 0) := by simpa using hh
  clear hh
  refine gw_skip (nx_then (gw_block ?_))
  have hb0 : 0 < b := by omega
  have hlt := Nat.mod_lt a hb0
  refine gd (fun wz => Blk wz g1 196 [.int .i64 0, .int .i64 0] ∧ True) mixed (fun _ hm => ⟨hm.bl 0, trivial⟩) fun z => ?_
  refine wt 0 6 1 rfl z (ov_move rfl) ?_
  refine wt 1 6 3 rfl z (ov_move rfl) ?_
  refine wt 2 6 7 rfl z (ov_move rfl) ?_
  refine wt 3 6 15 rfl z (ov_rem rfl rfl (by omega) (by omega) (by omega)) ?_
  refine wt 4 6 31 rfl z (ov_assign rfl) ?_
  refine wt 5 6 63 rfl z (ov_assign rfl) ?_
  refine wa_done (by kernel_rfl) ?_
  refine nx_blk_nrm ?_
  exact nx_round (b, a % b) ⟨gcd_step hinv.1, by dsimp only; omega, by dsimp only; omega⟩ hlt ⟨rfl, rfl, rfl, rfl, (some_int (Int.natCast_emod a b).symm), trivial⟩ (fun _ hm => hm.pick [0] [] [] rfl rfl)
 have hb : ((b : Nat) : Int) = 0 := by simpa using hh
 clear hh
 refine gw_exit ?_
 refine nx_then_exit (nx_then_exit ?_)
 refine nx_blk_here ?_
 refine nx_then (gw_seq ?_)
 have hb0 : b = 0 := by omega
 subst hb0
 have hga : a = Nat.gcd n d := by rw [← hinv.1, Nat.gcd_zero_right]
 have ha0 : 0 < a := by rw [hga]; exact Nat.gcd_pos_of_pos_right n hd0
 refine gd (fun wz => True) mixed (fun _ _ => trivial) fun z => ?_
 refine wt 0 8 1 rfl z (ov_move rfl) ?_
 refine wt 1 8 3 rfl z (ov_move rfl) ?_
 refine wt 2 8 7 rfl z (ov_quo rfl rfl (by omega) (by omega) (by omega)) ?_
 refine wt 3 8 15 rfl z (ov_move rfl) ?_
 refine wt 4 8 31 rfl z (ov_move rfl) ?_
 refine wt 5 8 63 rfl z (ov_quo rfl rfl (by omega) (by omega) (by omega)) ?_
 refine wt 6 8 127 rfl z (ov_build (cs := [.int .i64 (((n : Nat) : Int) / ((a : Nat) : Int)), .int .i64 (((d : Nat) : Int) / ((a : Nat) : Int))]) rfl (by kernel_rfl)) ?_
 refine wa1 7 rfl ?_
 refine wl_stores (cs' := [.int .i64 (((n : Nat) : Int) / ((a : Nat) : Int)), .int .i64 (((d : Nat) : Int) / ((a : Nat) : Int))]) 0 rz196 rfl rfl rfl rfl rfl rfl rfl rfl ?_
 refine wl_nil ?_
 refine nw 8 255 (fun _ _ => trivial) fun z => ?_
 refine wa_done (by kernel_rfl) ?_
 refine nx_then ?_
 refine gw_ret ?_
 refine nx_retc 0 rfl rz196 rfl rfl rfl fun wx hm => ?_
 refine ⟨?_, hm.g⟩
 unfold lowF
 rw [← hga, Int.natCast_ediv, Int.natCast_ediv]
theorem checkOdds_any (l : List Bk) (A : Option Addr) (n c : Nat) (w : World) (hl : SlT bkEnc 6 92 w A n l) (hok : ∀ b ∈ l, BkOk b) (hn : n ≤ 1000000) :
  Calls Tryz.prog 191 #[.slice A n c] w (GotE w (oddsE l)) := by
 refine gw_enter ⟨11, w, none, []⟩ Tryz.func191 rfl Tryz.ntmps191 rfl (mem0 (X := [SlOld bkEnc 6 92 w.heap.size none A n l]) (allF_cons hl.old allF_nil) (allL_cons SlOld.lasts allL_nil)) ?_
 refine sr_ ?_
 have hlen := hl.len
 refine sg_ rfl (nn_ (sr_ (mv_ rfl ?_)))
 refine wl_callv rfl cb253 rfl rfl (fun wx hm => (formed_any l A n c wx (hm.fact 0 rfl).1 hok hn)) ?_
 refine mv_ rfl (wl_ov (ov_len es76 rfl) rfl ?_)
 refine wl_ov (ov_gtr rfl rfl) rfl ?_
 refine wl_callw rfl cb68 rfl rfl (fun wx hm => (when_any _ _ wx)) ?_
 refine wl_buildSlice (e := 33) (cs := [.int .i64 (formE l), .int .i64 (whenE (decide (9 < ((n : Nat) : Int))) 2)]) rfl (by kernel_rfl) rfl fun g1 => ?_
 refine wl_callw rfl cb67 rfl rfl (fun wx hm => (first_any [formE l, whenE (decide (9 < ((n : Nat) : Int))) 2] _ _ _ wx (hm.blkI 0 rfl) (by simp))) ?_
 refine sg_ rfl (nn_ ?_)
 refine gw_ret ?_
 refine nx_ret1 rfl rfl fun wx hm => ?_
 exact ⟨ret_int (by unfold oddsE; rw [hlen]), hm.g⟩
theorem spread_one (A : Option Addr) (c : Nat) (w : World) (hl : SlT bkEnc 6 92 w A 1 [⟨⟨#[97]⟩, ⟨#[99]⟩, 0, 1, 0, 50⟩]) :
  Calls Tryz.prog 192 #[.slice A 1 c] w (fun e w' => ∃ A2 c2, e = .returned (.tuple #[.slice A2 2 c2, .int .i64 100]) ∧ w.grownBy w' none ∧ w'.ownsRow w.heap.size 3 1 (.slice A2 2 c2) 2 [.int .i64 50, .int .i64 50]) := by
 refine gw_enter ⟨58, w, none, []⟩ Tryz.func192 rfl Tryz.ntmps192 rfl (mem0 (X := [SlOld bkEnc 6 92 w.heap.size none A 1 [⟨⟨#[97]⟩, ⟨#[99]⟩, 0, 1, 0, 50⟩]]) (allF_cons hl.old allF_nil) (allL_cons SlOld.lasts allL_nil)) ?_
 refine sr_ (sg_ rfl (sg_ rfl (nn_ (sr_ ?_))))
 refine wl_buildSlice (e := 3) (cs := [.int .i64 1]) rfl (by kernel_rfl) rfl fun g1 => ?_
 refine sg_ rfl (sg_ rfl (nn_ (gw_seq (sr_ (mv_ rfl (wl_ov (ov_len es76 rfl) rfl ?_))))))
 refine wl_set 13 (v' := .int .i64 1) rfl rfl ?_
 refine mv_ rfl (nn_ (gw_block ?_))
 obtain ⟨b, off, hA, _, _⟩ := hl.get (by omega)
 subst hA
 refine gw_rounds 3 ?_
 refine gr_next ?_
 refine sr_ (wl_ov (ov_lss rfl rfl) rfl ?_)
 refine wl_set 15 (v' := .bool true) rfl (congrArg Value.bool (by decide)) ?_
 refine nn_ (gw_seq (ct_ rfl (gw_skip (nx_then (gw_seq (gw_block (sr_ ?_)))))))
 refine wl_ov (ov_index (j := 0) es76 rfl rfl (by omega)) rfl ?_
 refine wl_ov (ov_elem (vs := [.string ⟨#[97]⟩, .string ⟨#[99]⟩, .int .i64 0, .int .i64 1, .int .i64 0, .int .i64 50]) rz92 rfl (fun _ hm => (hm.fact 0 rfl).1) (rfl : [(⟨⟨#[97]⟩, ⟨#[99]⟩, 0, 1, 0, 50⟩ : Bk)][0]? = some ⟨⟨#[97]⟩, ⟨#[99]⟩, 0, 1, 0, 50⟩) rfl rfl) rfl ?_
 refine wl_alloc zc92 rfl fun g2 => ?_
 refine wl_stores (cs' := [.string ⟨#[97]⟩, .string ⟨#[99]⟩, .int .i64 0, .int .i64 1, .int .i64 0, .int .i64 50]) 0 rz92 rfl rfl rfl rfl rfl rfl rfl rfl ?_
 refine nn_ (sr_ (mv_ rfl (wl_ov (ov_len es22 rfl) rfl ?_)))
 refine wl_set 19 (v' := .int .i64 1) rfl rfl ?_
 refine ad_ rfl rfl ?_
 refine wl_set 20 (v' := .int .i64 2) rfl rfl ?_
 refine wl_makeB (n := 2) (e := 3) (by_ := 8) (z := .int .i64 0) (cs := [.int .i64 0, .int .i64 0]) (by kernel_rfl) (by kernel_rfl) rfl rfl rfl rfl rfl (by kernel_rfl) rfl fun g3 => ?_
 refine sg_ rfl (nn_ (gw_seq (sr_ (mv_ rfl (wl_ov (ov_len es22 rfl) rfl ?_)))))
 refine wl_set 23 (v' := .int .i64 1) rfl rfl ?_
 refine mv_ rfl (nn_ (gw_block ?_))
 refine gw_rounds 3 ?_
 refine gr_next ?_
 refine sr_ (wl_ov (ov_lss rfl rfl) rfl ?_)
 refine wl_set 25 (v' := .bool true) rfl (congrArg Value.bool (by decide)) ?_
 refine nn_ (gw_seq (ct_ rfl (gw_skip (nx_then (gw_seq (gw_block (sr_ (mv_ rfl ?_))))))))
 refine wl_ov (ov_index (j := 0) es22 rfl rfl (by decide)) rfl ?_
 refine lk_ sc3 2 rfl rfl rfl (sg_ rfl (sg_ rfl (nn_ (gw_seq ?_))))
 refine gd (fun wz => Blk wz g2 92 [.string ⟨#[97]⟩, .string ⟨#[99]⟩, .int .i64 0, .int .i64 1, .int .i64 0, .int .i64 50] ∧ Blk wz g1 3 [.int .i64 1] ∧ (SlOld bkEnc 6 92 w.heap.size none (some ⟨b, off, none⟩) 1 [⟨⟨#[97]⟩, ⟨#[99]⟩, 0, 1, 0, 50⟩]) wz ∧ True) mixed (fun _ hm => ⟨hm.bl 1, hm.bl 2, hm.fa 0, trivial⟩) fun z => ?_
 refine wt 0 12 1 rfl z (ov_move rfl) ?_
 refine wt 1 12 3 rfl z (ov_move rfl) ?_
 refine wt 2 12 7 rfl z (ov_index (j := 0) es22 rfl rfl (by decide)) ?_
 refine wt 4 12 23 rfl z (ov_move rfl) ?_
 refine wt 5 12 55 rfl z (ov_field fo92_4 rfl rfl) ?_
 refine wt 6 12 119 rfl z (ov_load sc3 rfl (fun _ hm => hm.1) rfl) ?_
 refine wt 7 12 247 rfl z (ov_sub rfl rfl (by omega) (by omega)) ?_
 refine wa_set 36 (v' := .int .i64 50) rfl rfl ?_
 refine wt 8 12 503 rfl z (ov_mul rfl rfl (by omega) (by omega)) ?_
 refine wa_set 37 (v' := .int .i64 50) rfl rfl ?_
 refine wa1 3 rfl ?_
 refine lk_ sc3 0 rfl rfl rfl (wl_nil ?_)
 refine nw 12 511 (fun _ hm => ⟨hm.bl 1, hm.bl 2, hm.fa 0, trivial⟩) fun z => ?_
 refine wt 9 12 1023 rfl z (ov_add rfl rfl (by omega) (by omega)) ?_
 refine wa_set 38 (v' := .int .i64 50) rfl rfl ?_
 refine wt 10 12 2047 rfl z (ov_index (j := 0) es22 rfl rfl (by decide)) ?_
 refine wa1 11 rfl ?_
 refine wl_store 0 sc3 rfl rfl rfl rfl rfl rfl ?_
 refine wl_nil ?_
 refine nw 12 4095 (fun _ hm => ⟨hm.bl 1, hm.bl 2, hm.fa 0, trivial⟩) fun z => ?_
 refine wa_done (by kernel_rfl) ?_
 refine nx_then ?_
 refine gd (fun wz => Blk wz g2 92 [.string ⟨#[97]⟩, .string ⟨#[99]⟩, .int .i64 0, .int .i64 1, .int .i64 0, .int .i64 50] ∧ Blk wz g1 3 [.int .i64 1] ∧ (SlOld bkEnc 6 92 w.heap.size none (some ⟨b, off, none⟩) 1 [⟨⟨#[97]⟩, ⟨#[99]⟩, 0, 1, 0, 50⟩]) wz ∧ True) mixed (fun _ hm => ⟨hm.bl 1, hm.bl 2, hm.fa 0, trivial⟩) fun z => ?_
 refine wt 0 12 1 rfl z (ov_move rfl) ?_
 refine wt 1 12 3 rfl z (ov_move rfl) ?_
 refine wt 2 12 7 rfl z (ov_add rfl rfl (by omega) (by omega)) ?_
 refine wa_set 42 (v' := .int .i64 1) rfl rfl ?_
 refine wt 3 12 15 rfl z (ov_index (j := 1) es22 rfl rfl (by decide)) ?_
 refine wt 5 12 47 rfl z (ov_move rfl) ?_
 refine wt 6 12 111 rfl z (ov_field fo92_4 rfl rfl) ?_
 refine wt 7 12 239 rfl z (ov_load sc3 rfl (fun _ hm => hm.1) rfl) ?_
 refine wt 8 12 495 rfl z (ov_mul rfl rfl (by omega) (by omega)) ?_
 refine wa_set 48 (v' := .int .i64 50) rfl rfl ?_
 refine wa1 4 rfl ?_
 refine lk_ sc3 0 rfl rfl rfl (wl_nil ?_)
 refine nw 12 511 (fun _ hm => ⟨hm.bl 1, hm.bl 2, hm.fa 0, trivial⟩) fun z => ?_
 refine wt 9 12 1023 rfl z (ov_add rfl rfl (by omega) (by omega)) ?_
 refine wa_set 49 (v' := .int .i64 50) rfl rfl ?_
 refine wt 10 12 2047 rfl z (ov_index (j := 1) es22 rfl rfl (by decide)) ?_
 refine wa1 11 rfl ?_
 refine wl_store 0 sc3 rfl rfl rfl rfl rfl rfl ?_
 refine wl_nil ?_
 refine nw 12 4095 (fun _ hm => ⟨hm.bl 1, hm.bl 2, hm.fa 0, trivial⟩) fun z => ?_
 refine wa_done (by kernel_rfl) ?_
 refine nx_blk_nrm (nx_then (gw_region (ad_ rfl rfl ?_)))
 refine wl_set 51 (v' := .int .i64 1) rfl rfl ?_
 refine mv_ rfl (wl_nil ?_)
 refine nx_next ?_
 refine gr_next ?_
 refine sr_ (wl_ov (ov_lss rfl rfl) rfl ?_)
 refine wl_set 25 (v' := .bool false) rfl (congrArg Value.bool (by decide)) ?_
 refine nn_ (gw_seq (cf_ rfl ?_))
 refine gw_exit ?_
 refine nx_then_exit (nx_then_exit ?_)
 refine nx_blk_here ?_
 refine nx_then (gw_region (mv_ rfl (mv_ rfl ?_)))
 refine wl_ov (ov_mul rfl rfl (by omega) (by omega)) rfl ?_
 refine wl_set 54 (v' := .int .i64 100) rfl rfl ?_
 refine sg_ rfl (sg_ rfl (wl_nil (nx_blk_nrm (nx_then (gw_region (ad_ rfl rfl ?_))))))
 refine wl_set 55 (v' := .int .i64 1) rfl rfl ?_
 refine mv_ rfl (wl_nil ?_)
 refine nx_next ?_
 refine gr_next ?_
 refine sr_ (wl_ov (ov_lss rfl rfl) rfl ?_)
 refine wl_set 15 (v' := .bool false) rfl (congrArg Value.bool (by decide)) ?_
 refine nn_ (gw_seq (cf_ rfl ?_))
 refine gw_exit ?_
 refine nx_then_exit (nx_then_exit ?_)
 refine nx_blk_here ?_
 refine nx_then (sr_ (mv_ rfl (mv_ rfl (sg_ rfl (sg_ rfl (nn_ ?_))))))
 refine gw_ret ?_
 refine nx_ret2 rfl rfl rfl fun wx hm => ?_
 exact ⟨_, 2, rfl, hm.g, hm.rowOf 0 rfl rfl (by decide)⟩
end Go.Proofs.YtempjmpfdniecaaGreatDoor
namespace Go.Proofs.YtempjmpfdniecaaGreatDoor
open Go.RowKit
set_option maxRecDepth 100000 in
theorem same_fraction_neq (x0 : Int) (x1 : Int) (w : World) : (binOp .neq 196 (.agg #[.int .i64 x0, .int .i64 x1]) (.agg #[.int .i64 x0, .int .i64 x1])).run Tryz.prog w = .ok (.bool false) w := by
  have hS : Tryz.prog.underlying 196 = some (.struct (Tryz.prog.fieldsOf 196)) := by kernel_rfl
  have hp : Tryz.prog.stoodInHeld 196 = false := by kernel_rfl
  rw [run_neq_struct, show (10000 : Nat) = 9999 + 1 from rfl, run_equalIn_agg w 9999 196 _ _ hS hp]
  simp only [Program.fieldsOf, Tryz.underlying196]
  have u3 := Tryz.underlying3
  clear hS hp
  go_simp
theorem guard_fraction : Tryz.prog.eqGuardType Tryz.prog.depth 196 = false := by kernel_rfl
theorem equal_fraction_any (l : List Fr) (A1 A2 : Option Addr) (n c1 c2 : Nat) (w : World) (h1 : SlT frEnc 2 196 w A1 n l) (h2 : SlT frEnc 2 196 w A2 n l) (hn : n ≤ 1000000) :
  Calls Tryz.prog 132 #[.slice A1 n c1, .slice A2 n c2] w (fun e w' => e = .returned (.bool true) ∧ w.grownBy w' none) := by
 refine gw_enter ⟨26, w, none, []⟩ Tryz.func132 rfl Tryz.ntmps132 rfl (mem0 (X := [SlOld frEnc 2 196 w.heap.size none A1 n l, SlOld frEnc 2 196 w.heap.size none A2 n l]) (allF_cons h1.old (allF_cons h2.old allF_nil)) (allL_cons SlOld.lasts (allL_cons SlOld.lasts allL_nil))) ?_
 refine sr_ ?_
 have hlen := h1.len
 refine sg_ rfl (nn_ (gw_seq (sr_ (mv_ rfl (wl_ov (ov_len es153 rfl) rfl (mv_ rfl (wl_ov (ov_len es153 rfl) rfl (wl_ov (ov_neq rfl rfl) rfl ?_))))))))
 refine wl_set 10 (v' := .bool false) rfl (congrArg Value.bool (by simp)) ?_
 refine nn_ (cf_ rfl (gw_skip (nx_then (gw_seq (sr_ (mv_ rfl (wl_ov (ov_len es153 rfl) rfl (mv_ rfl (nn_ (gw_block ?_))))))))))
 refine gw_loop (γ := Nat) (fun (k : Nat) => k ≤ n) (fun (k : Nat) => [(0, .slice A1 n c1), (1, .slice A2 n c2), (12, .int .i64 ((n : Nat) : Int)), (13, .int .i64 ((k : Nat) : Int))]) (fun (k : Nat) => fun _ => True) (fun (k : Nat) => []) (fun (k : Nat) => []) (fun (k : Nat) => [SlOld frEnc 2 196 w.heap.size none A1 n l, SlOld frEnc 2 196 w.heap.size none A2 n l]) (fun (k : Nat) => n - k) 0 (Nat.zero_le _) ⟨rfl, rfl, rfl, rfl, trivial⟩ (fun _ hm => hm.pick [] [] [0, 1] rfl rfl) ?_
 intro k hinv
 replace hinv : k ≤ n := hinv
 refine sr_ (wl_ov (ov_lss rfl rfl) rfl (nn_ (gw_seq ?_)))
 refine gw_cond rfl (fun hh => ?_) (fun hh => ?_)
 ·have hk : ((k : Nat) : Int) < ((n : Nat) : Int) := by simpa using hh
  clear hh
  refine gw_skip (nx_then (gw_seq (gw_block (sr_ ?_))))
  obtain ⟨b1, o1, hA, _, _⟩ := h1.get (by omega)
  subst hA
  obtain ⟨b2, o2, hA, _, _⟩ := h2.get (by omega)
  subst hA
  obtain ⟨x, hx⟩ : ∃ x, l[k]? = some x := ⟨_, List.getElem?_eq_getElem (by omega)⟩
  obtain ⟨x0, x1⟩ := x
  refine mv_ rfl (sg_ rfl (nn_ (gw_seq ?_)))
  refine gd (fun wz => (SlOld frEnc 2 196 w.heap.size none (some ⟨b1, o1, none⟩) n l) wz ∧ (SlOld frEnc 2 196 w.heap.size none (some ⟨b2, o2, none⟩) n l) wz ∧ True) mixed (fun _ hm => ⟨hm.fa 0, hm.fa 1, trivial⟩) fun z => ?_
  refine wt 0 9 1 rfl z (ov_move rfl) ?_
  refine wt 1 9 3 rfl z (ov_move rfl) ?_
  refine wt 2 9 7 rfl z (ov_index (j := k) es153 rfl rfl (by omega)) ?_
  refine wt 3 9 15 rfl z (ov_elem (vs := [.int .i64 x0, .int .i64 x1]) rz196 rfl (fun _ hm => (hm.1).1) hx rfl rfl) ?_
  refine wt 4 9 31 rfl z (ov_move rfl) ?_
  refine wt 5 9 63 rfl z (ov_move rfl) ?_
  refine wt 6 9 127 rfl z (ov_index (j := k) es153 rfl rfl (by omega)) ?_
  refine wt 7 9 255 rfl z (ov_elem (vs := [.int .i64 x0, .int .i64 x1]) rz196 rfl (fun _ hm => (hm.2.1).1) hx rfl rfl) ?_
  refine wt 8 9 511 rfl z (ov_bin rfl rfl (cmp_agg guard_fraction (fun wx => same_fraction_neq x0 x1 wx))) ?_
  refine wa_done (by kernel_rfl) ?_
  refine nx_then (cf_ rfl (gw_skip (nx_blk_nrm (nx_then (gw_region (ad_ rfl rfl (mv_ rfl (wl_nil ?_))))))))
  exact nx_round (k + 1) (by omega) (by omega) ⟨rfl, rfl, rfl, (some_int (by omega)), trivial⟩ (fun _ hm => hm.pick [] [] [0, 1] rfl rfl)
 have hk : ¬ (((k : Nat) : Int) < ((n : Nat) : Int)) := by simpa using hh
 clear hh
 refine gw_exit ?_
 refine nx_then_exit (nx_then_exit ?_)
 refine nx_blk_here ?_
 refine nx_then (sr_ (sg_ rfl (nn_ ?_)))
 refine gw_ret ?_
 refine nx_ret1 rfl rfl fun wx hm => ?_
 exact ⟨rfl, hm.g⟩
def inEnc (z : Int) : List Value := [.int .i64 z]
theorem in_len (z : Int) : (inEnc z).length = 1 := rfl
theorem one_ok : ∀ b ∈ [(⟨⟨#[97]⟩, ⟨#[99]⟩, 0, 1, 0, 50⟩ : Bk)], BkOk b := fun b hb => by
  rw [List.mem_singleton.1 hb]; exact ⟨by decide, by decide⟩
theorem one_zero : oddsE [⟨⟨#[97]⟩, ⟨#[99]⟩, 0, 1, 0, 50⟩] = 0 := by decide +kernel
theorem lowF_50 : lowF 50 100 = ⟨1, 2⟩ := by simp [lowF]
theorem bspread_one (A : Option Addr) (c : Nat) (w : World) (hl : SlT bkEnc 6 92 w A 1 [⟨⟨#[97]⟩, ⟨#[99]⟩, 0, 1, 0, 50⟩]) :
  Calls Tryz.prog 95 #[.slice A 1 c] w (fun e w' => ∃ A2 c2, e = .returned (.tuple #[.slice A2 2 c2, .int .i64 0]) ∧ w.grownBy w' none ∧ SlT frEnc 2 196 w' A2 2 [⟨1, 2⟩, ⟨1, 2⟩]) := by
 refine gw_enter ⟨34, w, none, []⟩ Tryz.func95 rfl Tryz.ntmps95 rfl (mem0 (X := [SlOld bkEnc 6 92 w.heap.size none A 1 [⟨⟨#[97]⟩, ⟨#[99]⟩, 0, 1, 0, 50⟩]]) (allF_cons hl.old allF_nil) (allL_cons SlOld.lasts allL_nil)) ?_
 refine sr_ (sg_ rfl (sg_ rfl (nn_ (gw_seq (sr_ (mv_ rfl ?_))))))
 refine wl_callv (v := .int .i64 0) rfl cb191 rfl rfl (fun wx hm => (by rw [← one_zero]; exact checkOdds_any [⟨⟨#[97]⟩, ⟨#[99]⟩, 0, 1, 0, 50⟩] A 1 c wx (hm.fact 0 rfl).1 one_ok (by omega))) ?_
 refine sg_ rfl (nn_ (sr_ (mv_ rfl (wl_ov (ov_neq rfl rfl) rfl ?_))))
 refine wl_set 13 (v' := .bool false) rfl (congrArg Value.bool (by decide)) ?_
 refine nn_ (cf_ rfl (gw_skip (nx_then (sr_ (mv_ rfl ?_)))))
 refine wl_callgo (γ := Option Addr × Nat) (val := (fun g => .tuple #[.slice g.1 2 g.2, .int .i64 100])) (φ := (fun g => True)) (fun g => ⟨.slice g.1 2 g.2, 3, 1, 2, [.int .i64 50, .int .i64 50]⟩) rfl cb192 rfl rfl (fun wx hm => (spread_one A c wx (hm.fact 0 rfl).1).mono fun _ _ ⟨A2, c2, he, hg, ho⟩ => ⟨(A2, c2), he, trivial, ho, hg⟩) ?_
 rintro ⟨A2, c2⟩ hphi
 dsimp only at hphi ⊢
 clear hphi
 refine wl_look (R := ∃ g, A2 = some ⟨g, 0, none⟩) (fun wx hm => own_addr (hm.ownI 0 rfl) (by omega)) ?_
 rintro ⟨b2, rfl⟩
 refine wl_nilOwn 196 2 ?_
 refine mv_ rfl (wl_ov (ov_extract rfl rfl) rfl (wl_ov (ov_extract rfl rfl) rfl (sg_ rfl (sg_ rfl (nn_ (sr_ (sg_ rfl (nn_ (gw_seq (gw_seq ?_))))))))))
 refine gw_region (mv_ rfl (wl_ov (ov_len es22 rfl) rfl ?_))
 refine wl_set 21 (v' := .int .i64 2) rfl rfl ?_
 refine mv_ rfl (nn_ (gw_block ?_))
 refine gw_rounds 4 ?_
 refine gr_next ?_
 refine sr_ (wl_ov (ov_lss rfl rfl) rfl ?_)
 refine wl_set 23 (v' := .bool true) rfl (congrArg Value.bool (by decide)) ?_
 refine nn_ (gw_seq (ct_ rfl (gw_skip (nx_then (gw_seq (gw_block (sr_ ?_)))))))
 refine wl_ov (ov_index (j := 0) es22 rfl rfl (by decide)) rfl ?_
 refine wl_ov (ov_elem1 (k := 0) (v := .int .i64 50) sc3 rfl (fun _ hm => (SlT.ofOwn (l := [50, 50]) in_len (hm.ownI 1 rfl) rfl)) (rfl : [(50 : Int), 50][0]? = some 50) rfl rfl) rfl ?_
 refine sg_ rfl (nn_ (gw_region (mv_ rfl (mv_ rfl (mv_ rfl ?_)))))
 refine wl_callv (v := .agg #[.int .i64 1, .int .i64 2]) rfl cb193 rfl rfl (fun wx hm => (by have h := lowest_any 50 100 wx (by omega) (by omega) (by omega); rw [lowF_50] at h; exact h)) ?_
 refine wl_buildSlice (e := 196) (cs := [.int .i64 1, .int .i64 2]) rfl (by kernel_rfl) rfl fun g1 => ?_
 refine wl_append (news := [.int .i64 1, .int .i64 2]) 0 0 ap153 rfl rfl rfl rfl rfl rfl rfl (by decide) (by decide) rfl rfl fun v1 hv1 => ?_
 refine sg_ rfl (wl_nil (nx_blk_nrm (nx_then (gw_region (ad_ rfl rfl ?_)))))
 refine wl_set 32 (v' := .int .i64 1) rfl rfl ?_
 refine mv_ rfl (wl_nil ?_)
 refine nx_next ?_
 refine gr_next ?_
 refine sr_ (wl_ov (ov_lss rfl rfl) rfl ?_)
 refine wl_set 23 (v' := .bool true) rfl (congrArg Value.bool (by decide)) ?_
 refine nn_ (gw_seq (ct_ rfl (gw_skip (nx_then (gw_seq (gw_block (sr_ ?_)))))))
 refine wl_ov (ov_index (j := 1) es22 rfl rfl (by decide)) rfl ?_
 refine wl_ov (ov_elem1 (k := 0) (v := .int .i64 50) sc3 rfl (fun _ hm => (SlT.ofOwn (l := [50, 50]) in_len (hm.ownI 1 rfl) rfl)) (rfl : [(50 : Int), 50][1]? = some 50) rfl rfl) rfl ?_
 refine sg_ rfl (nn_ (gw_region (mv_ rfl (mv_ rfl (mv_ rfl ?_)))))
 refine wl_callv (v := .agg #[.int .i64 1, .int .i64 2]) rfl cb193 rfl rfl (fun wx hm => (by have h := lowest_any 50 100 wx (by omega) (by omega) (by omega); rw [lowF_50] at h; exact h)) ?_
 refine wl_buildSlice (e := 196) (cs := [.int .i64 1, .int .i64 2]) rfl (by kernel_rfl) rfl fun g2 => ?_
 refine wl_append (news := [.int .i64 1, .int .i64 2]) 0 0 ap153 rfl rfl rfl rfl rfl rfl rfl (by decide) (by decide) rfl rfl fun v2 hv2 => ?_
 refine sg_ rfl (wl_nil (nx_blk_nrm (nx_then (gw_region (ad_ rfl rfl ?_)))))
 refine wl_set 32 (v' := .int .i64 2) rfl rfl ?_
 refine mv_ rfl (wl_nil ?_)
 refine nx_next ?_
 refine gr_next ?_
 refine sr_ (wl_ov (ov_lss rfl rfl) rfl ?_)
 refine wl_set 23 (v' := .bool false) rfl (congrArg Value.bool (by decide)) ?_
 refine nn_ (gw_seq (cf_ rfl ?_))
 refine gw_exit ?_
 refine nx_then_exit (nx_then_exit ?_)
 refine nx_blk_here ?_
 refine nx_then (sr_ (mv_ rfl (sg_ rfl (sg_ rfl (nn_ ?_)))))
 refine gw_ret ?_
 refine nx_look (R := ∃ A cc, v2 = .slice A (0 + 1 + 1) cc) (fun wx hm => own_slice (hm.ownI 0 rfl)) ?_
 rintro ⟨A3, c3, rfl⟩
 refine nx_ret2 rfl rfl rfl fun wx hm => ?_
 exact ⟨A3, c3, rfl, hm.g, SlT.ofOwn (l := [⟨1, 2⟩, ⟨1, 2⟩]) fr_len (hm.ownI 0 rfl) rfl⟩
theorem booked_any (w : World) : Calls Tryz.prog 41 #[] w (fun e w' => e = .returned (.bool true) ∧ w.grownBy w' none) := by
 refine gw_enter ⟨19, w, none, [196]⟩ Tryz.func41 rfl Tryz.ntmps41 rfl (mem0 (X := []) allF_nil allL_nil) ?_
 refine sr_ (sg_ rfl (nn_ (sr_ ?_)))
 refine wl_ov (ov_build (cs := [.int .i64 0, .int .i64 1]) rfl (by kernel_rfl)) rfl ?_
 refine wl_ov (ov_build (cs := [.string ⟨#[97]⟩, .string ⟨#[99]⟩, .int .i64 0, .int .i64 1, .int .i64 0, .int .i64 50]) rfl (by kernel_rfl)) rfl ?_
 refine wl_buildSlice (e := 92) (cs := [.string ⟨#[97]⟩, .string ⟨#[99]⟩, .int .i64 0, .int .i64 1, .int .i64 0, .int .i64 50]) rfl (by kernel_rfl) rfl fun g1 => ?_
 refine wl_callx (γ := Option Addr × Nat) (val := (fun g => .tuple #[.slice g.1 2 g.2, .int .i64 0])) (φ := (fun g => True)) (Y := (fun g => fun wy => SlT frEnc 2 196 wy g.1 2 [⟨1, 2⟩, ⟨1, 2⟩])) rfl cb95 rfl rfl (fun wx hm => (bspread_one _ _ wx (SlT.ofBlk (l := [⟨⟨#[97]⟩, ⟨#[99]⟩, 0, 1, 0, 50⟩]) bk_len (hm.blkI 0 rfl))).mono fun _ _ ⟨A2, c2, he, hg, hs⟩ => ⟨(A2, c2), he, trivial, hg, hs⟩) (fun _ => SlT.lasts2 rfl) ?_
 rintro ⟨A2, c2⟩ hphi
 dsimp only
 clear hphi
 refine mv_ rfl (wl_ov (ov_extract rfl rfl) rfl (wl_ov (ov_extract rfl rfl) rfl (sg_ rfl (sg_ rfl (nn_ (sr_ (mv_ rfl (wl_ov (ov_eql rfl rfl) rfl ?_))))))))
 refine wl_set 11 (v' := .bool true) rfl (congrArg Value.bool (by decide)) ?_
 refine mv_ rfl (wl_guard_on rfl rfl rfl (mv_ rfl (wl_guard_on rfl rfl rfl ?_)))
 refine wl_ov (ov_build (cs := [.int .i64 1, .int .i64 2]) rfl (by kernel_rfl)) rfl ?_
 refine wl_guard_on rfl rfl rfl ?_
 refine wl_ov (ov_build (cs := [.int .i64 1, .int .i64 2]) rfl (by kernel_rfl)) rfl ?_
 refine wl_guard_on rfl rfl rfl ?_
 refine wl_buildSlice (e := 196) (cs := [.int .i64 1, .int .i64 2, .int .i64 1, .int .i64 2]) rfl (by kernel_rfl) rfl fun g2 => ?_
 refine wl_guard_on rfl rfl rfl ?_
 refine wl_callv rfl cb132 rfl rfl (fun wx hm => (equal_fraction_any [⟨1, 2⟩, ⟨1, 2⟩] A2 _ 2 c2 2 wx (hm.fact 0 rfl) (SlT.ofBlk (l := [⟨1, 2⟩, ⟨1, 2⟩]) fr_len (hm.blkI 0 rfl)) (by omega))) ?_
 refine pt_ rfl rfl (sg_ rfl (nn_ ?_))
 refine gw_ret ?_
 refine nx_ret1 rfl rfl fun wx hm => ?_
 exact ⟨rfl, hm.g⟩
end Go.Proofs.YtempjmpfdniecaaGreatDoor
namespace Go.Proofs.YtempjmpfdniecaaGreatDoor
open Go.RowKit
theorem sk_snoc {l : List Sk} {x : Sk} (h : ∀ y ∈ l, SkOk y) (hx : SkOk x) : ∀ y ∈ l ++ [x], SkOk y := fun y hy => by
  rcases List.mem_append.1 hy with hy | hy
  · exact h y hy
  · rw [List.mem_singleton.1 hy]; exact hx
theorem gstock_any (w : World) (B sb m : Nat) (hS : Strm 25 w B sb m) (hm : m ≤ 100000000) :
  Calls Tryz.prog 57 #[.pointer (some ⟨sb, 0, none⟩)] w (fun e w' => ∃ (A : Option Addr) (n c : Nat) (l : List Sk), e = .returned (.slice A n c) ∧ w'.ownsRow w.heap.size 211 2 (.slice A n c) n (l.flatMap skEnc) ∧ l.length = n ∧ (∀ x ∈ l, SkOk x) ∧ n ≤ 5 ∧ Strm 25 w' B sb (m + 100) ∧ w.grownBy w' (some sb)) := by
 refine gw_enter ⟨36, w, (some sb), []⟩ Tryz.func57 rfl Tryz.ntmps57 rfl (memS (X := []) hS allF_nil allL_nil) ?_
 refine sr_ ?_
 refine wl_nilOwn 211 2 ?_
 refine sg_ rfl (nn_ (sr_ (sg_ rfl (nn_ (gw_seq (sr_ ?_))))))
 refine wl_buildSlice (e := 9) (cs := [.string ⟨#[98, 105, 103]⟩, .string ⟨#[109, 97, 120, 105]⟩, .string ⟨#[109, 105, 100, 105]⟩, .string ⟨#[109, 105, 110, 105]⟩]) rfl (by kernel_rfl) rfl fun g1 => ?_
 refine wl_ov (ov_len es103 rfl) rfl ?_
 refine wl_set 7 (v' := .int .i64 4) rfl rfl ?_
 refine mv_ rfl (nn_ (gw_block ?_))
 refine gw_loop (γ := Nat × Nat × Value × List Sk × List Value) (fun g => g.1 ≤ 4 ∧ g.2.1 ≤ g.1 ∧ g.2.2.2.1.length = g.2.1 ∧ (∀ x ∈ g.2.2.2.1, SkOk x) ∧ g.2.2.2.2 = g.2.2.2.1.flatMap skEnc) (fun g => [(0, .pointer (some ⟨sb, 0, none⟩)), (2, .slice none 0 0), (3, g.2.2.1), (6, .slice (some ⟨g1, 0, none⟩) 4 4), (7, .int .i64 4), (8, .int .i64 ((g.1 : Nat) : Int))]) (fun g => fun w => Strm 25 w B sb (m + 2 * g.1)) (fun g => [(g1, 9, [.string ⟨#[98, 105, 103]⟩, .string ⟨#[109, 97, 120, 105]⟩, .string ⟨#[109, 105, 100, 105]⟩, .string ⟨#[109, 105, 110, 105]⟩])]) (fun g => [⟨g.2.2.1, 211, 2, g.2.1, g.2.2.2.2⟩]) (fun g => []) (fun g => 4 - g.1) (0, 0, .slice none 0 0, [], []) ⟨Nat.zero_le _, Nat.le_refl _, rfl, (fun _ h => by cases h), rfl⟩ ⟨rfl, rfl, rfl, rfl, rfl, rfl, trivial⟩ (fun _ hm => (hm.more rfl (by first | omega | (dsimp only; omega))).pick [0] [0] [] rfl rfl) ?_
 rintro ⟨i, k, v, l, xs⟩ hinv
 replace hinv : i ≤ 4 ∧ k ≤ i ∧ l.length = k ∧ (∀ x ∈ l, SkOk x) ∧ xs = l.flatMap skEnc := hinv
 dsimp only
 refine sr_ ?_
 obtain ⟨hi0, hki, hl, hok, rfl⟩ := hinv
 refine wl_ov (ov_lss rfl rfl) rfl (nn_ (gw_seq ?_))
 refine gw_cond rfl (fun hh => ?_) (fun hh => ?_)
 ·have hi : ((i : Nat) : Int) < 4 := by simpa using hh
  clear hh
  refine gw_skip (nx_then (gw_seq (gw_block (sr_ ?_))))
  obtain ⟨nm, hx⟩ : ∃ x, ([⟨#[98, 105, 103]⟩, ⟨#[109, 97, 120, 105]⟩, ⟨#[109, 105, 100, 105]⟩, ⟨#[109, 105, 110, 105]⟩] : List ByteArray)[i]? = some x := ⟨_, List.getElem?_eq_getElem (by simp; omega)⟩
  have hnm : nm.size ≤ 100 := mem_sz (List.mem_of_getElem? hx) (by decide)
  refine wl_ov (ov_index (j := i) es103 rfl rfl (by omega)) rfl ?_
  refine wl_ov (ov_elem1 (k := 0) (v := .string nm) sc9 rfl (fun _ hm => (SlT.ofBlk (l := [⟨#[98, 105, 103]⟩, ⟨#[109, 97, 120, 105]⟩, ⟨#[109, 105, 100, 105]⟩, ⟨#[109, 105, 110, 105]⟩]) sg_len (hm.blkI 0 rfl))) hx rfl rfl) rfl ?_
  refine sg_ rfl (nn_ (sr_ (mv_ rfl ?_)))
  refine wl_got (γ := Bool) (val := fun v => .bool v) (φ := fun v => True) rfl cb64 rfl rfl rfl rfl (fun wx hm => ((flip_any _ wx B sb _ hm.k (by omega) (by omega) (by omega)).mono fun _ _ ⟨v, he, hS, hg⟩ => ⟨v, trivial, he, hS, hg⟩)) fun f2 _ => ?_
  refine wl_ov (ov_un_not rfl) rfl (nn_ ?_)
  refine gw_cond rfl (fun hh => ?_) (fun hh => ?_)
  ·have hf : f2 = false := by simpa using hh
   clear hh
   refine gw_region (mv_ rfl (mv_ rfl (mv_ rfl ?_)))
   refine wl_buildSlice (e := 3) (cs := [.int .i64 0, .int .i64 1, .int .i64 1, .int .i64 2, .int .i64 3]) rfl (by kernel_rfl) rfl fun g3 => ?_
   refine wl_got (γ := Int) (val := fun v => .int .i64 v) (φ := fun v => v ∈ ([0, 1, 1, 2, 3] : List Int)) rfl cb11 rfl rfl rfl rfl (fun wx hm => (pick_any [0, 1, 1, 2, 3] _ _ _ wx B sb _ hm.k (by omega) (by simp) (by simp) (hm.blkI 0 rfl) (hm.neRow 0 rfl rfl))) fun v4 hv4 => ?_
   have bv4 : 0 ≤ v4 ∧ v4 ≤ 3 := mem_rng hv4 (by decide)
   have bv40 := bv4.1
   have bv41 := bv4.2
   clear bv4
   refine wl_ov (ov_build (cs := [.string nm, .int .i64 v4]) rfl (by kernel_rfl)) rfl ?_
   refine wl_buildSlice (e := 211) (cs := [.string nm, .int .i64 v4]) rfl (by kernel_rfl) rfl fun g5 => ?_
   refine wl_append (news := [.string nm, .int .i64 v4]) 0 0 ap75 rfl rfl rfl rfl rfl rfl rfl (by omega) (by unfold maxLen; omega) rfl rfl fun v2 hv2 => ?_
   refine sg_ rfl (wl_nil (nx_blk_nrm (nx_then (gw_region (ad_ rfl rfl (mv_ rfl (wl_nil ?_)))))))
   exact nx_round (i + 1, k + 1, v2, l ++ [⟨nm, v4⟩], l.flatMap skEnc ++ ([.string nm, .int .i64 v4] : List Value)) ⟨by dsimp only; omega, by dsimp only; omega, by simp [hl], sk_snoc hok ⟨by dsimp only; omega, by dsimp only; omega, by dsimp only; omega⟩, by simp [skEnc]⟩ (by dsimp only; omega) ⟨rfl, rfl, rfl, rfl, rfl, (some_int (by omega)), trivial⟩ (fun _ hm => (hm.more rfl (by first | omega | (dsimp only; omega))).pick [2] [0] [] rfl rfl)
  have hf : f2 = true := by simpa using hh
  clear hh
  refine gw_skip (nx_blk_nrm (nx_then (gw_region (ad_ rfl rfl (mv_ rfl (wl_nil ?_))))))
  exact nx_round (i + 1, k, v, l, l.flatMap skEnc) ⟨by dsimp only; omega, by dsimp only; omega, hl, hok, rfl⟩ (by dsimp only; omega) ⟨rfl, rfl, rfl, rfl, rfl, (some_int (by omega)), trivial⟩ (fun _ hm => (hm.more rfl (by first | omega | (dsimp only; omega))).pick [0] [0] [] rfl rfl)
 have hi : ¬ (((i : Nat) : Int) < 4) := by simpa using hh
 clear hh
 refine gw_exit ?_
 refine nx_then_exit (nx_then_exit ?_)
 refine nx_blk_here ?_
 refine nx_then (gw_seq (sr_ (mv_ rfl ?_)))
 refine wl_got (γ := Bool) (val := fun v => .bool v) (φ := fun v => True) rfl cb64 rfl rfl rfl rfl (fun wx hm => ((flip_any _ wx B sb _ hm.k (by omega) (by omega) (by omega)).mono fun _ _ ⟨v, he, hS, hg⟩ => ⟨v, trivial, he, hS, hg⟩)) fun f6 _ => ?_
 refine nn_ ?_
 refine gw_cond rfl (fun hh => ?_) (fun hh => ?_)
 ·have hf : f6 = true := by simpa using hh
  clear hh
  refine gw_region (mv_ rfl (mv_ rfl ?_))
  refine wl_buildSlice (e := 9) (cs := [.string ⟨#[109, 105, 110, 105]⟩, .string ⟨#[110, 111, 110, 101]⟩, .string ⟨#[98, 105, 103]⟩]) rfl (by kernel_rfl) rfl fun g7 => ?_
  refine wl_got (γ := ByteArray) (val := fun v => .string v) (φ := fun v => v ∈ ([⟨#[109, 105, 110, 105]⟩, ⟨#[110, 111, 110, 101]⟩, ⟨#[98, 105, 103]⟩] : List ByteArray)) rfl cb49 rfl rfl rfl rfl (fun wx hm => (some_any [⟨#[109, 105, 110, 105]⟩, ⟨#[110, 111, 110, 101]⟩, ⟨#[98, 105, 103]⟩] _ _ _ wx B sb _ hm.k (by omega) (by simp) (by simp) (hm.blkI 0 rfl) (hm.neRow 0 rfl rfl))) fun s8 hs8 => ?_
  have zs8 : s8.size ≤ 100 := mem_sz hs8 (by decide)
  refine mv_ rfl ?_
  refine wl_got (γ := Int) (val := fun v => .int .i64 v) (φ := fun v => -2000000000000000 ≤ v ∧ v ≤ 2000000000000000) rfl cb88 rfl rfl rfl rfl (fun wx hm => (odd_any _ _ wx B sb _ hm.k (by omega) (by omega) (by omega) (by omega))) fun v9 hv9 => ?_
  refine wl_ov (ov_build (cs := [.string s8, .int .i64 v9]) rfl (by kernel_rfl)) rfl ?_
  refine wl_buildSlice (e := 211) (cs := [.string s8, .int .i64 v9]) rfl (by kernel_rfl) rfl fun g10 => ?_
  refine wl_append (news := [.string s8, .int .i64 v9]) 0 0 ap75 rfl rfl rfl rfl rfl rfl rfl (by omega) (by unfold maxLen; omega) rfl rfl fun v2 hv2 => ?_
  refine wl_look (R := ∃ A cc, v2 = .slice A (k + 1) cc) (fun wx hm => own_slice (hm.ownI 0 rfl)) ?_
  rintro ⟨A, c, rfl⟩
  refine sg_ rfl (nn_ (sr_ (mv_ rfl (sg_ rfl (nn_ ?_)))))
  refine gw_ret ?_
  refine nx_ret1 rfl rfl fun wx hm => ?_
  exact ⟨A, k + 1, c, l ++ [⟨s8, v9⟩], rfl, by have h := hm.ownI 0 rfl; simpa [skEnc] using h, by simp [hl], sk_snoc hok ⟨by dsimp only; omega, by dsimp only; omega, by dsimp only; omega⟩, by omega, hm.k.more (by omega), hm.g⟩
 have hf : f6 = false := by simpa using hh
 clear hh
 refine gw_skip (nx_then (sr_ ?_))
 refine wl_look (R := ∃ A cc, v = .slice A k cc) (fun wx hm => own_slice (hm.ownI 0 rfl)) ?_
 rintro ⟨A, c, rfl⟩
 refine mv_ rfl (sg_ rfl (nn_ ?_))
 refine gw_ret ?_
 refine nx_ret1 rfl rfl fun wx hm => ?_
 exact ⟨A, k, c, l, rfl, by have h := hm.ownI 0 rfl; simpa [skEnc] using h, hl, hok, by omega, hm.k.more (by omega), hm.g⟩
theorem counterOf_any (q : Nat) (w : World) (B sb m : Nat) (hS : Strm 25 w B sb m) (hm : m ≤ 10000000) (hq : q ≤ 9) :
  Calls Tryz.prog 34 #[.pointer (some ⟨sb, 0, none⟩), .int .i64 ((q : Nat) : Int)] w (fun e w' => ∃ (A0 : Option Addr) (c0 : Nat) (cs : List Cs) (A1 : Option Addr) (n1 c1 : Nat) (sl : List Sk) (A : Option Addr) (n c : Nat) (l : List Bk), e = .returned (.agg #[.slice A0 4 c0, .slice A1 n1 c1, .slice A n c, .int .i64 (stockE cs sl), .int .i64 (checkE cs l)]) ∧ SlT csEnc 2 158 w' A0 4 cs ∧ SlT skEnc 2 211 w' A1 n1 sl ∧ SlT bkEnc 6 92 w' A n l ∧ (∀ x ∈ cs, CsOk x) ∧ (∀ x ∈ sl, SkOk x) ∧ (∀ x ∈ l, BkOk x) ∧ n1 ≤ 5 ∧ n ≤ 9 ∧ Strm 25 w' B sb (m + 2000) ∧ w.grownBy w' (some sb)) := by
 refine gw_enter ⟨27, w, (some sb), []⟩ Tryz.func34 rfl Tryz.ntmps34 rfl (memS (X := []) hS allF_nil allL_nil) ?_
 refine sr_ ?_
 refine wl_alloc zc78 rfl fun g1 => ?_
 refine nn_ (sr_ (mv_ rfl ?_))
 refine wl_callgs (γ := Option Addr × Nat × List Cs) (val := (fun g => .slice g.1 4 g.2.1)) (φ := (fun g => g.2.2.length = 4 ∧ (∀ x ∈ g.2.2, CsOk x))) (m' := m + 40) (fun g => ⟨.slice g.1 4 g.2.1, 158, 2, 4, g.2.2.flatMap csEnc⟩) rfl cb123 rfl rfl rfl rfl (fun wx hm => (ganyClasses_any wx B sb _ hm.k (by omega)).mono fun _ _ ⟨A0, c0, cs, he, ho, hl, hok, hS, hg⟩ => ⟨(A0, c0, cs), he, ⟨hl, hok⟩, hS, hg, ho⟩) ?_
 rintro ⟨A0, c0, cs⟩ hcs
 dsimp only at hcs ⊢
 obtain ⟨hc4, hco⟩ := hcs
 refine mv_ rfl ?_
 refine wl_callgs (γ := Option Addr × Nat × Nat × List Sk) (val := (fun g => .slice g.1 g.2.1 g.2.2.1)) (φ := (fun g => g.2.2.2.length = g.2.1 ∧ (∀ x ∈ g.2.2.2, SkOk x) ∧ g.2.1 ≤ 5)) (m' := m + 40 + 100) (fun g => ⟨.slice g.1 g.2.1 g.2.2.1, 211, 2, g.2.1, g.2.2.2.flatMap skEnc⟩) rfl cb57 rfl rfl rfl rfl (fun wx hm => (gstock_any wx B sb _ hm.k (by omega)).mono fun _ _ ⟨A1, n1, c1, sl, he, ho, hl, hok, hn, hS, hg⟩ => ⟨(A1, n1, c1, sl), he, ⟨hl, hok, hn⟩, hS, hg, ho⟩) ?_
 rintro ⟨A1, n1, c1, sl⟩ hss
 dsimp only at hss ⊢
 obtain ⟨hs1, hso, hn5⟩ := hss
 refine mv_ rfl (mv_ rfl ?_)
 refine wl_callgs (γ := Option Addr × Nat × Nat × List Bk) (val := (fun g => .slice g.1 g.2.1 g.2.2.1)) (φ := (fun g => (∀ b ∈ g.2.2.2, BkOk b) ∧ g.2.1 ≤ 9 ∧ g.2.2.2.length = g.2.1)) (m' := m + 40 + 100 + 1000) (fun g => ⟨.slice g.1 g.2.1 g.2.2.1, 92, 6, g.2.1, g.2.2.2.flatMap bkEnc⟩) rfl cb48 rfl rfl rfl rfl (fun wx hm => (gbookings_own q wx B sb _ hm.k (by omega) hq).mono fun _ _ ⟨A, n, c, l, he, ho, hl, hok, hn, hnc, hS, hg⟩ => ⟨(A, n, c, l), he, ⟨hok, hn, hl⟩, hS, hg, ho⟩) ?_
 rintro ⟨A, n, c, l⟩ hbb
 dsimp only at hbb ⊢
 obtain ⟨hok, hn9, hlen⟩ := hbb
 obtain ⟨SE, hSE⟩ : ∃ E, E = stockE cs sl := ⟨_, rfl⟩
 obtain ⟨KE, hKE⟩ : ∃ E, E = checkE cs l := ⟨_, rfl⟩
 refine wl_ov (ov_build (cs := [.slice A0 4 c0, .slice A1 n1 c1, .slice A n c, .int .i64 0, .int .i64 0]) rfl (by kernel_rfl)) rfl ?_
 refine wl_alloc zc78 rfl fun g2 => ?_
 refine wl_stores (cs' := [.slice A0 4 c0, .slice A1 n1 c1, .slice A n c, .int .i64 0, .int .i64 0]) 0 rz78 rfl rfl rfl rfl rfl rfl rfl rfl ?_
 refine nn_ (gw_seq ?_)
 refine gd (fun wz => Blk wz g1 78 [.slice none 0 0, .slice none 0 0, .slice none 0 0, .int .i64 0, .int .i64 0] ∧ True) mixed (fun _ hm => ⟨hm.bl 1, trivial⟩) fun z => ?_
 refine wt 0 14 1 rfl z (ov_field fo78_0 rfl rfl) ?_
 refine wt 2 14 5 rfl z (ov_field fo78_1 rfl rfl) ?_
 refine wt 5 14 37 rfl z (ov_field fo78_0 rfl rfl) ?_
 refine wt 7 14 165 rfl z (ov_field fo78_2 rfl rfl) ?_
 refine wa_open fun W hW => ?_
 have T255 : W 6 (lb 14 255) [(4, .pointer (some ⟨g1, 0, none⟩)), (5, .pointer (some ⟨g2, 0, none⟩)), (18, .int .i64 SE), (20, .slice A0 4 c0), (21, .pointer (some ⟨g2, 2, none⟩))] (fun w => Strm 25 w B sb (m + 40 + 100 + 1000)) [(g1, 78, [.slice none 0 0, .slice none 0 0, .slice none 0 0, .int .i64 0, .int .i64 0]), (g2, 78, [.slice A0 4 c0, .slice A1 n1 c1, .slice A n c, .int .i64 0, .int .i64 0])] [⟨.slice A n c, 92, 6, n, l.flatMap bkEnc⟩, ⟨.slice A1 n1 c1, 211, 2, n1, sl.flatMap skEnc⟩, ⟨.slice A0 4 c0, 158, 2, 4, cs.flatMap csEnc⟩] [] := by
  skip
  rw [hW]
  refine wa1 8 rfl ?_
  refine lk_ sc76 1 rfl rfl rfl (wl_nil ?_)
  refine nw 14 511 (fun _ hm => ⟨hm.bl 0, trivial⟩) fun z => ?_
  refine wt 10 14 1535 rfl z (ov_field fo78_3 rfl rfl) ?_
  refine wa1 9 rfl ?_
  refine wl_callv (v := .int .i64 KE) rfl cb51 rfl rfl (fun wx hm => (by rw [hKE]; exact bookingsFault_any cs A0 4 c0 l A n c wx (SlT.ofOwn cs_len (hm.ownI 2 rfl) hc4) hco (by omega) (SlT.ofOwn bk_len (hm.ownI 0 rfl) hlen) hok (by omega))) ?_
  refine wl_nil ?_
  refine nw 14 2047 (fun _ hm => ⟨hm.bl 0, trivial⟩) fun z => ?_
  refine wa1 11 rfl ?_
  refine wl_store 1 sc33 rfl rfl rfl rfl rfl rfl ?_
  refine wl_nil ?_
  refine nw 14 4095 (fun _ hm => ⟨hm.bl 0, trivial⟩) fun z => ?_
  refine wt 12 14 8191 rfl z (ov_field fo78_4 rfl rfl) ?_
  refine wa1 13 rfl ?_
  refine wl_store 1 sc33 rfl rfl rfl rfl rfl rfl ?_
  refine wl_nil ?_
  refine nw 14 16383 (fun _ hm => ⟨hm.bl 0, trivial⟩) fun z => ?_
  refine wa_done (by kernel_rfl) ?_
  refine nx_then (sr_ ?_)
  refine wl_ov (ov_loads rz78 rfl (fun _ hm => hm.blkI 1 rfl) rfl rfl) rfl ?_
  refine wl_stores (cs' := [.slice A0 4 c0, .slice A1 n1 c1, .slice A n c, .int .i64 SE, .int .i64 KE]) 0 rz78 rfl rfl rfl rfl rfl rfl rfl rfl ?_
  refine nn_ ?_
  refine gw_ret ?_
  refine nx_retc 0 rfl rz78 rfl rfl rfl fun wx hm => ?_
  exact ⟨A0, c0, cs, A1, n1, c1, sl, A, n, c, l, by rw [← hSE, ← hKE], (SlT.ofOwn cs_len (hm.ownI 2 rfl) hc4), (SlT.ofOwn sk_len (hm.ownI 1 rfl) hs1), (SlT.ofOwn bk_len (hm.ownI 0 rfl) hlen), hco, hso, hok, hn5, hn9, hm.k.more (by omega), hm.g⟩
 have T447 : W 6 (lb 14 447) [(4, .pointer (some ⟨g1, 0, none⟩)), (5, .pointer (some ⟨g2, 0, none⟩)), (18, .int .i64 SE), (19, .pointer (some ⟨g2, 0, none⟩)), (22, .slice A n c)] (fun w => Strm 25 w B sb (m + 40 + 100 + 1000)) [(g1, 78, [.slice none 0 0, .slice none 0 0, .slice none 0 0, .int .i64 0, .int .i64 0]), (g2, 78, [.slice A0 4 c0, .slice A1 n1 c1, .slice A n c, .int .i64 0, .int .i64 0])] [⟨.slice A n c, 92, 6, n, l.flatMap bkEnc⟩, ⟨.slice A1 n1 c1, 211, 2, n1, sl.flatMap skEnc⟩, ⟨.slice A0 4 c0, 158, 2, 4, cs.flatMap csEnc⟩] [] := by
  skip
  rw [hW]
  refine wa1 6 rfl ?_
  refine lk_ sc58 1 rfl rfl rfl (wl_nil ?_)
  refine nw 14 511 (fun _ hm => ⟨hm.bl 0, trivial⟩) fun z => ?_
  refine wt 10 14 1535 rfl z (ov_field fo78_3 rfl rfl) ?_
  refine wa1 9 rfl ?_
  refine wl_callv (v := .int .i64 KE) rfl cb51 rfl rfl (fun wx hm => (by rw [hKE]; exact bookingsFault_any cs A0 4 c0 l A n c wx (SlT.ofOwn cs_len (hm.ownI 2 rfl) hc4) hco (by omega) (SlT.ofOwn bk_len (hm.ownI 0 rfl) hlen) hok (by omega))) ?_
  refine wl_nil ?_
  refine nw 14 2047 (fun _ hm => ⟨hm.bl 0, trivial⟩) fun z => ?_
  refine wa1 11 rfl ?_
  refine wl_store 1 sc33 rfl rfl rfl rfl rfl rfl ?_
  refine wl_nil ?_
  refine nw 14 4095 (fun _ hm => ⟨hm.bl 0, trivial⟩) fun z => ?_
  refine wt 12 14 8191 rfl z (ov_field fo78_4 rfl rfl) ?_
  refine wa1 13 rfl ?_
  refine wl_store 1 sc33 rfl rfl rfl rfl rfl rfl ?_
  refine wl_nil ?_
  refine nw 14 16383 (fun _ hm => ⟨hm.bl 0, trivial⟩) fun z => ?_
  refine wa_done (by kernel_rfl) ?_
  refine nx_then (sr_ ?_)
  refine wl_ov (ov_loads rz78 rfl (fun _ hm => hm.blkI 1 rfl) rfl rfl) rfl ?_
  refine wl_stores (cs' := [.slice A0 4 c0, .slice A1 n1 c1, .slice A n c, .int .i64 SE, .int .i64 KE]) 0 rz78 rfl rfl rfl rfl rfl rfl rfl rfl ?_
  refine nn_ ?_
  refine gw_ret ?_
  refine nx_retc 0 rfl rz78 rfl rfl rfl fun wx hm => ?_
  exact ⟨A0, c0, cs, A1, n1, c1, sl, A, n, c, l, by rw [← hSE, ← hKE], (SlT.ofOwn cs_len (hm.ownI 2 rfl) hc4), (SlT.ofOwn sk_len (hm.ownI 1 rfl) hs1), (SlT.ofOwn bk_len (hm.ownI 0 rfl) hlen), hco, hso, hok, hn5, hn9, hm.k.more (by omega), hm.g⟩
 have J191 : W 7 (lb 14 191) [(4, .pointer (some ⟨g1, 0, none⟩)), (5, .pointer (some ⟨g2, 0, none⟩)), (18, .int .i64 SE), (19, .pointer (some ⟨g2, 0, none⟩)), (21, .pointer (some ⟨g2, 2, none⟩))] (fun w => Strm 25 w B sb (m + 40 + 100 + 1000)) [(g1, 78, [.slice none 0 0, .slice none 0 0, .slice none 0 0, .int .i64 0, .int .i64 0]), (g2, 78, [.slice A0 4 c0, .slice A1 n1 c1, .slice A n c, .int .i64 0, .int .i64 0])] [⟨.slice A n c, 92, 6, n, l.flatMap bkEnc⟩, ⟨.slice A1 n1 c1, 211, 2, n1, sl.flatMap skEnc⟩, ⟨.slice A0 4 c0, 158, 2, 4, cs.flatMap csEnc⟩] [] := by
  skip
  rw [hW]
  refine wa_all [6, 8] (by kernel_rfl) rfl ⟨⟨_, rfl, ?_⟩, ⟨_, rfl, ?_⟩, trivial⟩
  ·refine lk_ sc58 1 rfl rfl rfl (wl_nil ?_)
   refine nw 14 255 (fun _ hm => ⟨hm.bl 0, trivial⟩) fun z => ?_
   have h := T255 
   rw [hW] at h
   refine wa_weak ?_ ?_ h
   ·exact ⟨rfl, rfl, rfl, rfl, rfl, trivial⟩
   exact fun _ hm => hm.pick [0, 1] [0, 1, 2] [] rfl rfl
  refine lk_ sc76 1 rfl rfl rfl (wl_nil ?_)
  refine nw 14 447 (fun _ hm => ⟨hm.bl 0, trivial⟩) fun z => ?_
  have h := T447 
  rw [hW] at h
  refine wa_weak ?_ ?_ h
  ·exact ⟨rfl, rfl, rfl, rfl, rfl, trivial⟩
  exact fun _ hm => hm.pick [0, 1] [0, 1, 2] [] rfl rfl
 have T495 : W 6 (lb 14 495) [(4, .pointer (some ⟨g1, 0, none⟩)), (5, .pointer (some ⟨g2, 0, none⟩)), (15, .slice A0 4 c0), (17, .slice A1 n1 c1), (20, .slice A0 4 c0), (22, .slice A n c)] (fun w => Strm 25 w B sb (m + 40 + 100 + 1000)) [(g1, 78, [.slice none 0 0, .slice none 0 0, .slice none 0 0, .int .i64 0, .int .i64 0]), (g2, 78, [.slice A0 4 c0, .slice A1 n1 c1, .slice A n c, .int .i64 0, .int .i64 0])] [⟨.slice A n c, 92, 6, n, l.flatMap bkEnc⟩, ⟨.slice A1 n1 c1, 211, 2, n1, sl.flatMap skEnc⟩, ⟨.slice A0 4 c0, 158, 2, 4, cs.flatMap csEnc⟩] [] := by
  skip
  rw [hW]
  refine wa1 4 rfl ?_
  refine wl_callv (v := .int .i64 SE) rfl cb58 rfl rfl (fun wx hm => (by rw [hSE]; exact stockFault_any cs A0 4 c0 sl A1 n1 c1 wx (SlT.ofOwn cs_len (hm.ownI 2 rfl) hc4) hco (by omega) (SlT.ofOwn sk_len (hm.ownI 1 rfl) hs1) hso (by omega))) ?_
  refine wl_nil ?_
  refine nw 14 511 (fun _ hm => ⟨hm.bl 0, trivial⟩) fun z => ?_
  refine wt 10 14 1535 rfl z (ov_field fo78_3 rfl rfl) ?_
  refine wa1 9 rfl ?_
  refine wl_callv (v := .int .i64 KE) rfl cb51 rfl rfl (fun wx hm => (by rw [hKE]; exact bookingsFault_any cs A0 4 c0 l A n c wx (SlT.ofOwn cs_len (hm.ownI 2 rfl) hc4) hco (by omega) (SlT.ofOwn bk_len (hm.ownI 0 rfl) hlen) hok (by omega))) ?_
  refine wl_nil ?_
  refine nw 14 2047 (fun _ hm => ⟨hm.bl 0, trivial⟩) fun z => ?_
  refine wa1 11 rfl ?_
  refine wl_store 1 sc33 rfl rfl rfl rfl rfl rfl ?_
  refine wl_nil ?_
  refine nw 14 4095 (fun _ hm => ⟨hm.bl 0, trivial⟩) fun z => ?_
  refine wt 12 14 8191 rfl z (ov_field fo78_4 rfl rfl) ?_
  refine wa1 13 rfl ?_
  refine wl_store 1 sc33 rfl rfl rfl rfl rfl rfl ?_
  refine wl_nil ?_
  refine nw 14 16383 (fun _ hm => ⟨hm.bl 0, trivial⟩) fun z => ?_
  refine wa_done (by kernel_rfl) ?_
  refine nx_then (sr_ ?_)
  refine wl_ov (ov_loads rz78 rfl (fun _ hm => hm.blkI 1 rfl) rfl rfl) rfl ?_
  refine wl_stores (cs' := [.slice A0 4 c0, .slice A1 n1 c1, .slice A n c, .int .i64 SE, .int .i64 KE]) 0 rz78 rfl rfl rfl rfl rfl rfl rfl rfl ?_
  refine nn_ ?_
  refine gw_ret ?_
  refine nx_retc 0 rfl rz78 rfl rfl rfl fun wx hm => ?_
  exact ⟨A0, c0, cs, A1, n1, c1, sl, A, n, c, l, by rw [← hSE, ← hKE], (SlT.ofOwn cs_len (hm.ownI 2 rfl) hc4), (SlT.ofOwn sk_len (hm.ownI 1 rfl) hs1), (SlT.ofOwn bk_len (hm.ownI 0 rfl) hlen), hco, hso, hok, hn5, hn9, hm.k.more (by omega), hm.g⟩
 have J239 : W 7 (lb 14 239) [(4, .pointer (some ⟨g1, 0, none⟩)), (5, .pointer (some ⟨g2, 0, none⟩)), (15, .slice A0 4 c0), (17, .slice A1 n1 c1), (20, .slice A0 4 c0), (21, .pointer (some ⟨g2, 2, none⟩))] (fun w => Strm 25 w B sb (m + 40 + 100 + 1000)) [(g1, 78, [.slice none 0 0, .slice none 0 0, .slice none 0 0, .int .i64 0, .int .i64 0]), (g2, 78, [.slice A0 4 c0, .slice A1 n1 c1, .slice A n c, .int .i64 0, .int .i64 0])] [⟨.slice A n c, 92, 6, n, l.flatMap bkEnc⟩, ⟨.slice A1 n1 c1, 211, 2, n1, sl.flatMap skEnc⟩, ⟨.slice A0 4 c0, 158, 2, 4, cs.flatMap csEnc⟩] [] := by
  skip
  rw [hW]
  refine wa_all [4, 8] (by kernel_rfl) rfl ⟨⟨_, rfl, ?_⟩, ⟨_, rfl, ?_⟩, trivial⟩
  ·refine wl_callv (v := .int .i64 SE) rfl cb58 rfl rfl (fun wx hm => (by rw [hSE]; exact stockFault_any cs A0 4 c0 sl A1 n1 c1 wx (SlT.ofOwn cs_len (hm.ownI 2 rfl) hc4) hco (by omega) (SlT.ofOwn sk_len (hm.ownI 1 rfl) hs1) hso (by omega))) ?_
   refine wl_nil ?_
   refine nw 14 255 (fun _ hm => ⟨hm.bl 0, trivial⟩) fun z => ?_
   have h := T255 
   rw [hW] at h
   refine wa_weak ?_ ?_ h
   ·exact ⟨rfl, rfl, rfl, rfl, rfl, trivial⟩
   exact fun _ hm => hm.pick [0, 1] [0, 1, 2] [] rfl rfl
  refine lk_ sc76 1 rfl rfl rfl (wl_nil ?_)
  refine nw 14 495 (fun _ hm => ⟨hm.bl 0, trivial⟩) fun z => ?_
  have h := T495 
  rw [hW] at h
  refine wa_weak ?_ ?_ h
  ·exact ⟨rfl, rfl, rfl, rfl, rfl, rfl, trivial⟩
  exact fun _ hm => hm.pick [0, 1] [0, 1, 2] [] rfl rfl
 have J431 : W 7 (lb 14 431) [(4, .pointer (some ⟨g1, 0, none⟩)), (5, .pointer (some ⟨g2, 0, none⟩)), (15, .slice A0 4 c0), (17, .slice A1 n1 c1), (19, .pointer (some ⟨g2, 0, none⟩)), (22, .slice A n c)] (fun w => Strm 25 w B sb (m + 40 + 100 + 1000)) [(g1, 78, [.slice none 0 0, .slice none 0 0, .slice none 0 0, .int .i64 0, .int .i64 0]), (g2, 78, [.slice A0 4 c0, .slice A1 n1 c1, .slice A n c, .int .i64 0, .int .i64 0])] [⟨.slice A n c, 92, 6, n, l.flatMap bkEnc⟩, ⟨.slice A1 n1 c1, 211, 2, n1, sl.flatMap skEnc⟩, ⟨.slice A0 4 c0, 158, 2, 4, cs.flatMap csEnc⟩] [] := by
  skip
  rw [hW]
  refine wa_all [4, 6] (by kernel_rfl) rfl ⟨⟨_, rfl, ?_⟩, ⟨_, rfl, ?_⟩, trivial⟩
  ·refine wl_callv (v := .int .i64 SE) rfl cb58 rfl rfl (fun wx hm => (by rw [hSE]; exact stockFault_any cs A0 4 c0 sl A1 n1 c1 wx (SlT.ofOwn cs_len (hm.ownI 2 rfl) hc4) hco (by omega) (SlT.ofOwn sk_len (hm.ownI 1 rfl) hs1) hso (by omega))) ?_
   refine wl_nil ?_
   refine nw 14 447 (fun _ hm => ⟨hm.bl 0, trivial⟩) fun z => ?_
   have h := T447 
   rw [hW] at h
   refine wa_weak ?_ ?_ h
   ·exact ⟨rfl, rfl, rfl, rfl, rfl, trivial⟩
   exact fun _ hm => hm.pick [0, 1] [0, 1, 2] [] rfl rfl
  refine lk_ sc58 1 rfl rfl rfl (wl_nil ?_)
  refine nw 14 495 (fun _ hm => ⟨hm.bl 0, trivial⟩) fun z => ?_
  have h := T495 
  rw [hW] at h
  refine wa_weak ?_ ?_ h
  ·exact ⟨rfl, rfl, rfl, rfl, rfl, rfl, trivial⟩
  exact fun _ hm => hm.pick [0, 1] [0, 1, 2] [] rfl rfl
 have J175 : W 8 (lb 14 175) [(4, .pointer (some ⟨g1, 0, none⟩)), (5, .pointer (some ⟨g2, 0, none⟩)), (15, .slice A0 4 c0), (17, .slice A1 n1 c1), (19, .pointer (some ⟨g2, 0, none⟩)), (21, .pointer (some ⟨g2, 2, none⟩))] (fun w => Strm 25 w B sb (m + 40 + 100 + 1000)) [(g1, 78, [.slice none 0 0, .slice none 0 0, .slice none 0 0, .int .i64 0, .int .i64 0]), (g2, 78, [.slice A0 4 c0, .slice A1 n1 c1, .slice A n c, .int .i64 0, .int .i64 0])] [⟨.slice A n c, 92, 6, n, l.flatMap bkEnc⟩, ⟨.slice A1 n1 c1, 211, 2, n1, sl.flatMap skEnc⟩, ⟨.slice A0 4 c0, 158, 2, 4, cs.flatMap csEnc⟩] [] := by
  skip
  rw [hW]
  refine wa_all [4, 6, 8] (by kernel_rfl) rfl ⟨⟨_, rfl, ?_⟩, ⟨_, rfl, ?_⟩, ⟨_, rfl, ?_⟩, trivial⟩
  ·refine wl_callv (v := .int .i64 SE) rfl cb58 rfl rfl (fun wx hm => (by rw [hSE]; exact stockFault_any cs A0 4 c0 sl A1 n1 c1 wx (SlT.ofOwn cs_len (hm.ownI 2 rfl) hc4) hco (by omega) (SlT.ofOwn sk_len (hm.ownI 1 rfl) hs1) hso (by omega))) ?_
   refine wl_nil ?_
   refine nw 14 191 (fun _ hm => ⟨hm.bl 0, trivial⟩) fun z => ?_
   have h := J191 
   rw [hW] at h
   refine wa_weak ?_ ?_ h
   ·exact ⟨rfl, rfl, rfl, rfl, rfl, trivial⟩
   exact fun _ hm => hm.pick [0, 1] [0, 1, 2] [] rfl rfl
  ·refine lk_ sc58 1 rfl rfl rfl (wl_nil ?_)
   refine nw 14 239 (fun _ hm => ⟨hm.bl 0, trivial⟩) fun z => ?_
   have h := J239 
   rw [hW] at h
   refine wa_weak ?_ ?_ h
   ·exact ⟨rfl, rfl, rfl, rfl, rfl, rfl, trivial⟩
   exact fun _ hm => hm.pick [0, 1] [0, 1, 2] [] rfl rfl
  refine lk_ sc76 1 rfl rfl rfl (wl_nil ?_)
  refine nw 14 431 (fun _ hm => ⟨hm.bl 0, trivial⟩) fun z => ?_
  have h := J431 
  rw [hW] at h
  refine wa_weak ?_ ?_ h
  ·exact ⟨rfl, rfl, rfl, rfl, rfl, rfl, trivial⟩
  exact fun _ hm => hm.pick [0, 1] [0, 1, 2] [] rfl rfl
 have T487 : W 7 (lb 14 487) [(4, .pointer (some ⟨g1, 0, none⟩)), (5, .pointer (some ⟨g2, 0, none⟩)), (15, .slice A0 4 c0), (16, .pointer (some ⟨g2, 1, none⟩)), (20, .slice A0 4 c0), (22, .slice A n c)] (fun w => Strm 25 w B sb (m + 40 + 100 + 1000)) [(g1, 78, [.slice none 0 0, .slice none 0 0, .slice none 0 0, .int .i64 0, .int .i64 0]), (g2, 78, [.slice A0 4 c0, .slice A1 n1 c1, .slice A n c, .int .i64 0, .int .i64 0])] [⟨.slice A n c, 92, 6, n, l.flatMap bkEnc⟩, ⟨.slice A1 n1 c1, 211, 2, n1, sl.flatMap skEnc⟩, ⟨.slice A0 4 c0, 158, 2, 4, cs.flatMap csEnc⟩] [] := by
  skip
  rw [hW]
  refine wa1 3 rfl ?_
  refine lk_ sc75 1 rfl rfl rfl (wl_nil ?_)
  refine nw 14 495 (fun _ hm => ⟨hm.bl 0, trivial⟩) fun z => ?_
  refine wa1 4 rfl ?_
  refine wl_callv (v := .int .i64 SE) rfl cb58 rfl rfl (fun wx hm => (by rw [hSE]; exact stockFault_any cs A0 4 c0 sl A1 n1 c1 wx (SlT.ofOwn cs_len (hm.ownI 2 rfl) hc4) hco (by omega) (SlT.ofOwn sk_len (hm.ownI 1 rfl) hs1) hso (by omega))) ?_
  refine wl_nil ?_
  refine nw 14 511 (fun _ hm => ⟨hm.bl 0, trivial⟩) fun z => ?_
  refine wt 10 14 1535 rfl z (ov_field fo78_3 rfl rfl) ?_
  refine wa1 9 rfl ?_
  refine wl_callv (v := .int .i64 KE) rfl cb51 rfl rfl (fun wx hm => (by rw [hKE]; exact bookingsFault_any cs A0 4 c0 l A n c wx (SlT.ofOwn cs_len (hm.ownI 2 rfl) hc4) hco (by omega) (SlT.ofOwn bk_len (hm.ownI 0 rfl) hlen) hok (by omega))) ?_
  refine wl_nil ?_
  refine nw 14 2047 (fun _ hm => ⟨hm.bl 0, trivial⟩) fun z => ?_
  refine wa1 11 rfl ?_
  refine wl_store 1 sc33 rfl rfl rfl rfl rfl rfl ?_
  refine wl_nil ?_
  refine nw 14 4095 (fun _ hm => ⟨hm.bl 0, trivial⟩) fun z => ?_
  refine wt 12 14 8191 rfl z (ov_field fo78_4 rfl rfl) ?_
  refine wa1 13 rfl ?_
  refine wl_store 1 sc33 rfl rfl rfl rfl rfl rfl ?_
  refine wl_nil ?_
  refine nw 14 16383 (fun _ hm => ⟨hm.bl 0, trivial⟩) fun z => ?_
  refine wa_done (by kernel_rfl) ?_
  refine nx_then (sr_ ?_)
  refine wl_ov (ov_loads rz78 rfl (fun _ hm => hm.blkI 1 rfl) rfl rfl) rfl ?_
  refine wl_stores (cs' := [.slice A0 4 c0, .slice A1 n1 c1, .slice A n c, .int .i64 SE, .int .i64 KE]) 0 rz78 rfl rfl rfl rfl rfl rfl rfl rfl ?_
  refine nn_ ?_
  refine gw_ret ?_
  refine nx_retc 0 rfl rz78 rfl rfl rfl fun wx hm => ?_
  exact ⟨A0, c0, cs, A1, n1, c1, sl, A, n, c, l, by rw [← hSE, ← hKE], (SlT.ofOwn cs_len (hm.ownI 2 rfl) hc4), (SlT.ofOwn sk_len (hm.ownI 1 rfl) hs1), (SlT.ofOwn bk_len (hm.ownI 0 rfl) hlen), hco, hso, hok, hn5, hn9, hm.k.more (by omega), hm.g⟩
 have J231 : W 8 (lb 14 231) [(4, .pointer (some ⟨g1, 0, none⟩)), (5, .pointer (some ⟨g2, 0, none⟩)), (15, .slice A0 4 c0), (16, .pointer (some ⟨g2, 1, none⟩)), (20, .slice A0 4 c0), (21, .pointer (some ⟨g2, 2, none⟩))] (fun w => Strm 25 w B sb (m + 40 + 100 + 1000)) [(g1, 78, [.slice none 0 0, .slice none 0 0, .slice none 0 0, .int .i64 0, .int .i64 0]), (g2, 78, [.slice A0 4 c0, .slice A1 n1 c1, .slice A n c, .int .i64 0, .int .i64 0])] [⟨.slice A n c, 92, 6, n, l.flatMap bkEnc⟩, ⟨.slice A1 n1 c1, 211, 2, n1, sl.flatMap skEnc⟩, ⟨.slice A0 4 c0, 158, 2, 4, cs.flatMap csEnc⟩] [] := by
  skip
  rw [hW]
  refine wa_all [3, 8] (by kernel_rfl) rfl ⟨⟨_, rfl, ?_⟩, ⟨_, rfl, ?_⟩, trivial⟩
  ·refine lk_ sc75 1 rfl rfl rfl (wl_nil ?_)
   refine nw 14 239 (fun _ hm => ⟨hm.bl 0, trivial⟩) fun z => ?_
   have h := J239 
   rw [hW] at h
   refine wa_weak ?_ ?_ h
   ·exact ⟨rfl, rfl, rfl, rfl, rfl, rfl, trivial⟩
   exact fun _ hm => hm.pick [0, 1] [0, 1, 2] [] rfl rfl
  refine lk_ sc76 1 rfl rfl rfl (wl_nil ?_)
  refine nw 14 487 (fun _ hm => ⟨hm.bl 0, trivial⟩) fun z => ?_
  have h := T487 
  rw [hW] at h
  refine wa_weak ?_ ?_ h
  ·exact ⟨rfl, rfl, rfl, rfl, rfl, rfl, trivial⟩
  exact fun _ hm => hm.pick [0, 1] [0, 1, 2] [] rfl rfl
 have J423 : W 8 (lb 14 423) [(4, .pointer (some ⟨g1, 0, none⟩)), (5, .pointer (some ⟨g2, 0, none⟩)), (15, .slice A0 4 c0), (16, .pointer (some ⟨g2, 1, none⟩)), (19, .pointer (some ⟨g2, 0, none⟩)), (22, .slice A n c)] (fun w => Strm 25 w B sb (m + 40 + 100 + 1000)) [(g1, 78, [.slice none 0 0, .slice none 0 0, .slice none 0 0, .int .i64 0, .int .i64 0]), (g2, 78, [.slice A0 4 c0, .slice A1 n1 c1, .slice A n c, .int .i64 0, .int .i64 0])] [⟨.slice A n c, 92, 6, n, l.flatMap bkEnc⟩, ⟨.slice A1 n1 c1, 211, 2, n1, sl.flatMap skEnc⟩, ⟨.slice A0 4 c0, 158, 2, 4, cs.flatMap csEnc⟩] [] := by
  skip
  rw [hW]
  refine wa_all [3, 6] (by kernel_rfl) rfl ⟨⟨_, rfl, ?_⟩, ⟨_, rfl, ?_⟩, trivial⟩
  ·refine lk_ sc75 1 rfl rfl rfl (wl_nil ?_)
   refine nw 14 431 (fun _ hm => ⟨hm.bl 0, trivial⟩) fun z => ?_
   have h := J431 
   rw [hW] at h
   refine wa_weak ?_ ?_ h
   ·exact ⟨rfl, rfl, rfl, rfl, rfl, rfl, trivial⟩
   exact fun _ hm => hm.pick [0, 1] [0, 1, 2] [] rfl rfl
  refine lk_ sc58 1 rfl rfl rfl (wl_nil ?_)
  refine nw 14 487 (fun _ hm => ⟨hm.bl 0, trivial⟩) fun z => ?_
  have h := T487 
  rw [hW] at h
  refine wa_weak ?_ ?_ h
  ·exact ⟨rfl, rfl, rfl, rfl, rfl, rfl, trivial⟩
  exact fun _ hm => hm.pick [0, 1] [0, 1, 2] [] rfl rfl
 have J167 : W 9 (lb 14 167) [(4, .pointer (some ⟨g1, 0, none⟩)), (5, .pointer (some ⟨g2, 0, none⟩)), (15, .slice A0 4 c0), (16, .pointer (some ⟨g2, 1, none⟩)), (19, .pointer (some ⟨g2, 0, none⟩)), (21, .pointer (some ⟨g2, 2, none⟩))] (fun w => Strm 25 w B sb (m + 40 + 100 + 1000)) [(g1, 78, [.slice none 0 0, .slice none 0 0, .slice none 0 0, .int .i64 0, .int .i64 0]), (g2, 78, [.slice A0 4 c0, .slice A1 n1 c1, .slice A n c, .int .i64 0, .int .i64 0])] [⟨.slice A n c, 92, 6, n, l.flatMap bkEnc⟩, ⟨.slice A1 n1 c1, 211, 2, n1, sl.flatMap skEnc⟩, ⟨.slice A0 4 c0, 158, 2, 4, cs.flatMap csEnc⟩] [] := by
  skip
  rw [hW]
  refine wa_all [3, 6, 8] (by kernel_rfl) rfl ⟨⟨_, rfl, ?_⟩, ⟨_, rfl, ?_⟩, ⟨_, rfl, ?_⟩, trivial⟩
  ·refine lk_ sc75 1 rfl rfl rfl (wl_nil ?_)
   refine nw 14 175 (fun _ hm => ⟨hm.bl 0, trivial⟩) fun z => ?_
   have h := J175 
   rw [hW] at h
   refine wa_weak ?_ ?_ h
   ·exact ⟨rfl, rfl, rfl, rfl, rfl, rfl, trivial⟩
   exact fun _ hm => hm.pick [0, 1] [0, 1, 2] [] rfl rfl
  ·refine lk_ sc58 1 rfl rfl rfl (wl_nil ?_)
   refine nw 14 231 (fun _ hm => ⟨hm.bl 0, trivial⟩) fun z => ?_
   have h := J231 
   rw [hW] at h
   refine wa_weak ?_ ?_ h
   ·exact ⟨rfl, rfl, rfl, rfl, rfl, rfl, trivial⟩
   exact fun _ hm => hm.pick [0, 1] [0, 1, 2] [] rfl rfl
  refine lk_ sc76 1 rfl rfl rfl (wl_nil ?_)
  refine nw 14 423 (fun _ hm => ⟨hm.bl 0, trivial⟩) fun z => ?_
  have h := J423 
  rw [hW] at h
  refine wa_weak ?_ ?_ h
  ·exact ⟨rfl, rfl, rfl, rfl, rfl, rfl, trivial⟩
  exact fun _ hm => hm.pick [0, 1] [0, 1, 2] [] rfl rfl
 have T493 : W 7 (lb 14 493) [(4, .pointer (some ⟨g1, 0, none⟩)), (5, .pointer (some ⟨g2, 0, none⟩)), (14, .pointer (some ⟨g2, 0, none⟩)), (17, .slice A1 n1 c1), (20, .slice A0 4 c0), (22, .slice A n c)] (fun w => Strm 25 w B sb (m + 40 + 100 + 1000)) [(g1, 78, [.slice none 0 0, .slice none 0 0, .slice none 0 0, .int .i64 0, .int .i64 0]), (g2, 78, [.slice A0 4 c0, .slice A1 n1 c1, .slice A n c, .int .i64 0, .int .i64 0])] [⟨.slice A n c, 92, 6, n, l.flatMap bkEnc⟩, ⟨.slice A1 n1 c1, 211, 2, n1, sl.flatMap skEnc⟩, ⟨.slice A0 4 c0, 158, 2, 4, cs.flatMap csEnc⟩] [] := by
  skip
  rw [hW]
  refine wa1 1 rfl ?_
  refine lk_ sc58 1 rfl rfl rfl (wl_nil ?_)
  refine nw 14 495 (fun _ hm => ⟨hm.bl 0, trivial⟩) fun z => ?_
  refine wa1 4 rfl ?_
  refine wl_callv (v := .int .i64 SE) rfl cb58 rfl rfl (fun wx hm => (by rw [hSE]; exact stockFault_any cs A0 4 c0 sl A1 n1 c1 wx (SlT.ofOwn cs_len (hm.ownI 2 rfl) hc4) hco (by omega) (SlT.ofOwn sk_len (hm.ownI 1 rfl) hs1) hso (by omega))) ?_
  refine wl_nil ?_
  refine nw 14 511 (fun _ hm => ⟨hm.bl 0, trivial⟩) fun z => ?_
  refine wt 10 14 1535 rfl z (ov_field fo78_3 rfl rfl) ?_
  refine wa1 9 rfl ?_
  refine wl_callv (v := .int .i64 KE) rfl cb51 rfl rfl (fun wx hm => (by rw [hKE]; exact bookingsFault_any cs A0 4 c0 l A n c wx (SlT.ofOwn cs_len (hm.ownI 2 rfl) hc4) hco (by omega) (SlT.ofOwn bk_len (hm.ownI 0 rfl) hlen) hok (by omega))) ?_
  refine wl_nil ?_
  refine nw 14 2047 (fun _ hm => ⟨hm.bl 0, trivial⟩) fun z => ?_
  refine wa1 11 rfl ?_
  refine wl_store 1 sc33 rfl rfl rfl rfl rfl rfl ?_
  refine wl_nil ?_
  refine nw 14 4095 (fun _ hm => ⟨hm.bl 0, trivial⟩) fun z => ?_
  refine wt 12 14 8191 rfl z (ov_field fo78_4 rfl rfl) ?_
  refine wa1 13 rfl ?_
  refine wl_store 1 sc33 rfl rfl rfl rfl rfl rfl ?_
  refine wl_nil ?_
  refine nw 14 16383 (fun _ hm => ⟨hm.bl 0, trivial⟩) fun z => ?_
  refine wa_done (by kernel_rfl) ?_
  refine nx_then (sr_ ?_)
  refine wl_ov (ov_loads rz78 rfl (fun _ hm => hm.blkI 1 rfl) rfl rfl) rfl ?_
  refine wl_stores (cs' := [.slice A0 4 c0, .slice A1 n1 c1, .slice A n c, .int .i64 SE, .int .i64 KE]) 0 rz78 rfl rfl rfl rfl rfl rfl rfl rfl ?_
  refine nn_ ?_
  refine gw_ret ?_
  refine nx_retc 0 rfl rz78 rfl rfl rfl fun wx hm => ?_
  exact ⟨A0, c0, cs, A1, n1, c1, sl, A, n, c, l, by rw [← hSE, ← hKE], (SlT.ofOwn cs_len (hm.ownI 2 rfl) hc4), (SlT.ofOwn sk_len (hm.ownI 1 rfl) hs1), (SlT.ofOwn bk_len (hm.ownI 0 rfl) hlen), hco, hso, hok, hn5, hn9, hm.k.more (by omega), hm.g⟩
 have J237 : W 8 (lb 14 237) [(4, .pointer (some ⟨g1, 0, none⟩)), (5, .pointer (some ⟨g2, 0, none⟩)), (14, .pointer (some ⟨g2, 0, none⟩)), (17, .slice A1 n1 c1), (20, .slice A0 4 c0), (21, .pointer (some ⟨g2, 2, none⟩))] (fun w => Strm 25 w B sb (m + 40 + 100 + 1000)) [(g1, 78, [.slice none 0 0, .slice none 0 0, .slice none 0 0, .int .i64 0, .int .i64 0]), (g2, 78, [.slice A0 4 c0, .slice A1 n1 c1, .slice A n c, .int .i64 0, .int .i64 0])] [⟨.slice A n c, 92, 6, n, l.flatMap bkEnc⟩, ⟨.slice A1 n1 c1, 211, 2, n1, sl.flatMap skEnc⟩, ⟨.slice A0 4 c0, 158, 2, 4, cs.flatMap csEnc⟩] [] := by
  skip
  rw [hW]
  refine wa_all [1, 8] (by kernel_rfl) rfl ⟨⟨_, rfl, ?_⟩, ⟨_, rfl, ?_⟩, trivial⟩
  ·refine lk_ sc58 1 rfl rfl rfl (wl_nil ?_)
   refine nw 14 239 (fun _ hm => ⟨hm.bl 0, trivial⟩) fun z => ?_
   have h := J239 
   rw [hW] at h
   refine wa_weak ?_ ?_ h
   ·exact ⟨rfl, rfl, rfl, rfl, rfl, rfl, trivial⟩
   exact fun _ hm => hm.pick [0, 1] [0, 1, 2] [] rfl rfl
  refine lk_ sc76 1 rfl rfl rfl (wl_nil ?_)
  refine nw 14 493 (fun _ hm => ⟨hm.bl 0, trivial⟩) fun z => ?_
  have h := T493 
  rw [hW] at h
  refine wa_weak ?_ ?_ h
  ·exact ⟨rfl, rfl, rfl, rfl, rfl, rfl, trivial⟩
  exact fun _ hm => hm.pick [0, 1] [0, 1, 2] [] rfl rfl
 have J429 : W 8 (lb 14 429) [(4, .pointer (some ⟨g1, 0, none⟩)), (5, .pointer (some ⟨g2, 0, none⟩)), (14, .pointer (some ⟨g2, 0, none⟩)), (17, .slice A1 n1 c1), (19, .pointer (some ⟨g2, 0, none⟩)), (22, .slice A n c)] (fun w => Strm 25 w B sb (m + 40 + 100 + 1000)) [(g1, 78, [.slice none 0 0, .slice none 0 0, .slice none 0 0, .int .i64 0, .int .i64 0]), (g2, 78, [.slice A0 4 c0, .slice A1 n1 c1, .slice A n c, .int .i64 0, .int .i64 0])] [⟨.slice A n c, 92, 6, n, l.flatMap bkEnc⟩, ⟨.slice A1 n1 c1, 211, 2, n1, sl.flatMap skEnc⟩, ⟨.slice A0 4 c0, 158, 2, 4, cs.flatMap csEnc⟩] [] := by
  skip
  rw [hW]
  refine wa_all [1, 6] (by kernel_rfl) rfl ⟨⟨_, rfl, ?_⟩, ⟨_, rfl, ?_⟩, trivial⟩
  ·refine lk_ sc58 1 rfl rfl rfl (wl_nil ?_)
   refine nw 14 431 (fun _ hm => ⟨hm.bl 0, trivial⟩) fun z => ?_
   have h := J431 
   rw [hW] at h
   refine wa_weak ?_ ?_ h
   ·exact ⟨rfl, rfl, rfl, rfl, rfl, rfl, trivial⟩
   exact fun _ hm => hm.pick [0, 1] [0, 1, 2] [] rfl rfl
  refine lk_ sc58 1 rfl rfl rfl (wl_nil ?_)
  refine nw 14 493 (fun _ hm => ⟨hm.bl 0, trivial⟩) fun z => ?_
  have h := T493 
  rw [hW] at h
  refine wa_weak ?_ ?_ h
  ·exact ⟨rfl, rfl, rfl, rfl, rfl, rfl, trivial⟩
  exact fun _ hm => hm.pick [0, 1] [0, 1, 2] [] rfl rfl
 have J173 : W 9 (lb 14 173) [(4, .pointer (some ⟨g1, 0, none⟩)), (5, .pointer (some ⟨g2, 0, none⟩)), (14, .pointer (some ⟨g2, 0, none⟩)), (17, .slice A1 n1 c1), (19, .pointer (some ⟨g2, 0, none⟩)), (21, .pointer (some ⟨g2, 2, none⟩))] (fun w => Strm 25 w B sb (m + 40 + 100 + 1000)) [(g1, 78, [.slice none 0 0, .slice none 0 0, .slice none 0 0, .int .i64 0, .int .i64 0]), (g2, 78, [.slice A0 4 c0, .slice A1 n1 c1, .slice A n c, .int .i64 0, .int .i64 0])] [⟨.slice A n c, 92, 6, n, l.flatMap bkEnc⟩, ⟨.slice A1 n1 c1, 211, 2, n1, sl.flatMap skEnc⟩, ⟨.slice A0 4 c0, 158, 2, 4, cs.flatMap csEnc⟩] [] := by
  skip
  rw [hW]
  refine wa_all [1, 6, 8] (by kernel_rfl) rfl ⟨⟨_, rfl, ?_⟩, ⟨_, rfl, ?_⟩, ⟨_, rfl, ?_⟩, trivial⟩
  ·refine lk_ sc58 1 rfl rfl rfl (wl_nil ?_)
   refine nw 14 175 (fun _ hm => ⟨hm.bl 0, trivial⟩) fun z => ?_
   have h := J175 
   rw [hW] at h
   refine wa_weak ?_ ?_ h
   ·exact ⟨rfl, rfl, rfl, rfl, rfl, rfl, trivial⟩
   exact fun _ hm => hm.pick [0, 1] [0, 1, 2] [] rfl rfl
  ·refine lk_ sc58 1 rfl rfl rfl (wl_nil ?_)
   refine nw 14 237 (fun _ hm => ⟨hm.bl 0, trivial⟩) fun z => ?_
   have h := J237 
   rw [hW] at h
   refine wa_weak ?_ ?_ h
   ·exact ⟨rfl, rfl, rfl, rfl, rfl, rfl, trivial⟩
   exact fun _ hm => hm.pick [0, 1] [0, 1, 2] [] rfl rfl
  refine lk_ sc76 1 rfl rfl rfl (wl_nil ?_)
  refine nw 14 429 (fun _ hm => ⟨hm.bl 0, trivial⟩) fun z => ?_
  have h := J429 
  rw [hW] at h
  refine wa_weak ?_ ?_ h
  ·exact ⟨rfl, rfl, rfl, rfl, rfl, rfl, trivial⟩
  exact fun _ hm => hm.pick [0, 1] [0, 1, 2] [] rfl rfl
 have J485 : W 8 (lb 14 485) [(4, .pointer (some ⟨g1, 0, none⟩)), (5, .pointer (some ⟨g2, 0, none⟩)), (14, .pointer (some ⟨g2, 0, none⟩)), (16, .pointer (some ⟨g2, 1, none⟩)), (20, .slice A0 4 c0), (22, .slice A n c)] (fun w => Strm 25 w B sb (m + 40 + 100 + 1000)) [(g1, 78, [.slice none 0 0, .slice none 0 0, .slice none 0 0, .int .i64 0, .int .i64 0]), (g2, 78, [.slice A0 4 c0, .slice A1 n1 c1, .slice A n c, .int .i64 0, .int .i64 0])] [⟨.slice A n c, 92, 6, n, l.flatMap bkEnc⟩, ⟨.slice A1 n1 c1, 211, 2, n1, sl.flatMap skEnc⟩, ⟨.slice A0 4 c0, 158, 2, 4, cs.flatMap csEnc⟩] [] := by
  skip
  rw [hW]
  refine wa_all [1, 3] (by kernel_rfl) rfl ⟨⟨_, rfl, ?_⟩, ⟨_, rfl, ?_⟩, trivial⟩
  ·refine lk_ sc58 1 rfl rfl rfl (wl_nil ?_)
   refine nw 14 487 (fun _ hm => ⟨hm.bl 0, trivial⟩) fun z => ?_
   have h := T487 
   rw [hW] at h
   refine wa_weak ?_ ?_ h
   ·exact ⟨rfl, rfl, rfl, rfl, rfl, rfl, trivial⟩
   exact fun _ hm => hm.pick [0, 1] [0, 1, 2] [] rfl rfl
  refine lk_ sc75 1 rfl rfl rfl (wl_nil ?_)
  refine nw 14 493 (fun _ hm => ⟨hm.bl 0, trivial⟩) fun z => ?_
  have h := T493 
  rw [hW] at h
  refine wa_weak ?_ ?_ h
  ·exact ⟨rfl, rfl, rfl, rfl, rfl, rfl, trivial⟩
  exact fun _ hm => hm.pick [0, 1] [0, 1, 2] [] rfl rfl
 have J229 : W 9 (lb 14 229) [(4, .pointer (some ⟨g1, 0, none⟩)), (5, .pointer (some ⟨g2, 0, none⟩)), (14, .pointer (some ⟨g2, 0, none⟩)), (16, .pointer (some ⟨g2, 1, none⟩)), (20, .slice A0 4 c0), (21, .pointer (some ⟨g2, 2, none⟩))] (fun w => Strm 25 w B sb (m + 40 + 100 + 1000)) [(g1, 78, [.slice none 0 0, .slice none 0 0, .slice none 0 0, .int .i64 0, .int .i64 0]), (g2, 78, [.slice A0 4 c0, .slice A1 n1 c1, .slice A n c, .int .i64 0, .int .i64 0])] [⟨.slice A n c, 92, 6, n, l.flatMap bkEnc⟩, ⟨.slice A1 n1 c1, 211, 2, n1, sl.flatMap skEnc⟩, ⟨.slice A0 4 c0, 158, 2, 4, cs.flatMap csEnc⟩] [] := by
  skip
  rw [hW]
  refine wa_all [1, 3, 8] (by kernel_rfl) rfl ⟨⟨_, rfl, ?_⟩, ⟨_, rfl, ?_⟩, ⟨_, rfl, ?_⟩, trivial⟩
  ·refine lk_ sc58 1 rfl rfl rfl (wl_nil ?_)
   refine nw 14 231 (fun _ hm => ⟨hm.bl 0, trivial⟩) fun z => ?_
   have h := J231 
   rw [hW] at h
   refine wa_weak ?_ ?_ h
   ·exact ⟨rfl, rfl, rfl, rfl, rfl, rfl, trivial⟩
   exact fun _ hm => hm.pick [0, 1] [0, 1, 2] [] rfl rfl
  ·refine lk_ sc75 1 rfl rfl rfl (wl_nil ?_)
   refine nw 14 237 (fun _ hm => ⟨hm.bl 0, trivial⟩) fun z => ?_
   have h := J237 
   rw [hW] at h
   refine wa_weak ?_ ?_ h
   ·exact ⟨rfl, rfl, rfl, rfl, rfl, rfl, trivial⟩
   exact fun _ hm => hm.pick [0, 1] [0, 1, 2] [] rfl rfl
  refine lk_ sc76 1 rfl rfl rfl (wl_nil ?_)
  refine nw 14 485 (fun _ hm => ⟨hm.bl 0, trivial⟩) fun z => ?_
  have h := J485 
  rw [hW] at h
  refine wa_weak ?_ ?_ h
  ·exact ⟨rfl, rfl, rfl, rfl, rfl, rfl, trivial⟩
  exact fun _ hm => hm.pick [0, 1] [0, 1, 2] [] rfl rfl
 have J421 : W 9 (lb 14 421) [(4, .pointer (some ⟨g1, 0, none⟩)), (5, .pointer (some ⟨g2, 0, none⟩)), (14, .pointer (some ⟨g2, 0, none⟩)), (16, .pointer (some ⟨g2, 1, none⟩)), (19, .pointer (some ⟨g2, 0, none⟩)), (22, .slice A n c)] (fun w => Strm 25 w B sb (m + 40 + 100 + 1000)) [(g1, 78, [.slice none 0 0, .slice none 0 0, .slice none 0 0, .int .i64 0, .int .i64 0]), (g2, 78, [.slice A0 4 c0, .slice A1 n1 c1, .slice A n c, .int .i64 0, .int .i64 0])] [⟨.slice A n c, 92, 6, n, l.flatMap bkEnc⟩, ⟨.slice A1 n1 c1, 211, 2, n1, sl.flatMap skEnc⟩, ⟨.slice A0 4 c0, 158, 2, 4, cs.flatMap csEnc⟩] [] := by
  skip
  rw [hW]
  refine wa_all [1, 3, 6] (by kernel_rfl) rfl ⟨⟨_, rfl, ?_⟩, ⟨_, rfl, ?_⟩, ⟨_, rfl, ?_⟩, trivial⟩
  ·refine lk_ sc58 1 rfl rfl rfl (wl_nil ?_)
   refine nw 14 423 (fun _ hm => ⟨hm.bl 0, trivial⟩) fun z => ?_
   have h := J423 
   rw [hW] at h
   refine wa_weak ?_ ?_ h
   ·exact ⟨rfl, rfl, rfl, rfl, rfl, rfl, trivial⟩
   exact fun _ hm => hm.pick [0, 1] [0, 1, 2] [] rfl rfl
  ·refine lk_ sc75 1 rfl rfl rfl (wl_nil ?_)
   refine nw 14 429 (fun _ hm => ⟨hm.bl 0, trivial⟩) fun z => ?_
   have h := J429 
   rw [hW] at h
   refine wa_weak ?_ ?_ h
   ·exact ⟨rfl, rfl, rfl, rfl, rfl, rfl, trivial⟩
   exact fun _ hm => hm.pick [0, 1] [0, 1, 2] [] rfl rfl
  refine lk_ sc58 1 rfl rfl rfl (wl_nil ?_)
  refine nw 14 485 (fun _ hm => ⟨hm.bl 0, trivial⟩) fun z => ?_
  have h := J485 
  rw [hW] at h
  refine wa_weak ?_ ?_ h
  ·exact ⟨rfl, rfl, rfl, rfl, rfl, rfl, trivial⟩
  exact fun _ hm => hm.pick [0, 1] [0, 1, 2] [] rfl rfl
 have J165 : W 10 (lb 14 165) [(4, .pointer (some ⟨g1, 0, none⟩)), (5, .pointer (some ⟨g2, 0, none⟩)), (14, .pointer (some ⟨g2, 0, none⟩)), (16, .pointer (some ⟨g2, 1, none⟩)), (19, .pointer (some ⟨g2, 0, none⟩)), (21, .pointer (some ⟨g2, 2, none⟩))] (fun w => Strm 25 w B sb (m + 40 + 100 + 1000)) [(g1, 78, [.slice none 0 0, .slice none 0 0, .slice none 0 0, .int .i64 0, .int .i64 0]), (g2, 78, [.slice A0 4 c0, .slice A1 n1 c1, .slice A n c, .int .i64 0, .int .i64 0])] [⟨.slice A n c, 92, 6, n, l.flatMap bkEnc⟩, ⟨.slice A1 n1 c1, 211, 2, n1, sl.flatMap skEnc⟩, ⟨.slice A0 4 c0, 158, 2, 4, cs.flatMap csEnc⟩] [] := by
  skip
  rw [hW]
  refine wa_all [1, 3, 6, 8] (by kernel_rfl) rfl ⟨⟨_, rfl, ?_⟩, ⟨_, rfl, ?_⟩, ⟨_, rfl, ?_⟩, ⟨_, rfl, ?_⟩, trivial⟩
  ·refine lk_ sc58 1 rfl rfl rfl (wl_nil ?_)
   refine nw 14 167 (fun _ hm => ⟨hm.bl 0, trivial⟩) fun z => ?_
   have h := J167 
   rw [hW] at h
   refine wa_weak ?_ ?_ h
   ·exact ⟨rfl, rfl, rfl, rfl, rfl, rfl, trivial⟩
   exact fun _ hm => hm.pick [0, 1] [0, 1, 2] [] rfl rfl
  ·refine lk_ sc75 1 rfl rfl rfl (wl_nil ?_)
   refine nw 14 173 (fun _ hm => ⟨hm.bl 0, trivial⟩) fun z => ?_
   have h := J173 
   rw [hW] at h
   refine wa_weak ?_ ?_ h
   ·exact ⟨rfl, rfl, rfl, rfl, rfl, rfl, trivial⟩
   exact fun _ hm => hm.pick [0, 1] [0, 1, 2] [] rfl rfl
  ·refine lk_ sc58 1 rfl rfl rfl (wl_nil ?_)
   refine nw 14 229 (fun _ hm => ⟨hm.bl 0, trivial⟩) fun z => ?_
   have h := J229 
   rw [hW] at h
   refine wa_weak ?_ ?_ h
   ·exact ⟨rfl, rfl, rfl, rfl, rfl, rfl, trivial⟩
   exact fun _ hm => hm.pick [0, 1] [0, 1, 2] [] rfl rfl
  refine lk_ sc76 1 rfl rfl rfl (wl_nil ?_)
  refine nw 14 421 (fun _ hm => ⟨hm.bl 0, trivial⟩) fun z => ?_
  have h := J421 
  rw [hW] at h
  refine wa_weak ?_ ?_ h
  ·exact ⟨rfl, rfl, rfl, rfl, rfl, rfl, trivial⟩
  exact fun _ hm => hm.pick [0, 1] [0, 1, 2] [] rfl rfl
 rw [hW]
 have h := J165 
 rw [hW] at h
 refine wa_weak ?_ ?_ h
 ·exact ⟨rfl, rfl, rfl, rfl, rfl, rfl, trivial⟩
 exact fun _ hm => hm.pick [1, 0] [0, 1, 2] [] rfl rfl
theorem call_any (A0 A1 A : Option Addr) (n0 c0 n1 c1 n c : Nat) (x y : Int) (w : World) :
  Calls Tryz.prog 37 #[.agg #[.slice A0 n0 c0, .slice A1 n1 c1, .slice A n c, .int .i64 x, .int .i64 y]] w (GotE w (firstE [x, y])) := by
 refine gw_enter ⟨9, w, none, []⟩ Tryz.func37 rfl Tryz.ntmps37 rfl (mem0 (X := []) allF_nil allL_nil) ?_
 refine sr_ ?_
 refine wl_box rfl rfl rfl fun g1 => ?_
 refine sg_ rfl (nn_ (sr_ (fd_ fo78_3 rfl rfl (lk_ sc33 0 rfl rfl rfl (fd_ fo78_4 rfl rfl (lk_ sc33 0 rfl rfl rfl ?_))))))
 refine wl_buildSlice (e := 33) (cs := [.int .i64 x, .int .i64 y]) rfl (by kernel_rfl) rfl fun g2 => ?_
 refine wl_callw rfl cb36 rfl rfl (fun wx hm => (errs_any [x, y] _ _ _ wx (hm.blkI 0 rfl) (by simp))) ?_
 refine sg_ rfl (nn_ ?_)
 refine gw_ret ?_
 refine nx_ret1 rfl rfl fun wx hm => ?_
 exact ⟨rfl, hm.g⟩
end Go.Proofs.YtempjmpfdniecaaGreatDoor
namespace Go.Proofs.YtempjmpfdniecaaGreatDoor
open Go.RowKit
def kyP (k : ByteArray) (x : Bk) : Bool := x.key.toList == k.toList
/-- There is a booking with a key. -/
def hasB (l : List Bk) (k : ByteArray) : Bool := decide (0 ≤ ixP (kyP k) l 0)
theorem pred_hasKey_1_book (y0 : ByteArray) (y1 : ByteArray) (y2 : Int) (y3 : Int) (y4 : Int) (y5 : Int) (gk : Nat) (k : ByteArray) (w : World) (hk : Blk w gk 9 [.string k]) :
  Calls Tryz.prog 233 #[.agg #[.string y0, .string y1, .int .i64 y2, .int .i64 y3, .int .i64 y4, .int .i64 y5], .pointer (some ⟨gk, 0, none⟩)] w (fun e w' => e = .returned (.bool (kyP k ⟨y0, y1, y2, y3, y4, y5⟩)) ∧ w.grownBy w' none) := by
 refine gw_enter ⟨8, w, none, []⟩ Tryz.func233 rfl Tryz.ntmps233 rfl (mem0 (X := [BlkOld w.heap.size none gk 9 [.string k]]) (allF_cons hk.old allF_nil) (allL_cons BlkOld.lasts allL_nil)) ?_
 refine sr_ ?_
 refine wl_box rfl rfl rfl fun g1 => ?_
 refine sg_ rfl (nn_ (sr_ (fd_ fo92_0 rfl rfl (lk_ sc9 0 rfl rfl rfl ?_))))
 refine wl_ov (ov_load (v := .string k) sc9 rfl (fun _ hm => (hm.fact 0 rfl).2) rfl) rfl ?_
 refine wl_ov (ov_seql rfl rfl) rfl (sg_ rfl (nn_ ?_))
 refine gw_ret ?_
 refine nx_ret1 rfl rfl fun wx hm => ?_
 exact ⟨rfl, hm.g⟩
theorem index_hasKey_1_book (l : List Bk) (A : Option Addr) (n c0 : Nat) (gk : Nat) (k : ByteArray) (w : World) (hl : SlT bkEnc 6 92 w A n l) (hn : n ≤ 1000000) (hk : Blk w gk 9 [.string k]) :
  Calls Tryz.prog 151 #[.slice A n c0, .func (.func 233) #[] #[.pointer (some ⟨gk, 0, none⟩)]] w (GotE w (ixP (kyP k) l 0)) := by
 refine gw_enter ⟨19, w, none, []⟩ Tryz.func151 rfl Tryz.ntmps151 rfl (mem0 (X := [SlOld bkEnc 6 92 w.heap.size none A n l, BlkOld w.heap.size none gk 9 [.string k]]) (allF_cons hl.old (allF_cons hk.old allF_nil)) (allL_cons SlOld.lasts (allL_cons BlkOld.lasts allL_nil))) ?_
 refine sr_ ?_
 have hlen := hl.len
 refine sg_ rfl (nn_ (gw_seq (sr_ (mv_ rfl (wl_ov (ov_len es76 rfl) rfl (mv_ rfl (nn_ (gw_block ?_))))))))
 refine gw_loop (γ := Nat) (fun (i : Nat) => i ≤ n ∧ ixP (kyP k) l 0 = ixP (kyP k) (l.drop i) i) (fun (i : Nat) => [(0, .slice A n c0), (1, .func (.func 233) #[] #[.pointer (some ⟨gk, 0, none⟩)]), (7, .int .i64 ((n : Nat) : Int)), (8, .int .i64 ((i : Nat) : Int))]) (fun (i : Nat) => fun _ => True) (fun (i : Nat) => []) (fun (i : Nat) => []) (fun (i : Nat) => [SlOld bkEnc 6 92 w.heap.size none A n l, BlkOld w.heap.size none gk 9 [.string k]]) (fun (i : Nat) => n - i) 0 ⟨Nat.zero_le _, rfl⟩ ⟨rfl, rfl, rfl, rfl, trivial⟩ (fun _ hm => hm.pick [] [] [0, 1] rfl rfl) ?_
 intro i hinv
 replace hinv : i ≤ n ∧ ixP (kyP k) l 0 = ixP (kyP k) (l.drop i) i := hinv
 refine sr_ (wl_ov (ov_lss rfl rfl) rfl (nn_ (gw_seq ?_)))
 refine gw_cond rfl (fun hh => ?_) (fun hh => ?_)
 ·have hi : ((i : Nat) : Int) < ((n : Nat) : Int) := by simpa using hh
  clear hh
  refine gw_skip (nx_then (gw_seq (gw_block (sr_ ?_))))
  obtain ⟨b, off, hA, _, _⟩ := hl.get (by omega)
  subst hA
  obtain ⟨x, hx⟩ : ∃ x, l[i]? = some x := ⟨_, List.getElem?_eq_getElem (by omega)⟩
  obtain ⟨y0, y1, y2, y3, y4, y5⟩ := x
  have hat := ixP_at (p := kyP k) hx
  refine mv_ rfl (sg_ rfl (nn_ (sr_ (mv_ rfl (mv_ rfl (mv_ rfl ?_))))))
  refine wl_ov (ov_index (j := i) es76 rfl rfl (by omega)) rfl ?_
  refine wl_ov (ov_elem (vs := [.string y0, .string y1, .int .i64 y2, .int .i64 y3, .int .i64 y4, .int .i64 y5]) rz92 rfl (fun _ hm => (hm.fact 0 rfl).1) hx rfl rfl) rfl ?_
  refine wl_callv rfl cb233 rfl rfl (fun wx hm => (pred_hasKey_1_book y0 y1 y2 y3 y4 y5 gk k wx (hm.fact 1 rfl).2)) ?_
  refine nn_ ?_
  refine gw_cond rfl (fun hh => ?_) (fun hh => ?_)
  ·have hq : (kyP k ⟨y0, y1, y2, y3, y4, y5⟩) = true := by simpa using hh
   clear hh
   refine sr_ (mv_ rfl (sg_ rfl (nn_ ?_)))
   refine gw_ret ?_
   refine nx_blk_ret (nx_then_ret (nx_then_ret (nx_blk_ret (nx_then_ret ?_))))
   refine nx_ret1 rfl rfl fun wx hm => ?_
   exact ⟨ret_int (by rw [hinv.2, hat, if_pos hq]), hm.g⟩
  have hq : (kyP k ⟨y0, y1, y2, y3, y4, y5⟩) = false := by simpa using hh
  clear hh
  refine gw_skip (nx_blk_nrm (nx_then (gw_region (ad_ rfl rfl (mv_ rfl (wl_nil ?_))))))
  exact nx_round (i + 1) ⟨by omega, by rw [hinv.2, hat, if_neg (by rw [hq]; decide)]⟩ (by omega) ⟨rfl, rfl, rfl, (some_int (by omega)), trivial⟩ (fun _ hm => hm.pick [] [] [0, 1] rfl rfl)
 have hi : ¬ (((i : Nat) : Int) < ((n : Nat) : Int)) := by simpa using hh
 clear hh
 refine gw_exit ?_
 refine nx_then_exit (nx_then_exit ?_)
 refine nx_blk_here ?_
 refine nx_then (sr_ (sg_ rfl ?_))
 refine wl_set 4 (v' := .int .i64 (-1)) rfl rfl ?_
 refine nn_ ?_
 refine gw_ret ?_
 refine nx_ret1 rfl rfl fun wx hm => ?_
 exact ⟨ret_int (by rw [hinv.2, List.drop_eq_nil_of_le (by omega)]; rfl), hm.g⟩
theorem hasK_any (l : List Bk) (A : Option Addr) (n c0 : Nat) (gk : Nat) (k : ByteArray) (w : World) (hl : SlT bkEnc 6 92 w A n l) (hn : n ≤ 1000000) (hk : Blk w gk 9 [.string k]) :
  Calls Tryz.prog 52 #[.slice A n c0, .func (.func 233) #[] #[.pointer (some ⟨gk, 0, none⟩)]] w (fun e w' => e = .returned (.bool (hasB l k)) ∧ w.grownBy w' none) := by
 refine gw_enter ⟨9, w, none, []⟩ Tryz.func52 rfl Tryz.ntmps52 rfl (mem0 (X := [SlOld bkEnc 6 92 w.heap.size none A n l, BlkOld w.heap.size none gk 9 [.string k]]) (allF_cons hl.old (allF_cons hk.old allF_nil)) (allL_cons SlOld.lasts (allL_cons BlkOld.lasts allL_nil))) ?_
 refine sr_ (sg_ rfl (nn_ (sr_ (mv_ rfl (mv_ rfl ?_)))))
 refine wl_callv rfl cb151 rfl rfl (fun wx hm => (index_hasKey_1_book l A n c0 gk k wx (hm.fact 0 rfl).1 hn (hm.fact 1 rfl).2)) ?_
 refine wl_ov (ov_geq rfl rfl) rfl ?_
 refine sg_ rfl (nn_ ?_)
 refine gw_ret ?_
 refine nx_ret1 rfl rfl fun wx hm => ?_
 exact ⟨rfl, hm.g⟩
theorem hasKey_any (l : List Bk) (A : Option Addr) (n c : Nat) (k : ByteArray) (w : World) (hl : SlT bkEnc 6 92 w A n l) (hn : n ≤ 1000) :
  Calls Tryz.prog 143 #[.slice A n c, .string k] w (fun e w' => e = .returned (.bool (hasB l k)) ∧ w.grownBy w' none) := by
 refine gw_enter ⟨8, w, none, []⟩ Tryz.func143 rfl Tryz.ntmps143 rfl (mem0 (X := [SlOld bkEnc 6 92 w.heap.size none A n l]) (allF_cons hl.old allF_nil) (allL_cons SlOld.lasts allL_nil)) ?_
 refine sr_ ?_
 refine wl_box rfl rfl rfl fun g1 => ?_
 refine sg_ rfl (nn_ (sr_ (mv_ rfl (wl_ov (ov_makeFunc rfl rfl) rfl ?_))))
 refine wl_callv rfl cb52 rfl rfl (fun wx hm => (hasK_any l A n c _ k wx (hm.fact 0 rfl).1 (by omega) (hm.blkI 0 rfl))) ?_
 refine sg_ rfl (nn_ ?_)
 refine gw_ret ?_
 refine nx_ret1 rfl rfl fun wx hm => ?_
 exact ⟨rfl, hm.g⟩
end Go.Proofs.YtempjmpfdniecaaGreatDoor
namespace Go.Proofs.YtempjmpfdniecaaGreatDoor
abbrev Wn := Int × Int
/-- Two windows have a moment in common. -/
def mtW (a b : Wn) : Bool := decide (a.1 < b.2) && decide (b.1 < a.2)
def onW (t : Int) (a : Wn) : Bool := decide (a.1 ≤ t) && decide (t < a.2)
theorem mtW_symm {a b : Wn} (h : mtW a b = true) : mtW b a = true := by
  unfold mtW at h ⊢
  simp only [Bool.and_eq_true, decide_eq_true_eq] at h ⊢
  omega
theorem free_unit : ∀ (m : Nat) (l : List Nat), l.length < m → ∃ c, 1 ≤ c ∧ c ≤ m ∧ c ∉ l
  | 0, _, h => absurd h (Nat.not_lt_zero _)
  | m + 1, l, h => by
    by_cases hm : m + 1 ∈ l
    · obtain ⟨a, b, rfl⟩ := List.append_of_mem hm
      obtain ⟨c, h1, h2, h3⟩ := free_unit m ((a ++ b).filter fun x => decide (x ≠ m + 1)) (by
        have := List.length_filter_le (fun x => decide (x ≠ m + 1)) (a ++ b)
        simp at h this ⊢
        omega)
      refine ⟨c, h1, by omega, fun hc => h3 ?_⟩
      rw [List.mem_filter]
      refine ⟨?_, by simp; omega⟩
      rcases List.mem_append.1 hc with hc | hc
      · exact List.mem_append.2 (.inl hc)
      · rcases List.mem_cons.1 hc with hc | hc
        · omega
        · exact List.mem_append.2 (.inr hc)
    · exact ⟨m + 1, by omega, Nat.le_refl _, hm⟩
end Go.Proofs.YtempjmpfdniecaaGreatDoor
namespace Go.Proofs.YtempjmpfdniecaaGreatDoor
section
variable {α : Type}
/-- A class, the steps to it, how many vehicles it has. -/
abbrev CdW (α : Type) := α × Nat × Nat
def ApartC (p q : (α × Wn) × Nat) : Prop := p.1.1 = q.1.1 → mtW p.1.2 q.1.2 = true → p.2 ≠ q.2
theorem apartC_symm {p q : (α × Wn) × Nat} (h : ApartC p q) : ApartC q p := fun h0 h1 e => h h0.symm (mtW_symm h1) e.symm
theorem max_startC : ∀ (l : List (α × Wn)), l ≠ [] → ∃ a x b, l = a ++ x :: b ∧ ∀ y ∈ l, y.2.1 ≤ x.2.1
  | [], h => absurd rfl h
  | [x], _ => ⟨[], x, [], rfl, by simp⟩
  | z :: y :: r, _ => by
    obtain ⟨a, x, b, h1, h2⟩ := max_startC (y :: r) (by simp)
    by_cases h : x.2.1 ≤ z.2.1
    · refine ⟨[], z, y :: r, rfl, fun q hq => ?_⟩
      rcases List.mem_cons.1 hq with rfl | hq
      · exact Int.le_refl _
      · exact Int.le_trans (h2 q hq) h
    · refine ⟨z :: a, x, b, by rw [h1]; rfl, fun q hq => ?_⟩
      rcases List.mem_cons.1 hq with rfl | hq
      · omega
      · exact h2 q hq
variable [DecidableEq α]
def onC (c : α) (t : Int) (p : α × Wn) : Bool := decide (p.1 = c) && onW t p.2
/-- No class is wanted by more at one moment than it has. -/
def CapC (cap : α → Nat) (I : List (α × Wn)) : Prop := ∀ c t, I.countP (onC c t) ≤ cap c
theorem colorC {cap : α → Nat} : ∀ (n : Nat) (I : List (α × Wn)), I.length = n → (∀ p ∈ I, p.2.1 < p.2.2) → CapC cap I → ∃ P : List ((α × Wn) × Nat), P.map Prod.fst = I ∧ (∀ p ∈ P, 1 ≤ p.2 ∧ p.2 ≤ cap p.1.1) ∧ P.Pairwise ApartC
  | 0, I, hn, _, _ => by
    obtain rfl := List.length_eq_zero_iff.1 hn
    exact ⟨[], rfl, by simp, List.Pairwise.nil⟩
  | n + 1, I, hn, hw, hc => by
    obtain ⟨a, x, b, rfl, hx⟩ := max_startC I (fun e => by rw [e] at hn; cases hn)
    have hsub : ∀ w, w ∈ a ++ b → w ∈ a ++ x :: b := fun w hm => by
      rcases List.mem_append.1 hm with hm | hm
      · exact List.mem_append.2 (.inl hm)
      · exact List.mem_append.2 (.inr (List.mem_cons_of_mem _ hm))
    obtain ⟨P, h1, h2, h3⟩ := colorC (cap := cap) n (a ++ b) (by simp at hn ⊢; omega) (fun w hm => hw w (hsub w hm)) (fun c t => by
      have h := hc c t
      rw [List.countP_append, List.countP_cons] at h
      rw [List.countP_append]; omega)
    have hxx := hw x (by simp)
    have hcnt : (P.filter fun p => decide (p.1.1 = x.1) && mtW x.2 p.1.2).length < cap x.1 := by
      have e1 : (P.filter fun p => decide (p.1.1 = x.1) && mtW x.2 p.1.2).length ≤ P.countP (fun p => onC x.1 x.2.1 p.1) := by
        rw [← List.countP_eq_length_filter]
        refine List.countP_mono_left fun p hp hm => ?_
        have hp2 : p.1 ∈ a ++ b := by rw [← h1]; exact List.mem_map.2 ⟨p, hp, rfl⟩
        have h4 := hx p.1 (hsub _ hp2)
        rw [Bool.and_eq_true] at hm
        have hm2 := hm.2
        unfold mtW at hm2
        simp only [Bool.and_eq_true, decide_eq_true_eq] at hm2
        unfold onC onW
        rw [hm.1]
        simp only [Bool.and_eq_true, decide_eq_true_eq, Bool.true_and]
        omega
      have e2 : P.countP (fun p => onC x.1 x.2.1 p.1) = (a ++ b).countP (onC x.1 x.2.1) := by
        rw [← h1, List.countP_map]; rfl
      have h5 := hc x.1 x.2.1
      have h6 : onC x.1 x.2.1 x = true := by
        unfold onC onW
        simp only [Bool.and_eq_true, decide_eq_true_eq]
        exact ⟨trivial, by omega⟩
      rw [List.countP_append, List.countP_cons, if_pos h6] at h5
      rw [List.countP_append] at e2
      omega
    obtain ⟨c, c1, c2, c3⟩ := free_unit (cap x.1) ((P.filter fun p => decide (p.1.1 = x.1) && mtW x.2 p.1.2).map Prod.snd) (by rw [List.length_map]; exact hcnt)
    have ha : (P.take a.length).map Prod.fst = a := by rw [List.map_take, h1, List.take_left]
    have hb : (P.drop a.length).map Prod.fst = b := by rw [List.map_drop, h1, List.drop_left]
    refine ⟨P.take a.length ++ (x, c) :: P.drop a.length, by rw [List.map_append, List.map_cons, ha, hb], fun p hp => ?_, ?_⟩
    · rcases List.mem_append.1 hp with hp | hp
      · exact h2 p (List.mem_of_mem_take hp)
      · rcases List.mem_cons.1 hp with rfl | hp
        · exact ⟨c1, c2⟩
        · exact h2 p (List.mem_of_mem_drop hp)
    · rw [List.pairwise_middle (fun h => apartC_symm h), List.take_append_drop, List.pairwise_cons]
      refine ⟨fun p hp hk hm e => c3 ?_, h3⟩
      exact List.mem_map.2 ⟨p, List.mem_filter.2 ⟨hp, by rw [hm, Bool.and_true, decide_eq_true_eq]; exact hk.symm⟩, e.symm⟩
/-- A vehicle is with an earlier booking that is on with this one. -/
def tknW (ws : List Wn) (st : List (α × Nat)) (x : Wn) (c : α) (u : Nat) : Bool := (st.zip ws).any fun p => decide (p.1 = (c, u)) && mtW p.2 x
/-- The highest unit of a class that is given. -/
def higW (st : List (α × Nat)) (c : α) : Nat := st.foldl (fun h p => if p.1 = c then max h p.2 else h) 0
def nxtW (ws : List Wn) (st : List (α × Nat)) (x : Wn) (cs : List (CdW α)) : List (α × Nat × Nat) := cs.flatMap fun k => ((List.range' 1 (min (higW st k.1 + 1) k.2.2)).filter fun u => !tknW ws st x k.1 u).map fun u => (k.1, k.2.1, u)
/-- All ends of the search, in order, with their steps. -/
def solsW (ws : List Wn) : List (List (CdW α)) → List (α × Nat) → List (List (α × Nat) × Nat)
  | [], st => [(st, 0)]
  | cs :: r, st => (nxtW ws st (ws.getD st.length (0, 0)) cs).flatMap fun k => (solsW ws r (st ++ [(k.1, k.2.2)])).map fun o => (o.1, k.2.1 + o.2)
theorem hig_snoc (st : List (α × Nat)) (c' : α) (u : Nat) (c : α) : higW (st ++ [(c', u)]) c = if c' = c then max (higW st c) u else higW st c := by
  unfold higW
  rw [List.foldl_append]; rfl
theorem nodup_bound : ∀ (m : Nat) (l : List Nat), l.Nodup → (∀ x ∈ l, 1 ≤ x ∧ x ≤ m) → l.length ≤ m
  | 0, l, _, h => by
    cases l with
    | nil => exact Nat.le_refl _
    | cons x r => have := h x (List.mem_cons_self ..); omega
  | m + 1, l, hn, h => by
    by_cases hm : m + 1 ∈ l
    · obtain ⟨a, b, rfl⟩ := List.append_of_mem hm
      have hn2 : ((m + 1) :: (a ++ b)).Nodup := (List.pairwise_middle (fun h => Ne.symm h)).1 hn
      rw [List.nodup_cons] at hn2
      have := nodup_bound m (a ++ b) hn2.2 fun x hx => by
        have h1 := h x (by
          rcases List.mem_append.1 hx with hx | hx
          · exact List.mem_append.2 (.inl hx)
          · exact List.mem_append.2 (.inr (List.mem_cons_of_mem _ hx)))
        have h2 : x ≠ m + 1 := fun e => hn2.1 (e ▸ hx)
        omega
      simp at this ⊢
      omega
    · have := nodup_bound m l hn fun x hx => by
        have h1 := h x hx
        have h2 : x ≠ m + 1 := fun e => hm (e ▸ hx)
        omega
      omega
theorem zip_map {β γ δ : Type} (f : β → γ) (g : β → δ) (l : List δ) : ∀ T : List β, (T.map f).zip (T.map g ++ l) = T.map fun q => (f q, g q)
  | [] => rfl
  | x :: T => by simp [zip_map f g l T]
/-- What is given so far: a booking's class, its time, the vehicle it had, the vehicle it has. -/
abbrev Gn (α : Type) := ((α × Wn) × Nat) × Nat
def gst (T : List (Gn α)) : List (α × Nat) := T.map fun q => (q.1.1.1, q.2)
/-- D: the vehicles of each class, in the order in which they came up. -/
def CanW (cap : α → Nat) (T : List (Gn α)) (D : α → List Nat) : Prop := (∀ c, (D c).Nodup ∧ (∀ x ∈ D c, 1 ≤ x ∧ x ≤ cap c) ∧ higW (gst T) c = (D c).length) ∧ ∀ q ∈ T, 1 ≤ q.2 ∧ (D q.1.1.1)[q.2 - 1]? = some q.1.2
inductive FitL (cap : α → Nat) : List ((α × Wn) × Nat) → List (List (CdW α)) → List Nat → Prop
  | nil : FitL cap [] [] []
  | cons {p : (α × Wn) × Nat} {R : List ((α × Wn) × Nat)} {cs : List (CdW α)} {css : List (List (CdW α))} {s : Nat} {ss : List Nat} (h : (p.1.1, s, cap p.1.1) ∈ cs) (hr : FitL cap R css ss) : FitL cap (p :: R) (cs :: css) (s :: ss)
theorem canon_step {cap : α → Nat} {T : List (Gn α)} {D : α → List Nat} {p : (α × Wn) × Nat} {l : List Wn} (hT : CanW cap T D) (hp : 1 ≤ p.2 ∧ p.2 ≤ cap p.1.1) (ha : ∀ q ∈ T, ApartC q.1 p) : ∃ (u : Nat) (D' : α → List Nat), 1 ≤ u ∧ u ≤ min (higW (gst T) p.1.1 + 1) (cap p.1.1) ∧ tknW (T.map (fun q => q.1.1.2) ++ l) (gst T) p.1.2 p.1.1 u = false ∧ CanW cap (T ++ [(p, u)]) D' := by
  obtain ⟨hD, hq⟩ := hT
  obtain ⟨d1, d2, d3⟩ := hD p.1.1
  have htk : ∀ u, (∀ q ∈ T, q.1.1.1 = p.1.1 → q.2 = u → mtW q.1.1.2 p.1.2 = true → False) → tknW (T.map (fun q => q.1.1.2) ++ l) (gst T) p.1.2 p.1.1 u = false := fun u h => by
    unfold tknW gst
    rw [zip_map, List.any_map, List.any_eq_false]
    intro q hq2 hh
    simp only [Function.comp, Bool.and_eq_true, decide_eq_true_eq, Prod.mk.injEq] at hh
    exact h q hq2 hh.1.1 hh.1.2 hh.2
  have hgs : ∀ u, gst (T ++ [(p, u)]) = gst T ++ [(p.1.1, u)] := fun u => by unfold gst; simp
  have hlen := nodup_bound _ _ d1 d2
  by_cases hf : p.2 ∈ D p.1.1
  · obtain ⟨i, hi⟩ := List.getElem?_of_mem hf
    have hil := (List.getElem?_eq_some_iff.1 hi).1
    refine ⟨i + 1, D, by omega, by rw [d3]; omega, htk _ fun q hq2 h1 h2 h3 => ?_, fun c => ?_, fun q hq2 => ?_⟩
    · obtain ⟨_, k2⟩ := hq q hq2
      rw [h1, h2, Nat.add_sub_cancel, hi] at k2
      exact ha q hq2 h1 h3 (Option.some.inj k2).symm
    · obtain ⟨e1, e2, e3⟩ := hD c
      refine ⟨e1, e2, ?_⟩
      rw [hgs, hig_snoc]
      split
      · rename_i hc
        rw [e3, ← hc]; omega
      · exact e3
    · rcases List.mem_append.1 hq2 with hq2 | hq2
      · exact hq q hq2
      · rw [List.mem_singleton.1 hq2]
        exact ⟨by dsimp only; omega, by dsimp only; rw [Nat.add_sub_cancel]; exact hi⟩
  · have hnd : (D p.1.1 ++ [p.2]).Nodup := by
      rw [List.nodup_append]
      refine ⟨d1, by simp, fun a ha2 b hb2 e => ?_⟩
      rw [List.mem_singleton] at hb2
      subst hb2; subst e
      exact hf ha2
    have hlen2 := nodup_bound _ _ hnd fun x hx => by
      rcases List.mem_append.1 hx with hx | hx
      · exact d2 x hx
      · rw [List.mem_singleton.1 hx]; exact hp
    rw [List.length_append, List.length_singleton] at hlen2
    refine ⟨(D p.1.1).length + 1, fun c => if c = p.1.1 then D c ++ [p.2] else D c, by omega, by rw [d3]; omega, htk _ fun q hq2 h1 h2 h3 => ?_, fun c => ?_, fun q hq2 => ?_⟩
    · obtain ⟨_, k2⟩ := hq q hq2
      rw [h1, h2, Nat.add_sub_cancel, List.getElem?_eq_none (Nat.le_refl _)] at k2
      cases k2
    · by_cases hc : c = p.1.1
      · subst hc
        dsimp only
        rw [if_pos rfl]
        refine ⟨hnd, fun x hx => ?_, ?_⟩
        · rcases List.mem_append.1 hx with hx | hx
          · exact d2 x hx
          · rw [List.mem_singleton.1 hx]; exact hp
        · rw [hgs, hig_snoc, if_pos rfl, d3, List.length_append, List.length_singleton]; omega
      · obtain ⟨e1, e2, e3⟩ := hD c
        dsimp only
        rw [if_neg hc]
        refine ⟨e1, e2, ?_⟩
        rw [hgs, hig_snoc, if_neg (fun e => hc e.symm)]; exact e3
    · rcases List.mem_append.1 hq2 with hq2 | hq2
      · obtain ⟨k1, k2⟩ := hq q hq2
        refine ⟨k1, ?_⟩
        dsimp only
        split
        · have := (List.getElem?_eq_some_iff.1 k2).1
          rw [List.getElem?_append_left this]; exact k2
        · exact k2
      · rw [List.mem_singleton.1 hq2]
        dsimp only
        rw [if_pos rfl, Nat.add_sub_cancel]
        exact ⟨by omega, by simp⟩
/-- Where the classes have room, the search comes to an end with them. -/
theorem canon {cap : α → Nat} : ∀ (R : List ((α × Wn) × Nat)) (css : List (List (CdW α))) (ss : List Nat) (T : List (Gn α)) (D : α → List Nat), FitL cap R css ss → CanW cap T D → (T.map Prod.fst ++ R).Pairwise ApartC → (∀ p ∈ R, 1 ≤ p.2 ∧ p.2 ≤ cap p.1.1) → ∃ o, (o, ss.sum) ∈ solsW (T.map (fun q => q.1.1.2) ++ R.map fun p => p.1.2) css (gst T) ∧ o.map Prod.fst = T.map (fun q => q.1.1.1) ++ R.map fun p => p.1.1
  | _, _, _, T, D, .nil, _, _, _ => ⟨gst T, by simp [solsW], by unfold gst; simp⟩
  | p :: R, cs :: css, s :: ss, T, D, .cons h hr, hT, ha, hb => by
    have hap : ∀ q ∈ T, ApartC q.1 p := fun q hq => (List.pairwise_append.1 ha).2.2 q.1 (List.mem_map.2 ⟨q, hq, rfl⟩) p (List.mem_cons_self ..)
    obtain ⟨u, D', u1, u2, u3, u4⟩ := canon_step (l := (p :: R).map fun p => p.1.2) hT (hb p (List.mem_cons_self ..)) hap
    obtain ⟨o, o1, o2⟩ := canon R css ss (T ++ [(p, u)]) D' hr u4 (by
      rw [List.map_append, List.append_assoc]; exact ha) fun q hq => hb q (List.mem_cons_of_mem _ hq)
    have hgs : gst (T ++ [(p, u)]) = gst T ++ [(p.1.1, u)] := by unfold gst; simp
    have hws : (T ++ [(p, u)]).map (fun q => q.1.1.2) ++ (R.map fun p => p.1.2) = T.map (fun q => q.1.1.2) ++ (p :: R).map fun p => p.1.2 := by simp
    rw [hgs, hws] at o1
    refine ⟨o, ?_, by rw [o2]; simp⟩
    unfold solsW
    have hx : (T.map (fun q => q.1.1.2) ++ (p :: R).map fun p => p.1.2).getD (gst T).length (0, 0) = p.1.2 := by
      unfold gst
      rw [List.getD_eq_getElem?_getD, List.length_map, List.getElem?_append_right (by simp)]
      simp
    rw [hx, List.mem_flatMap]
    refine ⟨(p.1.1, s, u), ?_, ?_⟩
    · unfold nxtW
      rw [List.mem_flatMap]
      refine ⟨_, h, List.mem_map.2 ⟨u, List.mem_filter.2 ⟨?_, by rw [u3]; rfl⟩, rfl⟩⟩
      rw [List.mem_range'_1]
      dsimp only
      omega
    · rw [List.sum_cons]
      exact List.mem_map.2 ⟨(o, ss.sum), o1, rfl⟩
/-- The whole: bookings with classes that have room. -/
theorem canon_all {cap : α → Nat} {I : List (α × Wn)} {css : List (List (CdW α))} {ss : List Nat} (hw : ∀ p ∈ I, p.2.1 < p.2.2) (hc : CapC cap I) (hf : ∀ P : List ((α × Wn) × Nat), P.map Prod.fst = I → FitL cap P css ss) : ∃ o, (o, ss.sum) ∈ solsW (I.map Prod.snd) css [] ∧ o.map Prod.fst = I.map Prod.fst := by
  obtain ⟨P, h1, h2, h3⟩ := colorC _ I rfl hw hc
  obtain ⟨o, o1, o2⟩ := canon P css ss [] (fun _ => []) (hf P h1) ⟨fun c => ⟨List.Pairwise.nil, (fun x hx => by cases hx), rfl⟩, (fun q hq => by cases hq)⟩ h3 h2
  refine ⟨o, ?_, ?_⟩
  · have e : P.map (fun p => p.1.2) = I.map Prod.snd := by rw [← h1, List.map_map]; rfl
    rw [← e]; exact o1
  · rw [o2, ← h1, List.map_map]; rfl
end
end Go.Proofs.YtempjmpfdniecaaGreatDoor
namespace Go.Proofs.YtempjmpfdniecaaGreatDoor
section
variable {α : Type} [DecidableEq α]
def cuW (q : (α × Wn) × Nat) : α × Nat := (q.1.1, q.2)
def wnW (q : (α × Wn) × Nat) : Wn := q.1.2
def PropW (cap : α → Nat) (P : List ((α × Wn) × Nat)) : Prop := (∀ p ∈ P, 1 ≤ p.2 ∧ p.2 ≤ cap p.1.1) ∧ P.Pairwise ApartC
/-- Who has vehicles has room. -/
theorem cap_of {cap : α → Nat} {P : List ((α × Wn) × Nat)} (h : PropW cap P) : CapC cap (P.map Prod.fst) := fun c t => by
  obtain ⟨hb, ha⟩ := h
  have e : (P.map Prod.fst).countP (onC c t) = ((P.filter fun p => onC c t p.1).map Prod.snd).length := by
    rw [List.countP_map, List.countP_eq_length_filter, List.length_map]; rfl
  rw [e]
  refine nodup_bound _ _ ?_ fun x hx => ?_
  · rw [List.Nodup, List.pairwise_map]
    have h1 := List.Pairwise.filter (fun p => onC c t p.1) ha
    refine List.Pairwise.imp_of_mem (fun {p q} hp hq hpq => ?_) h1
    have hp := (List.mem_filter.1 hp).2
    have hq := (List.mem_filter.1 hq).2
    unfold onC onW at hp hq
    simp only [Bool.and_eq_true, decide_eq_true_eq] at hp hq
    refine hpq (hp.1.trans hq.1.symm) ?_
    unfold mtW
    simp only [Bool.and_eq_true, decide_eq_true_eq]
    omega
  · obtain ⟨p, hp, rfl⟩ := List.mem_map.1 hx
    obtain ⟨h1, h2⟩ := List.mem_filter.1 hp
    unfold onC at h2
    simp only [Bool.and_eq_true, decide_eq_true_eq] at h2
    rw [← h2.1]
    exact hb p h1
theorem sols_P {cap : α → Nat} : ∀ (xs : List Wn) (css : List (List (CdW α))) (P : List ((α × Wn) × Nat)) (o : List (α × Nat)) (t : Nat), xs.length = css.length → (∀ cs ∈ css, ∀ k ∈ cs, k.2.2 = cap k.1) → PropW cap P → (o, t) ∈ solsW (P.map wnW ++ xs) css (P.map cuW) → ∃ Q ss, FitL cap Q css ss ∧ t = ss.sum ∧ o = (P ++ Q).map cuW ∧ Q.map wnW = xs ∧ PropW cap (P ++ Q)
  | [], [], P, o, t, _, _, hP, h => by
    unfold solsW at h
    rw [List.mem_singleton, Prod.mk.injEq] at h
    exact ⟨[], [], .nil, h.2, by rw [List.append_nil]; exact h.1, rfl, by rw [List.append_nil]; exact hP⟩
  | x :: xs, cs :: css, P, o, t, hl, hk, hP, h => by
    unfold solsW at h
    have hx : (P.map wnW ++ x :: xs).getD (P.map cuW).length (0, 0) = x := by
      rw [List.getD_eq_getElem?_getD, List.length_map, List.getElem?_append_right (by simp)]
      simp
    rw [hx, List.mem_flatMap] at h
    obtain ⟨⟨c, s, u⟩, h1, h2⟩ := h
    obtain ⟨⟨o', t'⟩, h3, h4⟩ := List.mem_map.1 h2
    rw [Prod.mk.injEq] at h4
    dsimp only at h3 h4
    obtain ⟨rfl, rfl⟩ := h4
    unfold nxtW at h1
    rw [List.mem_flatMap] at h1
    obtain ⟨k, k1, k2⟩ := h1
    obtain ⟨u', k3, k4⟩ := List.mem_map.1 k2
    simp only [Prod.mk.injEq] at k4
    obtain ⟨rfl, rfl, rfl⟩ := k4
    obtain ⟨k5, k6⟩ := List.mem_filter.1 k3
    rw [List.mem_range'_1] at k5
    have hc := hk cs (List.mem_cons_self ..) k k1
    have hP2 : PropW cap (P ++ [((k.1, x), u')]) := by
      refine ⟨fun p hp => ?_, ?_⟩
      · rcases List.mem_append.1 hp with hp | hp
        · exact hP.1 p hp
        · rw [List.mem_singleton.1 hp]
          dsimp only
          omega
      · rw [List.pairwise_append]
        refine ⟨hP.2, List.pairwise_singleton _ _, fun p hp q hq => ?_⟩
        rw [List.mem_singleton.1 hq]
        intro e1 e2 e3
        dsimp only at e1 e2 e3
        have k7 : tknW (P.map wnW ++ x :: xs) (P.map cuW) x k.1 u' = true := by
          unfold tknW
          rw [zip_map, List.any_map, List.any_eq_true]
          refine ⟨p, hp, ?_⟩
          simp only [Function.comp, Bool.and_eq_true, decide_eq_true_eq]
          refine ⟨?_, e2⟩
          unfold cuW
          rw [e1, e3]
        rw [k7] at k6
        cases k6
    have hcu : (P ++ [((k.1, x), u')]).map cuW = P.map cuW ++ [(k.1, u')] := by simp [cuW]
    have hwn : (P ++ [((k.1, x), u')]).map wnW ++ xs = P.map wnW ++ x :: xs := by simp [wnW]
    obtain ⟨Q, ss, q1, q2, q3, q4, q5⟩ := sols_P xs css (P ++ [((k.1, x), u')]) o' t' (by simpa using hl) (fun cs hcs => hk cs (List.mem_cons_of_mem _ hcs)) hP2 (by rw [hcu, hwn]; exact h3)
    refine ⟨((k.1, x), u') :: Q, k.2.1 :: ss, .cons ?_ q1, by rw [List.sum_cons, q2], by rw [q3]; simp, by rw [List.map_cons, q4]; rfl, by rw [List.append_assoc] at q5; exact q5⟩
    show (k.1, k.2.1, cap k.1) ∈ cs
    rw [← hc]; exact k1
omit [DecidableEq α] in
theorem fit_congr {cap : α → Nat} : ∀ {Q P : List ((α × Wn) × Nat)} {css : List (List (CdW α))} {ss : List Nat}, FitL cap Q css ss → P.map Prod.fst = Q.map Prod.fst → FitL cap P css ss
  | [], [], _, _, .nil, _ => .nil
  | q :: Q, p :: P, _, _, .cons h hr, e => by
    rw [List.map_cons, List.map_cons] at e
    injection e with e1 e2
    exact .cons (by rw [e1]; exact h) (fit_congr hr e2)
/-- The steps of the ends are the steps of the divisions of classes that have room. -/
theorem sols_iff {cap : α → Nat} {xs : List Wn} {css : List (List (CdW α))} (hl : xs.length = css.length) (hw : ∀ x ∈ xs, x.1 < x.2) (hk : ∀ cs ∈ css, ∀ k ∈ cs, k.2.2 = cap k.1) (t : Nat) : (∃ o, (o, t) ∈ solsW xs css []) ↔ ∃ Q ss, FitL cap Q css ss ∧ t = ss.sum ∧ Q.map wnW = xs ∧ CapC cap (Q.map Prod.fst) := by
  constructor
  · rintro ⟨o, h⟩
    obtain ⟨Q, ss, q1, q2, _, q4, q5⟩ := sols_P (cap := cap) xs css [] o t hl hk ⟨(fun p hp => by cases hp), List.Pairwise.nil⟩ h
    exact ⟨Q, ss, q1, q2, q4, cap_of q5⟩
  · rintro ⟨Q, ss, q1, rfl, rfl, q4⟩
    have e : (Q.map Prod.fst).map Prod.snd = Q.map wnW := by rw [List.map_map]; rfl
    obtain ⟨o, o1, _⟩ := canon_all (cap := cap) (I := Q.map Prod.fst) (css := css) (ss := ss) (fun p hp => hw p.2 (by rw [← e]; exact List.mem_map.2 ⟨p, hp, rfl⟩)) q4 fun P hP => fit_congr q1 hP
    rw [e] at o1
    exact ⟨o, o1⟩
/-- The document's search: the first end with as many steps. -/
def fillW (ws : List Wn) : List (List (CdW α)) → List (α × Nat) → Nat → Option (List (α × Nat))
  | [], st, left => if left = 0 then some st else none
  | cs :: r, st, left => (nxtW ws st (ws.getD st.length (0, 0)) cs).findSome? fun k => if left < k.2.1 then none else fillW ws r (st ++ [(k.1, k.2.2)]) (left - k.2.1)
theorem fill_find {ws : List Wn} : ∀ (css : List (List (CdW α))) (st : List (α × Nat)) (left : Nat), fillW ws css st left = ((solsW ws css st).find? fun o => decide (o.2 = left)).map Prod.fst
  | [], st, left => by
    unfold fillW solsW
    by_cases h : left = 0
    · subst h; simp
    · rw [if_neg h, List.find?_cons_of_neg (by simpa using fun e => h e.symm)]; rfl
  | cs :: r, st, left => by
    unfold fillW solsW
    rw [List.find?_flatMap, List.map_findSome?]
    congr 1
    funext k
    rw [Function.comp, List.find?_map]
    by_cases h : left < k.2.1
    · rw [if_pos h]
      have e : (fun o : List (α × Nat) × Nat => decide (o.2 = left)) ∘ (fun o : List (α × Nat) × Nat => (o.1, k.2.1 + o.2)) = fun _ => false := by
        funext o
        simp only [Function.comp, decide_eq_false_iff_not]
        omega
      rw [e, show ((solsW ws r (st ++ [(k.1, k.2.2)])).find? fun _ => false) = none from List.find?_eq_none.2 (by simp)]; rfl
    · rw [if_neg h, fill_find r]
      have e : (fun o : List (α × Nat) × Nat => decide (o.2 = left)) ∘ (fun o : List (α × Nat) × Nat => (o.1, k.2.1 + o.2)) = fun o : List (α × Nat) × Nat => decide (o.2 = left - k.2.1) := by
        funext o
        simp only [Function.comp, decide_eq_decide]
        omega
      rw [e, Option.map_map]; rfl
def headW (cs : List (CdW α)) : Nat := (cs.head?.map fun k => k.2.1).getD 0
/-- The least steps of the bookings to come. -/
def restW : List (List (CdW α)) → Nat
  | [] => 0
  | cs :: r => headW cs + restW r
def unitsW (ws : List Wn) (F : List (α × Nat) → Wn → CdW α → Bool) : List (List (CdW α)) → List (α × Nat) → Nat → Option (List (α × Nat))
  | [], st, _ => some st
  | cs :: r, st, left => if left < restW (cs :: r) then none else cs.findSome? fun k => if left < k.2.1 + restW r then none else if F st (ws.getD st.length (0, 0)) k = false then none else
    (List.range' 1 (min (higW st k.1 + 1) k.2.2)).findSome? fun u => if tknW ws st (ws.getD st.length (0, 0)) k.1 u = true then none else unitsW ws F r (st ++ [(k.1, u)]) (left - k.2.1)
omit [DecidableEq α] in
theorem fs_filter {β γ δ : Type} {p : β → Bool} {f : β → γ} {g : γ → Option δ} : ∀ l : List β, ((l.filter p).map f).findSome? g = l.findSome? fun u => if p u = true then g (f u) else none
  | [] => rfl
  | x :: l => by
    cases h : p x with
    | true =>
      rw [List.filter_cons_of_pos h, List.map_cons, List.findSome?_cons, List.findSome?_cons, h, if_pos rfl, fs_filter l]
    | false =>
      rw [List.filter_cons_of_neg (by rw [h]; decide), List.findSome?_cons, h, fs_filter l]; rfl
omit [DecidableEq α] in
theorem fs_flat {β γ δ : Type} {f : β → List γ} {g : γ → Option δ} : ∀ l : List β, (l.flatMap f).findSome? g = l.findSome? fun x => (f x).findSome? g
  | [] => rfl
  | x :: l => by
    rw [List.flatMap_cons, List.findSome?_append, List.findSome?_cons, fs_flat l]
    cases (f x).findSome? g <;> rfl
omit [DecidableEq α] in
theorem fs_none {β γ : Type} {f : β → Option γ} {l : List β} (h : ∀ x ∈ l, f x = none) : l.findSome? f = none := List.findSome?_eq_none_iff.2 h
omit [DecidableEq α] in
theorem fs_congr {β γ : Type} {f g : β → Option γ} : ∀ {l : List β}, (∀ x ∈ l, f x = g x) → l.findSome? f = l.findSome? g
  | [], _ => rfl
  | x :: l, h => by
    rw [List.findSome?_cons, List.findSome?_cons, h x (List.mem_cons_self ..), fs_congr fun y hy => h y (List.mem_cons_of_mem _ hy)]
theorem sols_ge {ws : List Wn} : ∀ (css : List (List (CdW α))) (st : List (α × Nat)), (∀ cs ∈ css, ∀ k ∈ cs, headW cs ≤ k.2.1) → ∀ o ∈ solsW ws css st, restW css ≤ o.2
  | [], st, _, o, h => Nat.zero_le _
  | cs :: r, st, hh, o, h => by
    unfold solsW at h
    rw [List.mem_flatMap] at h
    obtain ⟨k, h1, h2⟩ := h
    obtain ⟨o', h3, rfl⟩ := List.mem_map.1 h2
    unfold nxtW at h1
    rw [List.mem_flatMap] at h1
    obtain ⟨k', k1, k2⟩ := h1
    obtain ⟨u, _, rfl⟩ := List.mem_map.1 k2
    have i1 := hh cs (List.mem_cons_self ..) k' k1
    have i2 := sols_ge r _ (fun cs hcs => hh cs (List.mem_cons_of_mem _ hcs)) o' h3
    show headW cs + restW r ≤ k'.2.1 + o'.2
    omega
/-- Where no end has fewer steps, the first with no more is the first with as many. -/
theorem find_least {β : Type} {l : List (β × Nat)} {n : Nat} (h : ∀ o ∈ l, n ≤ o.2) : (l.find? fun o => decide (o.2 ≤ n)) = l.find? fun o => decide (o.2 = n) := by
  induction l with
  | nil => rfl
  | cons x l ih =>
    have h1 := h x (List.mem_cons_self ..)
    rw [List.find?_cons, List.find?_cons, ih fun o ho => h o (List.mem_cons_of_mem _ ho)]
    rw [show decide (x.2 ≤ n) = decide (x.2 = n) from by rw [decide_eq_decide]; omega]
end
end Go.Proofs.YtempjmpfdniecaaGreatDoor
namespace Go.Proofs.YtempjmpfdniecaaGreatDoor
section
variable {α : Type} [DecidableEq α]
/-- A booking that wants a class: its time, what it may get; and what it gets. -/
abbrev ItW (α : Type) := Wn × List (CdW α)
abbrev KiW (α : Type) := ItW α × CdW α
def plW2 (p : KiW α) : α × Wn := (p.2.1, p.1.1)
/-- A division of classes that has room, with so many steps. -/
def DivE (cap : α → Nat) (pl : List (α × Wn)) (items : List (ItW α)) (t : Nat) : Prop := ∃ K : List (KiW α), K.map Prod.fst = items ∧ (∀ p ∈ K, p.2 ∈ p.1.2) ∧ t = (K.map fun p => p.2.2.1).sum ∧ CapC cap (pl ++ K.map plW2)
def allT (F : List (α × Wn) → Wn → CdW α → Bool) : List (ItW α) → List (α × Wn) → List Nat
  | [], _ => [0]
  | it :: r, pl => it.2.flatMap fun k => if F pl it.1 k = true then (allT F r (pl ++ [(k.1, it.1)])).map fun t => k.2.1 + t else []
theorem cap_mono {cap : α → Nat} {a b : List (α × Wn)} (h : CapC cap (a ++ b)) : CapC cap a := fun c t => by
  have := h c t
  rw [List.countP_append] at this
  omega
theorem perm_lift {β γ : Type} {f : β → γ} : ∀ {a b : List γ}, a.Perm b → ∀ K : List β, K.map f = a → ∃ K', K'.map f = b ∧ K.Perm K'
  | _, _, .nil, K, h => ⟨K, h, List.Perm.refl _⟩
  | _, _, .cons x h, K, e => by
    cases K with
    | nil => cases e
    | cons p K =>
      rw [List.map_cons] at e
      injection e with e1 e2
      obtain ⟨K', k1, k2⟩ := perm_lift h K e2
      exact ⟨p :: K', by rw [List.map_cons, k1, e1], k2.cons p⟩
  | _, _, .swap x y l, K, e => by
    cases K with
    | nil => cases e
    | cons p K =>
      cases K with
      | nil => rw [List.map_cons] at e; injection e with _ e; cases e
      | cons q K =>
        rw [List.map_cons, List.map_cons] at e
        injection e with e1 e2
        injection e2 with e2 e3
        exact ⟨q :: p :: K, by rw [List.map_cons, List.map_cons, e1, e2, e3], List.Perm.swap ..⟩
  | _, _, .trans h1 h2, K, e => by
    obtain ⟨K1, k1, k2⟩ := perm_lift h1 K e
    obtain ⟨K2, k3, k4⟩ := perm_lift h2 K1 k1
    exact ⟨K2, k3, k2.trans k4⟩
omit [DecidableEq α] in
theorem sum_perm {a b : List Nat} (h : a.Perm b) : a.sum = b.sum := by
  induction h with
  | nil => rfl
  | cons x _ ih => rw [List.sum_cons, List.sum_cons, ih]
  | swap x y l => simp only [List.sum_cons]; omega
  | trans _ _ i1 i2 => exact i1.trans i2
/-- The order of the bookings does not matter. -/
theorem div_perm {cap : α → Nat} {a b : List (ItW α)} (h : a.Perm b) {t : Nat} (ha : DivE cap [] a t) : DivE cap [] b t := by
  obtain ⟨K, h1, h2, h3, h4⟩ := ha
  obtain ⟨K', k1, k2⟩ := perm_lift h K h1
  refine ⟨K', k1, fun p hp => h2 p (k2.mem_iff.2 hp), by rw [h3]; exact sum_perm (k2.map _), fun c t => ?_⟩
  have := h4 c t
  rw [List.nil_append] at this ⊢
  rw [← (k2.map plW2).countP_eq]
  exact this
omit [DecidableEq α] in
theorem fit_div {cap : α → Nat} : ∀ {Q : List ((α × Wn) × Nat)} {css : List (List (CdW α))} {ss : List Nat}, FitL cap Q css ss → ∃ K : List (KiW α), K.map Prod.fst = (Q.map wnW).zip css ∧ (∀ p ∈ K, p.2 ∈ p.1.2) ∧ ss.sum = (K.map fun p => p.2.2.1).sum ∧ K.map plW2 = Q.map Prod.fst
  | [], _, _, .nil => ⟨[], rfl, (fun p hp => by cases hp), rfl, rfl⟩
  | q :: Q, cs :: css, s :: ss, .cons h hr => by
    obtain ⟨K, h1, h2, h3, h4⟩ := fit_div hr
    refine ⟨((q.1.2, cs), (q.1.1, s, cap q.1.1)) :: K, by rw [List.map_cons, h1]; rfl, fun p hp => ?_, by rw [List.map_cons, List.sum_cons, List.sum_cons, h3], by rw [List.map_cons, List.map_cons, h4]; rfl⟩
    rcases List.mem_cons.1 hp with rfl | hp
    · exact h
    · exact h2 p hp
omit [DecidableEq α] in
theorem div_fit {cap : α → Nat} : ∀ (xs : List Wn) (css : List (List (CdW α))) (K : List (KiW α)), xs.length = css.length → (∀ cs ∈ css, ∀ k ∈ cs, k.2.2 = cap k.1) → K.map Prod.fst = xs.zip css → (∀ p ∈ K, p.2 ∈ p.1.2) → ∃ Q, FitL cap Q css (K.map fun p => p.2.2.1) ∧ Q.map wnW = xs ∧ Q.map Prod.fst = K.map plW2
  | [], [], K, _, _, e, _ => by
    rw [List.zip_nil_left, List.map_eq_nil_iff] at e
    subst e
    exact ⟨[], .nil, rfl, rfl⟩
  | x :: xs, cs :: css, K, hl, hk, e, h => by
    cases K with
    | nil => cases e
    | cons p K =>
      rw [List.map_cons, List.zip_cons_cons] at e
      injection e with e1 e2
      obtain ⟨Q, q1, q2, q3⟩ := div_fit xs css K (by simpa using hl) (fun c hc => hk c (List.mem_cons_of_mem _ hc)) e2 fun q hq => h q (List.mem_cons_of_mem _ hq)
      have hp := h p (List.mem_cons_self ..)
      rw [e1] at hp
      have hc := hk cs (List.mem_cons_self ..) p.2 hp
      refine ⟨((p.2.1, x), 0) :: Q, ?_, by rw [List.map_cons, q2]; rfl, by rw [List.map_cons, List.map_cons, q3]; unfold plW2; rw [e1]⟩
      refine .cons ?_ q1
      show (p.2.1, p.2.2.1, cap p.2.1) ∈ cs
      rw [← hc]; exact hp
/-- The ends of the search have the steps of the divisions. -/
theorem sols_div {cap : α → Nat} {xs : List Wn} {css : List (List (CdW α))} (hl : xs.length = css.length) (hw : ∀ x ∈ xs, x.1 < x.2) (hk : ∀ cs ∈ css, ∀ k ∈ cs, k.2.2 = cap k.1) (t : Nat) : (∃ o, (o, t) ∈ solsW xs css []) ↔ DivE cap [] (xs.zip css) t := by
  rw [sols_iff hl hw hk]
  constructor
  · rintro ⟨Q, ss, q1, rfl, rfl, q4⟩
    obtain ⟨K, k1, k2, k3, k4⟩ := fit_div q1
    exact ⟨K, k1, k2, k3, by rw [List.nil_append, k4]; exact q4⟩
  · rintro ⟨K, k1, k2, k3, k4⟩
    obtain ⟨Q, q1, q2, q3⟩ := div_fit xs css K hl hk k1 k2
    exact ⟨Q, _, q1, k3, q2, by rw [q3]; rw [List.nil_append] at k4; exact k4⟩
def minO : Option Nat → List Nat → Option Nat
  | b, [] => b
  | none, x :: l => minO (some x) l
  | some y, x :: l => minO (some (min y x)) l
theorem minO_app : ∀ (a : List Nat) (b : Option Nat) (c : List Nat), minO b (a ++ c) = minO (minO b a) c
  | [], _, _ => by
    rw [List.nil_append]
    cases ‹Option Nat› <;> rfl
  | x :: a, none, c => by rw [List.cons_append, minO, minO]; exact minO_app a _ c
  | x :: a, some y, c => by rw [List.cons_append, minO, minO]; exact minO_app a _ c
theorem minO_ge : ∀ (l : List Nat) (y : Nat), (∀ x ∈ l, y ≤ x) → minO (some y) l = some y
  | [], _, _ => rfl
  | x :: l, y, h => by
    rw [minO, Nat.min_eq_left (h x (List.mem_cons_self ..))]
    exact minO_ge l y fun z hz => h z (List.mem_cons_of_mem _ hz)
theorem minO_some : ∀ (l : List Nat) (y : Nat), ∃ m, minO (some y) l = some m ∧ m ≤ y ∧ (∀ x ∈ l, m ≤ x) ∧ (m = y ∨ m ∈ l)
  | [], y => ⟨y, rfl, Nat.le_refl _, (fun x hx => by cases hx), .inl rfl⟩
  | x :: l, y => by
    obtain ⟨m, h1, h2, h3, h4⟩ := minO_some l (min y x)
    refine ⟨m, h1, by omega, fun z hz => ?_, ?_⟩
    · rcases List.mem_cons.1 hz with rfl | hz
      · omega
      · exact h3 z hz
    · rcases h4 with h4 | h4
      · by_cases h : y ≤ x
        · exact .inl (by omega)
        · exact .inr (by rw [h4, Nat.min_eq_right (by omega)]; exact List.mem_cons_self ..)
      · exact .inr (List.mem_cons_of_mem _ h4)
/-- The least of a list: none of none. -/
theorem minO_none (l : List Nat) : (l = [] ∧ minO none l = none) ∨ ∃ m, minO none l = some m ∧ m ∈ l ∧ ∀ x ∈ l, m ≤ x := by
  cases l with
  | nil => exact .inl ⟨rfl, rfl⟩
  | cons x l =>
    obtain ⟨m, h1, h2, h3, h4⟩ := minO_some l x
    refine .inr ⟨m, h1, ?_, fun z hz => ?_⟩
    · rcases h4 with rfl | h4
      · exact List.mem_cons_self ..
      · exact List.mem_cons_of_mem _ h4
    · rcases List.mem_cons.1 hz with rfl | hz
      · exact h2
      · exact h3 z hz
def restI : List (ItW α) → Nat
  | [] => 0
  | it :: r => headW it.2 + restI r
def stopW (best : Option Nat) (n : Nat) : Bool := match best with
  | none => false
  | some b => decide (b ≤ n)
/-- The program's search for the least. -/
def bbW (F : List (α × Wn) → Wn → CdW α → Bool) : List (ItW α) → List (α × Wn) → Nat → Option Nat → Option Nat
  | items, pl, used, best => if stopW best (used + restI items) = true then best else
    match items with
    | [] => some used
    | it :: r => it.2.foldl (fun best k => if F pl it.1 k = true then bbW F r (pl ++ [(k.1, it.1)]) (used + k.2.1) best else best) best
omit [DecidableEq α] in
theorem allT_ge {F : List (α × Wn) → Wn → CdW α → Bool} : ∀ (items : List (ItW α)) (pl : List (α × Wn)), (∀ it ∈ items, ∀ k ∈ it.2, headW it.2 ≤ k.2.1) → ∀ t ∈ allT F items pl, restI items ≤ t
  | [], _, _, t, _ => Nat.zero_le _
  | it :: r, pl, hh, t, h => by
    unfold allT at h
    rw [List.mem_flatMap] at h
    obtain ⟨k, k1, k2⟩ := h
    split at k2
    · obtain ⟨t', t1, rfl⟩ := List.mem_map.1 k2
      have i1 := hh it (List.mem_cons_self ..) k k1
      have i2 := allT_ge r _ (fun i hi => hh i (List.mem_cons_of_mem _ hi)) t' t1
      show headW it.2 + restI r ≤ k.2.1 + t'
      omega
    · cases k2
omit [DecidableEq α] in
theorem bb_min {F : List (α × Wn) → Wn → CdW α → Bool} : ∀ (items : List (ItW α)) (pl : List (α × Wn)) (used : Nat) (best : Option Nat), (∀ it ∈ items, ∀ k ∈ it.2, headW it.2 ≤ k.2.1) → bbW F items pl used best = minO best ((allT F items pl).map fun t => used + t)
  | items, pl, used, best, hh => by
    unfold bbW
    split
    · rename_i hb
      cases best with
      | none => cases hb
      | some b =>
        have hb2 : b ≤ used + restI items := by simpa [stopW] using hb
        refine (minO_ge _ b fun x hx => ?_).symm
        obtain ⟨t, ht, rfl⟩ := List.mem_map.1 hx
        have := allT_ge items pl hh t ht
        omega
    · rename_i hb
      cases items with
      | nil =>
        unfold allT
        cases best with
        | none => rfl
        | some b =>
          have hb2 : ¬ b ≤ used := fun h => hb (decide_eq_true (show b ≤ used + 0 from h))
          show some used = some (min b (used + 0))
          rw [Nat.min_eq_right (by omega)]; rfl
      | cons it r =>
        unfold allT
        have hr := fun pl' used' best' => bb_min (F := F) r pl' used' best' fun i hi => hh i (List.mem_cons_of_mem _ hi)
        dsimp only
        clear hb
        generalize it.2 = cs
        induction cs generalizing best with
        | nil => cases best <;> rfl
        | cons k cs ih =>
          rw [List.foldl_cons, ih, List.flatMap_cons, List.map_append, minO_app]
          congr 1
          split
          · rw [hr, List.map_map]
            congr 1
            refine List.map_congr_left fun t _ => ?_
            simp only [Function.comp]
            omega
          · cases best <;> rfl
end
end Go.Proofs.YtempjmpfdniecaaGreatDoor
namespace Go.Proofs.YtempjmpfdniecaaGreatDoor
open Go.RowKit
section
variable {α : Type} [DecidableEq α]
omit [DecidableEq α] in
theorem busy_spec {T : List (Int × Int)} {a b : Int} (hab : a < b) : (∀ s, a ≤ s → s < b → ((onT T s : Nat) : Int) ≤ (busyT T a b).1) ∧ ∃ s, a ≤ s ∧ s < b ∧ (busyT T a b).1 = ((onT T s : Nat) : Int) := by
  have hs : ∀ x, x ∈ sortI (a :: frsM a b T) → a ≤ x ∧ x < b := fun x hx => by
    rw [sortI_mem] at hx
    rcases List.mem_cons.1 hx with rfl | hx
    · omega
    · have := frsM_mem.1 hx
      obtain ⟨t, _, h1, h2⟩ := this
      omega
  obtain ⟨t1, t2, t3⟩ := busyF_all (f := onT T) (sortI_pair (a :: frsM a b T)) (by rw [sortI_len]; simp)
  have e : busyT T a b = busyF (onT T) (sortI (a :: frsM a b T)) := rfl
  rw [← e] at t1 t2 t3
  refine ⟨fun s h1 h2 => ?_, _, (hs _ t1).1, (hs _ t1).2, t2.symm⟩
  by_cases h0 : 0 < onT T s
  · obtain ⟨t, ht, k1, k2⟩ := onT_dom h0
    by_cases k : t.1 < a
    · have h3 := (t3 a (sortI_mem.2 (List.mem_cons_self ..))).1
      have h4 := k2 a (by omega) h1
      omega
    · have h3 := (t3 t.1 (sortI_mem.2 (List.mem_cons_of_mem _ (frsM_mem.2 ⟨t, ht, rfl, by omega⟩)))).1
      have h4 := k2 t.1 (Int.le_refl _) k1
      omega
  · have h3 := (t3 a (sortI_mem.2 (List.mem_cons_self ..))).1
    omega
omit [DecidableEq α] in
theorem onT_onW (T : List (Int × Int)) (t : Int) : onT T t = T.countP (onW t) := by
  unfold onT
  refine List.countP_congr fun u _ => ?_
  unfold onW
  rw [inB_iff]
  simp only [Bool.and_eq_true, decide_eq_true_eq]
  omega
/-- The times of those of a class that meet a window. -/
def timC (pl : List (α × Wn)) (x : Wn) (c : α) : List Wn := (pl.filter fun p => decide (p.1 = c) && mtW p.2 x).map Prod.snd
def roomF (pl : List (α × Wn)) (x : Wn) (k : CdW α) : Bool := decide ((busyT (timC pl x k.1) x.1 x.2).1 < (k.2.2 : Int))
theorem timC_on {pl : List (α × Wn)} {x : Wn} {c : α} {t : Int} (h : onW t x = true) : onT (timC pl x c) t = pl.countP (onC c t) := by
  rw [onT_onW]
  unfold timC
  rw [List.countP_map, List.countP_filter]
  refine List.countP_congr fun p _ => ?_
  unfold onC
  simp only [Function.comp, Bool.and_eq_true, decide_eq_true_eq]
  constructor
  · rintro ⟨h1, h2, _⟩
    exact ⟨h2, h1⟩
  · rintro ⟨h1, h2⟩
    refine ⟨h2, h1, ?_⟩
    unfold onW at h h2
    unfold mtW
    simp only [Bool.and_eq_true, decide_eq_true_eq] at h h2 ⊢
    omega
theorem roomF_iff {cap : α → Nat} (pl : List (α × Wn)) (x : Wn) (k : CdW α) (hx : x.1 < x.2) (hk : k.2.2 = cap k.1) (hp : CapC cap pl) : roomF pl x k = true ↔ CapC cap (pl ++ [(k.1, x)]) := by
  obtain ⟨b1, s, s1, s2, b2⟩ := busy_spec (T := timC pl x k.1) hx
  unfold roomF
  rw [decide_eq_true_eq]
  constructor
  · intro h c t
    rw [List.countP_append, List.countP_singleton]
    have h1 := hp c t
    split
    · rename_i h2
      unfold onC at h2
      rw [Bool.and_eq_true, decide_eq_true_eq] at h2
      dsimp only at h2
      obtain ⟨rfl, h3⟩ := h2
      have h4 := timC_on (pl := pl) (c := k.1) h3
      unfold onW at h3
      simp only [Bool.and_eq_true, decide_eq_true_eq] at h3
      have h5 := b1 t h3.1 h3.2
      omega
    · omega
  · intro h
    have h1 := h k.1 s
    have h3 : onW s x = true := by
      unfold onW
      simp only [Bool.and_eq_true, decide_eq_true_eq]; omega
    have h4 := timC_on (pl := pl) (c := k.1) h3
    rw [List.countP_append, List.countP_singleton, if_pos (by unfold onC; rw [h3]; simp)] at h1
    omega
theorem full_all {m : Nat} {l : List Nat} (hn : l.Nodup) (hb : ∀ x ∈ l, 1 ≤ x ∧ x ≤ m) (hl : m ≤ l.length) {u : Nat} (h1 : 1 ≤ u) (h2 : u ≤ m) : u ∈ l := by
  refine Classical.byContradiction fun h => ?_
  have := nodup_bound m (u :: l) (List.nodup_cons.2 ⟨h, hn⟩) fun x hx => by
    rcases List.mem_cons.1 hx with rfl | hx
    · exact ⟨h1, h2⟩
    · exact hb x hx
  rw [List.length_cons] at this
  omega
/-- What the search for vehicles has given. -/
def GivJ (cap : α → Nat) (ws : List Wn) (st : List (α × Nat)) : Prop := ∃ P : List ((α × Wn) × Nat), PropW cap P ∧ st = P.map cuW ∧ ∃ r, ws = P.map wnW ++ r
def roomU (ws : List Wn) (st : List (α × Nat)) (x : Wn) (k : CdW α) : Bool := roomF ((st.zip ws).map fun p => (p.1.1, p.2)) x k
/-- Without room all vehicles of the class are taken. -/
theorem roomU_no {cap : α → Nat} {ws : List Wn} {st : List (α × Nat)} {x : Wn} {k : CdW α} (hj : GivJ cap ws st) (hx : x.1 < x.2) (hk : k.2.2 = cap k.1) (h : roomU ws st x k = false) : ∀ u, 1 ≤ u → u ≤ k.2.2 → tknW ws st x k.1 u = true := fun u u1 u2 => by
  obtain ⟨P, hP, rfl, r, rfl⟩ := hj
  unfold roomU at h
  have e : ((P.map cuW).zip (P.map wnW ++ r)).map (fun p => (p.1.1, p.2)) = P.map Prod.fst := by
    rw [zip_map, List.map_map]; rfl
  rw [e] at h
  unfold roomF at h
  rw [decide_eq_false_iff_not] at h
  obtain ⟨_, s, s1, s2, b2⟩ := busy_spec (T := timC (P.map Prod.fst) x k.1) hx
  have h3 : onW s x = true := by
    unfold onW
    simp only [Bool.and_eq_true, decide_eq_true_eq]; omega
  have h4 := timC_on (pl := P.map Prod.fst) (c := k.1) h3
  have hlen : k.2.2 ≤ ((P.filter fun p => onC k.1 s p.1).map Prod.snd).length := by
    rw [List.length_map, ← List.countP_eq_length_filter]
    rw [List.countP_map] at h4
    have h5 : P.countP (onC k.1 s ∘ Prod.fst) = P.countP (fun p => onC k.1 s p.1) := rfl
    omega
  have hmem := full_all (m := k.2.2) (l := (P.filter fun p => onC k.1 s p.1).map Prod.snd) (by
    rw [List.Nodup, List.pairwise_map]
    refine List.Pairwise.imp_of_mem (fun {p q} hp hq hpq => ?_) (List.Pairwise.filter (fun p => onC k.1 s p.1) hP.2)
    have hp := (List.mem_filter.1 hp).2
    have hq := (List.mem_filter.1 hq).2
    unfold onC onW at hp hq
    simp only [Bool.and_eq_true, decide_eq_true_eq] at hp hq
    refine hpq (hp.1.trans hq.1.symm) ?_
    unfold mtW
    simp only [Bool.and_eq_true, decide_eq_true_eq]
    omega) (fun y hy => by
    obtain ⟨p, hp, rfl⟩ := List.mem_map.1 hy
    obtain ⟨p1, p2⟩ := List.mem_filter.1 hp
    unfold onC at p2
    rw [Bool.and_eq_true, decide_eq_true_eq] at p2
    have := hP.1 p p1
    rw [p2.1, ← hk] at this
    exact this) hlen u1 u2
  obtain ⟨p, hp, rfl⟩ := List.mem_map.1 hmem
  obtain ⟨p1, p2⟩ := List.mem_filter.1 hp
  unfold onC at p2
  rw [Bool.and_eq_true, decide_eq_true_eq] at p2
  unfold tknW
  rw [zip_map, List.any_map, List.any_eq_true]
  refine ⟨p, p1, ?_⟩
  simp only [Function.comp, Bool.and_eq_true, decide_eq_true_eq]
  refine ⟨by unfold cuW; rw [p2.1], ?_⟩
  have h6 := p2.2
  unfold onW at h3 h6
  unfold mtW wnW
  simp only [Bool.and_eq_true, decide_eq_true_eq] at h3 h6 ⊢
  omega
end
end Go.Proofs.YtempjmpfdniecaaGreatDoor
