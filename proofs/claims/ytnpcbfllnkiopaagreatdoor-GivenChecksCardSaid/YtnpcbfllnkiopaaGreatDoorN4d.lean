/- Several texts as one: Gvc Sp Bd Bx Gvd Gve -/
import Derived.Test.YtnpcbfllnkiopaaGreatDoorN4c
import Derived.Test.YtnpcbfllnkiopaaGreatDoorN4b
import Derived.Test.YtnpcbfllnkiopaaGreatDoorN4a
set_option maxRecDepth 100000
set_option maxHeartbeats 4000000
namespace Go.Proofs.YtnpcbfllnkiopaaGreatDoor
open Go.RowKit
/-- What is wrong with one given vehicle. -/
def gvE1 (cs : List Cs) (sl : List Sk) (p : Bk × Gv) : Int := if noB cs p.2.cls = true then 8 else if stepsV cs p.1.cls p.2.cls < 0 then 16 else if inB p.2.unit 1 (manyV sl p.2.cls) = true then 0 else 1
def gvFn (cs : List Cs) (sl : List Sk) : Option (Bk × Gv) → Bk × Gv → Int := fun _ p => gvE1 cs sl p
def keyQ (p : Bk × Gv) : Bool := p.1.key.toList == p.2.bk.toList
def keysQ (l : List Bk) (g : List Gv) : Bool := decide (l.length = g.length) && (l.zip g).all keyQ
/-- Whether two given vehicles are one, at one moment. -/
def clsh (x y : Bk × Gv) : Bool := ((x.2.cls.toList == y.2.cls.toList) && decide (x.2.unit = y.2.unit)) && meetW x.1.fr x.1.to_ y.1.fr y.1.to_
def cflB (z : List (Bk × Gv)) : Bool := (List.range z.length).any fun i => match z[i]? with
  | some x => (z.take i).any (clsh x)
  | none => false
def givE (cs : List Cs) (sl : List Sk) (l : List Bk) (g : List Gv) : Int := if keysQ l g = true then (if scanE (gvFn cs sl) none (l.zip g) = 0 then (if cflB (l.zip g) = true then 13 else 0) else scanE (gvFn cs sl) none (l.zip g)) else 3
def gchE (cs : List Cs) (sl : List Sk) (l : List Bk) (g : List Gv) : Int := if firstE [stockE cs sl, checkE cs l] = 0 then givE cs sl l g else firstE [stockE cs sl, checkE cs l]
def upV (cs : List Cs) (z : List (Bk × Gv)) : Int := (z.map fun p => max (stepsV cs p.1.cls p.2.cls) 0).sum
theorem zipbg_at {l : List Bk} {g : List Gv} {i : Nat} {x : Bk} {y : Gv} (hx : l[i]? = some x) (hy : g[i]? = some y) : (l.zip g)[i]? = some (x, y) := by
  rw [List.getElem?_zip_eq_some]; exact ⟨hx, hy⟩
theorem gvE1_a {cs : List Cs} {sl : List Sk} {p : Bk × Gv} (h : noB cs p.2.cls = true) : gvE1 cs sl p = 8 := if_pos h
theorem gvE1_b {cs : List Cs} {sl : List Sk} {p : Bk × Gv} (h : noB cs p.2.cls = false) (h2 : stepsV cs p.1.cls p.2.cls < 0) : gvE1 cs sl p = 16 := by
  unfold gvE1; rw [if_neg (show ¬ noB cs p.2.cls = true by rw [h]; decide), if_pos h2]
theorem gvE1_c {cs : List Cs} {sl : List Sk} {p : Bk × Gv} (h : noB cs p.2.cls = false) (h2 : ¬ stepsV cs p.1.cls p.2.cls < 0) (h3 : inB p.2.unit 1 (manyV sl p.2.cls) = false) : gvE1 cs sl p = 1 := by
  unfold gvE1; rw [if_neg (show ¬ noB cs p.2.cls = true by rw [h]; decide), if_neg h2, if_neg (show ¬ inB p.2.unit 1 (manyV sl p.2.cls) = true by rw [h3]; decide)]
theorem gvE1_d {cs : List Cs} {sl : List Sk} {p : Bk × Gv} (h : noB cs p.2.cls = false) (h2 : ¬ stepsV cs p.1.cls p.2.cls < 0) (h3 : inB p.2.unit 1 (manyV sl p.2.cls) = true) : gvE1 cs sl p = 0 := by
  unfold gvE1; rw [if_neg (show ¬ noB cs p.2.cls = true by rw [h]; decide), if_neg h2, if_pos h3]
theorem allq_at {z : List (Bk × Gv)} {i : Nat} {x : Bk × Gv} (h : z[i]? = some x) : (z.take (i + 1)).all keyQ = ((z.take i).all keyQ && keyQ x) := by
  rw [List.take_add_one, h, Option.toList_some, List.all_append]; simp
theorem allq_no {z : List (Bk × Gv)} {i : Nat} {x : Bk × Gv} (h : z[i]? = some x) (hx : keyQ x = false) : z.all keyQ = false := by
  cases h0 : z.all keyQ with
  | false => rfl
  | true => rw [List.all_eq_true.1 h0 x (List.mem_of_getElem? h)] at hx; cases hx
theorem keyq_comm {a b : ByteArray} : (a.toList == b.toList) = (b.toList == a.toList) := by rw [Bool.eq_iff_iff, beq_iff_eq, beq_iff_eq]; exact eq_comm
def noCfl (z : List (Bk × Gv)) (i : Nat) : Prop := ∀ j x, j < i → z[j]? = some x → (z.take j).any (clsh x) = false
theorem cfl_yes {z : List (Bk × Gv)} {i k : Nat} {x y : Bk × Gv} (hx : z[i]? = some x) (hy : z[k]? = some y) (hk : k < i) (h : clsh x y = true) : cflB z = true := by
  unfold cflB
  refine List.any_eq_true.2 ⟨i, List.mem_range.2 (List.getElem?_eq_some_iff.1 hx).1, ?_⟩
  rw [hx]
  refine List.any_eq_true.2 ⟨y, ?_, h⟩
  refine List.mem_of_getElem? (i := k) ?_
  rw [List.getElem?_take, if_pos hk]; exact hy
theorem cfl_no {z : List (Bk × Gv)} {i : Nat} (h : noCfl z i) (hi : z.length ≤ i) : cflB z = false := by
  unfold cflB
  rw [List.any_eq_false]
  intro j hj
  have hj2 := List.mem_range.1 hj
  cases hz : z[j]? with
  | none => simp
  | some x => simp [h j x (by omega) hz]
theorem cfl_next {z : List (Bk × Gv)} {i : Nat} {x : Bk × Gv} (h : noCfl z i) (hx : z[i]? = some x) (h2 : (z.take i).any (clsh x) = false) : noCfl z (i + 1) := fun j y hj hy => by
  by_cases e : j = i
  · subst e
    rw [hx] at hy; cases hy; exact h2
  · exact h j y (by omega) hy
theorem anyc_at {z : List (Bk × Gv)} {i : Nat} {x y : Bk × Gv} (h : z[i]? = some y) : (z.take (i + 1)).any (clsh x) = ((z.take i).any (clsh x) || clsh x y) := by
  rw [List.take_add_one, h, Option.toList_some, List.any_append]; simp
theorem up_at {cs : List Cs} {z : List (Bk × Gv)} {i : Nat} {x : Bk × Gv} (h : z[i]? = some x) : upV cs (z.take (i + 1)) = upV cs (z.take i) + max (stepsV cs x.1.cls x.2.cls) 0 := by
  unfold upV
  rw [List.take_add_one, h, Option.toList_some, List.map_append, List.sum_append]; simp
theorem up_bound (cs : List Cs) : ∀ z : List (Bk × Gv), 0 ≤ upV cs z ∧ upV cs z ≤ (z.length : Int) * (cs.length : Int)
  | [] => by simp [upV]
  | x :: r => by
    have ih := up_bound cs r
    have hb := stepsV_bound cs x.1.cls x.2.cls
    have e : upV cs (x :: r) = max (stepsV cs x.1.cls x.2.cls) 0 + upV cs r := by unfold upV; rw [List.map_cons, List.sum_cons]
    rw [e, List.length_cons]
    have e2 : ((r.length + 1 : Nat) : Int) * (cs.length : Int) = (r.length : Int) * (cs.length : Int) + (cs.length : Int) := by rw [Int.natCast_add, Int.add_mul]; simp
    rw [e2]
    omega
theorem right_all {cs : List Cs} {sl : List Sk} {l : List Bk} (h : firstE [stockE cs sl, checkE cs l] = 0) : classesE cs = 0 ∧ formE l = 0 ∧ ∀ b ∈ l, noB cs b.cls = false := by
  have h2 := (firstE_two h).2
  unfold checkE at h2
  obtain ⟨h3, h4⟩ := firstE_two h2
  unfold classedE at h4
  split at h4
  · rename_i h5; exact absurd h4 h5
  · rename_i h5
    split at h4
    · cases h4
    · rename_i h6
      refine ⟨h3, by simpa using h5, fun b hb => ?_⟩
      cases h7 : noB cs b.cls with
      | false => rfl
      | true => exact absurd (List.any_eq_true.2 ⟨b, hb, h7⟩) h6
theorem keys_of {cs : List Cs} {a b : ByteArray} (hc : classesE cs = 0) (ha : noB cs a = false) (hb : noB cs b = false) : keysE cs [a, b] = 0 := by
  unfold noB at ha hb
  unfold keysE
  rw [if_neg (by rw [hc]; decide), if_neg]
  simp [ha, hb]
theorem stepsTo_any (cs : List Cs) (A0 : Option Addr) (n0 c0 : Nat) (ka kb : ByteArray) (w : World) (hcs : SlT csEnc 2 170 w A0 n0 cs) (hco : ∀ x ∈ cs, CsOk x) (hn0 : n0 ≤ 1000) (hb : keysE cs [ka, kb] = 0) :
  Calls Tryz.prog 144 #[.slice A0 n0 c0, .string ka, .string kb] w (fun e w' => e = .returned (.tuple #[.int .i64 (max (stepsV cs ka kb) 0), .bool (decide (0 ≤ stepsV cs ka kb))]) ∧ w.grownBy w' none) := by
 refine gw_enter ⟨21, w, none, []⟩ Tryz.func144 rfl Tryz.ntmps144 rfl (mem0 (X := [SlOld csEnc 2 170 w.heap.size none A0 n0 cs]) (allF_cons hcs.old allF_nil) (allL_cons SlOld.lasts allL_nil)) ?_
 refine sr_ (sg_ rfl (sg_ rfl (nn_ (sr_ (mv_ rfl (mv_ rfl (mv_ rfl ?_)))))))
 refine wl_callv rfl cb227 rfl rfl (fun wx hm => (steps_right cs A0 n0 c0 ka kb wx (hm.fact 0 rfl).1 hco (by omega) hb)) ?_
 refine mv_ rfl (wl_ov (ov_extract rfl rfl) rfl (wl_ov (ov_extract rfl rfl) rfl (wl_ov (ov_extract rfl rfl) rfl (sg_ rfl (sg_ rfl (sg_ rfl (nn_ (sr_ (mv_ rfl (mv_ rfl (sg_ rfl ?_)))))))))))
 refine sg_ rfl (nn_ ?_)
 refine gw_ret ?_
 refine nx_ret2 rfl rfl rfl fun wx hm => ?_
 exact ⟨rfl, hm.g⟩
theorem cgiven1_any (b0 b1 : ByteArray) (b2 b3 b4 b5 : Int) (q0 q1 : ByteArray) (q2 : Int) (w : World) :
  Calls Tryz.prog 152 #[.agg #[.string b0, .string b1, .int .i64 b2, .int .i64 b3, .int .i64 b4, .int .i64 b5], .agg #[.string q0, .string q1, .int .i64 q2]] w (fun e w' => e = .returned (.bool (keyQ ((⟨b0, b1, b2, b3, b4, b5⟩ : Bk), (⟨q0, q1, q2⟩ : Gv)))) ∧ w.grownBy w' none) := by
 refine gw_enter ⟨10, w, none, []⟩ Tryz.func152 rfl Tryz.ntmps152 rfl (mem0 (X := []) allF_nil allL_nil) ?_
 refine sr_ ?_
 refine wl_box rfl rfl rfl fun g1 => ?_
 refine wl_box rfl rfl rfl fun g2 => ?_
 refine sg_ rfl (nn_ (sr_ (fd_ fo199_0 rfl rfl (lk_ sc9 1 rfl rfl rfl (fd_ fo193_0 rfl rfl (lk_ sc9 0 rfl rfl rfl (wl_ov (ov_seql rfl rfl) rfl (sg_ rfl (nn_ ?_)))))))))
 refine gw_ret ?_
 refine nx_ret1 rfl rfl fun wx hm => ?_
 exact ⟨rfl, hm.g⟩
theorem eqKeys_any (l : List Bk) (A : Option Addr) (n c : Nat) (g : List Gv) (G : Option Addr) (gn gc : Nat) (w : World) (hl : SlT bkEnc 6 199 w A n l) (hn : n ≤ 1000) (hg : SlT gvEnc 3 193 w G gn g) (hgn : gn ≤ 1000) :
  Calls Tryz.prog 151 #[.slice A n c, .slice G gn gc, .func (.func 152) #[] #[]] w (fun e w' => e = .returned (.bool (keysQ l g)) ∧ w.grownBy w' none) := by
 refine gw_enter ⟨32, w, none, []⟩ Tryz.func151 rfl Tryz.ntmps151 rfl (mem0 (X := [SlOld bkEnc 6 199 w.heap.size none A n l, SlOld gvEnc 3 193 w.heap.size none G gn g]) (allF_cons hl.old (allF_cons hg.old allF_nil)) (allL_cons SlOld.lasts (allL_cons SlOld.lasts allL_nil))) ?_
 refine sr_ ?_
 have hll := hl.len
 have hgl := hg.len
 refine sg_ rfl (nn_ (gw_seq (sr_ (mv_ rfl (wl_ov (ov_len es84 rfl) rfl (mv_ rfl (wl_ov (ov_len es88 rfl) rfl (wl_ov (ov_neq rfl rfl) rfl (nn_ ?_)))))))))
 refine gw_cond rfl (fun hh => ?_) (fun hh => ?_)
 ·have hne : ¬ (((n : Nat) : Int) = ((gn : Nat) : Int)) := by simpa using hh
  clear hh
  refine sr_ ?_
  have hK : keysQ l g = false := by unfold keysQ; rw [decide_eq_false (by omega)]; rfl
  refine sg_ rfl (nn_ ?_)
  refine gw_ret ?_
  refine nx_then_ret ?_
  refine nx_ret1 rfl rfl fun wx hm => ?_
  exact ⟨by rw [hK], hm.g⟩
 have hne : ((n : Nat) : Int) = ((gn : Nat) : Int) := by simpa using hh
 clear hh
 refine gw_skip (nx_then (gw_seq (sr_ ?_)))
 obtain rfl : n = gn := by omega
 have hzl : (l.zip g).length = n := by rw [List.length_zip]; omega
 have hK0 : keysQ l g = (l.zip g).all keyQ := by unfold keysQ; rw [decide_eq_true (by omega), Bool.true_and]
 refine mv_ rfl (wl_ov (ov_len es84 rfl) rfl (mv_ rfl (nn_ (gw_block ?_))))
 refine gw_loop (γ := Nat) (fun (i : Nat) => i ≤ n ∧ ((l.zip g).take i).all keyQ = true) (fun (i : Nat) => [(1, .slice G n gc), (2, .func (.func 152) #[] #[]), (15, .slice A n c), (16, .int .i64 ((n : Nat) : Int)), (17, .int .i64 ((i : Nat) : Int))]) (fun (i : Nat) => fun _ => True) (fun (i : Nat) => []) (fun (i : Nat) => []) (fun (i : Nat) => [SlOld bkEnc 6 199 w.heap.size none A n l, SlOld gvEnc 3 193 w.heap.size none G n g]) (fun (i : Nat) => n - i) 0 ⟨Nat.zero_le _, rfl⟩ ⟨rfl, rfl, rfl, rfl, rfl, trivial⟩ (fun _ hm => hm.pick [] [] [0, 1] rfl rfl) ?_
 intro i hinv
 replace hinv : i ≤ n ∧ ((l.zip g).take i).all keyQ = true := hinv
 refine sr_ ?_
 obtain ⟨hi0, hall⟩ := hinv
 refine wl_ov (ov_lss rfl rfl) rfl (nn_ (gw_seq ?_))
 refine gw_cond rfl (fun hh => ?_) (fun hh => ?_)
 ·have hi : ((i : Nat) : Int) < ((n : Nat) : Int) := by simpa using hh
  clear hh
  refine gw_skip (nx_then (gw_seq (gw_block (sr_ ?_))))
  obtain ⟨gb, goff, hA, _, _⟩ := hg.get (by omega)
  subst hA
  obtain ⟨ab, aoff, hA, _, _⟩ := hl.get (by omega)
  subst hA
  obtain ⟨gx, hgx⟩ : ∃ x, g[i]? = some x := ⟨_, List.getElem?_eq_getElem (by omega)⟩
  obtain ⟨q0, q1, q2⟩ := gx
  obtain ⟨bx, hbx⟩ : ∃ x, l[i]? = some x := ⟨_, List.getElem?_eq_getElem (by omega)⟩
  obtain ⟨b0, b1, b2, b3, b4, b5⟩ := bx
  have hz := zipbg_at hbx hgx
  have hat := allq_at hz
  rw [hall, Bool.true_and] at hat
  refine mv_ rfl ?_
  refine wl_ov (ov_index (j := i) es84 rfl rfl (by omega)) rfl ?_
  refine wl_ov (ov_elem (vs := [.string b0, .string b1, .int .i64 b2, .int .i64 b3, .int .i64 b4, .int .i64 b5]) rz199 rfl (fun _ hm => (hm.fact 0 rfl).1) hbx rfl rfl) rfl ?_
  refine wl_alloc zc199 rfl fun g1 => ?_
  refine sg_ rfl ?_
  refine wl_stores (cs' := [.string b0, .string b1, .int .i64 b2, .int .i64 b3, .int .i64 b4, .int .i64 b5]) 0 rz199 rfl rfl rfl rfl rfl rfl rfl rfl ?_
  refine nn_ (sr_ (mv_ rfl (mv_ rfl ?_)))
  refine wl_ov (ov_index (j := i) es88 rfl rfl (by omega)) rfl ?_
  refine wl_ov (ov_elem (vs := [.string q0, .string q1, .int .i64 q2]) rz193 rfl (fun _ hm => (hm.fact 1 rfl).1) hgx rfl rfl) rfl ?_
  refine wl_alloc zc193 rfl fun g2 => ?_
  refine wl_stores (cs' := [.string q0, .string q1, .int .i64 q2]) 0 rz193 rfl rfl rfl rfl rfl rfl rfl rfl ?_
  refine nn_ (sr_ (mv_ rfl ?_))
  refine wl_ov (ov_loads rz199 rfl (fun _ hm => hm.blkI 1 rfl) rfl rfl) rfl ?_
  refine wl_ov (ov_loads rz193 rfl (fun _ hm => hm.blkI 0 rfl) rfl rfl) rfl ?_
  refine wl_callv rfl cb152 rfl rfl (fun wx hm => (cgiven1_any b0 b1 b2 b3 b4 b5 q0 q1 q2 wx)) ?_
  refine wl_ov (ov_un_not rfl) rfl (nn_ ?_)
  rcases Bool.eq_false_or_eq_true (!(keyQ ((⟨b0, b1, b2, b3, b4, b5⟩ : Bk), (⟨q0, q1, q2⟩ : Gv)))) with hq | hq
  ·refine gw_set 30 rfl (congrArg Value.bool hq) ?_
   refine ct_ rfl (sr_ (sg_ rfl (nn_ ?_)))
   refine gw_ret ?_
   refine nx_blk_ret (nx_then_ret (nx_then_ret (nx_blk_ret (nx_then_ret ?_))))
   have hk : keyQ ((⟨b0, b1, b2, b3, b4, b5⟩ : Bk), (⟨q0, q1, q2⟩ : Gv)) = false := by simpa using hq
   have hK : keysQ l g = false := by rw [hK0]; exact allq_no hz hk
   refine nx_ret1 rfl rfl fun wx hm => ?_
   exact ⟨by rw [hK], hm.g⟩
  refine gw_set 30 rfl (congrArg Value.bool hq) ?_
  refine cf_ rfl (gw_skip (nx_blk_nrm (nx_then (gw_region (ad_ rfl rfl (mv_ rfl (wl_nil ?_)))))))
  have hk : keyQ ((⟨b0, b1, b2, b3, b4, b5⟩ : Bk), (⟨q0, q1, q2⟩ : Gv)) = true := by simpa using hq
  exact nx_round (i + 1) ⟨by (try dsimp only); omega, by (try dsimp only); rw [hat, hk]⟩ (by (try dsimp only); omega) ⟨rfl, rfl, rfl, rfl, (some_int (by omega)), trivial⟩ (fun _ hm => hm.pick [] [] [0, 1] rfl rfl)
 have hi : ¬ (((i : Nat) : Int) < ((n : Nat) : Int)) := by simpa using hh
 clear hh
 refine gw_exit ?_
 refine nx_then_exit (nx_then_exit ?_)
 refine nx_blk_here ?_
 refine nx_then (sr_ ?_)
 have hlt : (l.zip g).take i = l.zip g := List.take_of_length_le (by omega)
 rw [hlt] at hall
 have hK : keysQ l g = true := by rw [hK0]; exact hall
 refine sg_ rfl (nn_ ?_)
 refine gw_ret ?_
 refine nx_ret1 rfl rfl fun wx hm => ?_
 exact ⟨by rw [hK], hm.g⟩
theorem givenFault_any (cs : List Cs) (A0 : Option Addr) (n0 c0 : Nat) (sl : List Sk) (A1 : Option Addr) (n1 c1 : Nat) (l : List Bk) (A : Option Addr) (n c : Nat) (g : List Gv) (G : Option Addr) (gn gc : Nat) (w : World) (hcs : SlT csEnc 2 170 w A0 n0 cs) (hco : ∀ x ∈ cs, CsOk x) (hn0 : n0 ≤ 1000) (hs : SlT skEnc 2 254 w A1 n1 sl) (hso : ∀ x ∈ sl, SkOk x) (hn1 : n1 ≤ 1000) (hl : SlT bkEnc 6 199 w A n l) (_hok : ∀ x ∈ l, BkOk x) (hn : n ≤ 1000) (hg : SlT gvEnc 3 193 w G gn g) (hgn : gn ≤ 1000) (hgc : gn ≤ gc) (h0 : firstE [stockE cs sl, checkE cs l] = 0) :
  Calls Tryz.prog 51 #[.slice A0 n0 c0, .slice A1 n1 c1, .slice A n c, .slice G gn gc] w (GotE w (givE cs sl l g)) := by
 refine gw_enter ⟨118, w, none, []⟩ Tryz.func51 rfl Tryz.ntmps51 rfl (mem0 (X := [SlOld csEnc 2 170 w.heap.size none A0 n0 cs, SlOld skEnc 2 254 w.heap.size none A1 n1 sl, SlOld bkEnc 6 199 w.heap.size none A n l, SlOld gvEnc 3 193 w.heap.size none G gn g]) (allF_cons hcs.old (allF_cons hs.old (allF_cons hl.old (allF_cons hg.old allF_nil)))) (allL_cons SlOld.lasts (allL_cons SlOld.lasts (allL_cons SlOld.lasts (allL_cons SlOld.lasts allL_nil))))) ?_
 refine sr_ ?_
 have hll := hl.len
 have hgl := hg.len
 obtain ⟨hce, hfm, hcl2⟩ := right_all h0
 have hcz := classesE_ok hce
 have htim := form_tim hfm
 obtain ⟨GE, hGE⟩ : ∃ z, z = givE cs sl l g := ⟨_, rfl⟩
 rw [← hGE]
 have hge := hGE
 unfold givE at hge
 refine sg_ rfl (nn_ (gw_seq (sr_ (mv_ rfl (wl_ov (ov_len es88 rfl) rfl (mv_ rfl (wl_ov (ov_len es84 rfl) rfl (wl_ov (ov_neq rfl rfl) rfl (nn_ ?_)))))))))
 refine gw_cond rfl (fun hh => ?_) (fun hh => ?_)
 ·have hne : ¬ (((gn : Nat) : Int) = ((n : Nat) : Int)) := by simpa using hh
  clear hh
  refine sr_ ?_
  have hK : keysQ l g = false := by unfold keysQ; rw [decide_eq_false (by omega)]; rfl
  rw [if_neg (by rw [hK]; decide)] at hge
  refine sg_ rfl (nn_ ?_)
  refine gw_ret ?_
  refine nx_then_ret ?_
  refine nx_ret1 rfl rfl fun wx hm => ?_
  exact ⟨ret_int (by rw [hge]), hm.g⟩
 have hne : ((gn : Nat) : Int) = ((n : Nat) : Int) := by simpa using hh
 clear hh
 refine gw_skip (nx_then (gw_seq (sr_ ?_)))
 obtain rfl : n = gn := by omega
 have hzl : (l.zip g).length = n := by rw [List.length_zip]; omega
 have hK0 : keysQ l g = (l.zip g).all keyQ := by unfold keysQ; rw [decide_eq_true (by omega), Bool.true_and]
 refine mv_ rfl (wl_ov (ov_len es88 rfl) rfl (mv_ rfl (nn_ (gw_block ?_))))
 refine gw_loop (γ := Nat) (fun (i : Nat) => i ≤ n ∧ ((l.zip g).take i).all keyQ = true) (fun (i : Nat) => [(0, .slice A0 n0 c0), (1, .slice A1 n1 c1), (2, .slice A n c), (3, .slice G n gc), (24, .slice G n gc), (25, .int .i64 ((n : Nat) : Int)), (26, .int .i64 ((i : Nat) : Int))]) (fun (i : Nat) => fun _ => True) (fun (i : Nat) => []) (fun (i : Nat) => []) (fun (i : Nat) => [SlOld csEnc 2 170 w.heap.size none A0 n0 cs, SlOld skEnc 2 254 w.heap.size none A1 n1 sl, SlOld bkEnc 6 199 w.heap.size none A n l, SlOld gvEnc 3 193 w.heap.size none G n g]) (fun (i : Nat) => n - i) 0 ⟨Nat.zero_le _, rfl⟩ ⟨rfl, rfl, rfl, rfl, rfl, rfl, rfl, trivial⟩ (fun _ hm => hm.pick [] [] [0, 1, 2, 3] rfl rfl) ?_
 intro i hinv
 replace hinv : i ≤ n ∧ ((l.zip g).take i).all keyQ = true := hinv
 refine sr_ ?_
 obtain ⟨hi0, hall⟩ := hinv
 refine wl_ov (ov_lss rfl rfl) rfl (nn_ (gw_seq ?_))
 refine gw_cond rfl (fun hh => ?_) (fun hh => ?_)
 ·have hi : ((i : Nat) : Int) < ((n : Nat) : Int) := by simpa using hh
  clear hh
  refine gw_skip (nx_then (gw_seq (gw_block (sr_ ?_))))
  obtain ⟨gb, goff, hA, _, _⟩ := hg.get (by omega)
  subst hA
  obtain ⟨ab, aoff, hA, _, _⟩ := hl.get (by omega)
  subst hA
  obtain ⟨gx, hgx⟩ : ∃ x, g[i]? = some x := ⟨_, List.getElem?_eq_getElem (by omega)⟩
  obtain ⟨q0, q1, q2⟩ := gx
  obtain ⟨bx, hbx⟩ : ∃ x, l[i]? = some x := ⟨_, List.getElem?_eq_getElem (by omega)⟩
  obtain ⟨b0, b1, b2, b3, b4, b5⟩ := bx
  have hz := zipbg_at hbx hgx
  have hat := allq_at hz
  rw [hall, Bool.true_and] at hat
  refine mv_ rfl ?_
  refine wl_ov (ov_index (j := i) es88 rfl rfl (by omega)) rfl ?_
  refine wl_ov (ov_elem (vs := [.string q0, .string q1, .int .i64 q2]) rz193 rfl (fun _ hm => (hm.fact 3 rfl).1) hgx rfl rfl) rfl ?_
  refine wl_alloc zc193 rfl fun g1 => ?_
  refine sg_ rfl ?_
  refine wl_stores (cs' := [.string q0, .string q1, .int .i64 q2]) 0 rz193 rfl rfl rfl rfl rfl rfl rfl rfl ?_
  refine nn_ (gw_seq ?_)
  refine gd (fun wz => Blk wz g1 193 [.string q0, .string q1, .int .i64 q2] ∧ (SlOld csEnc 2 170 w.heap.size none A0 n0 cs) wz ∧ (SlOld skEnc 2 254 w.heap.size none A1 n1 sl) wz ∧ (SlOld bkEnc 6 199 w.heap.size none (some ⟨ab, aoff, none⟩) n l) wz ∧ (SlOld gvEnc 3 193 w.heap.size none (some ⟨gb, goff, none⟩) n g) wz ∧ True) mixed (fun _ hm => ⟨hm.bl 0, hm.fa 0, hm.fa 1, hm.fa 2, hm.fa 3, trivial⟩) fun z => ?_
  refine wt 0 8 1 rfl z (ov_field fo193_0 rfl rfl) ?_
  refine wt 1 8 3 rfl z (ov_load sc9 rfl (fun _ hm => hm.1) rfl) ?_
  refine wt 2 8 7 rfl z (ov_move rfl) ?_
  refine wt 3 8 15 rfl z (ov_move rfl) ?_
  refine wt 4 8 31 rfl z (ov_index (j := i) es84 rfl rfl (by omega)) ?_
  refine wt 5 8 63 rfl z (ov_field fo199_0 rfl rfl) ?_
  refine wt 6 8 127 rfl z (ov_elem1 (k := 0) (v := .string b0) sc9 rfl (fun _ hm => (hm.2.2.2.1).1) hbx rfl rfl) ?_
  refine wt 7 8 255 rfl z (ov_sneq rfl rfl) ?_
  refine wa_done (by kernel_rfl) ?_
  refine nx_then ?_
  rcases Bool.eq_false_or_eq_true (!(q0.toList == b0.toList)) with hq | hq
  ·refine gw_set 38 rfl (congrArg Value.bool hq) ?_
   have hk : keyQ ((⟨b0, b1, b2, b3, b4, b5⟩ : Bk), (⟨q0, q1, q2⟩ : Gv)) = false := by unfold keyQ; dsimp only; rw [keyq_comm]; simpa using hq
   have hK : keysQ l g = false := by rw [hK0]; exact allq_no hz hk
   rw [if_neg (by rw [hK]; decide)] at hge
   refine ct_ rfl (sr_ (sg_ rfl (nn_ ?_)))
   refine gw_ret ?_
   refine nx_blk_ret (nx_then_ret (nx_then_ret (nx_blk_ret (nx_then_ret ?_))))
   refine nx_ret1 rfl rfl fun wx hm => ?_
   exact ⟨ret_int (by rw [hge]), hm.g⟩
  refine gw_set 38 rfl (congrArg Value.bool hq) ?_
  have hk : keyQ ((⟨b0, b1, b2, b3, b4, b5⟩ : Bk), (⟨q0, q1, q2⟩ : Gv)) = true := by unfold keyQ; dsimp only; rw [keyq_comm]; simpa using hq
  refine cf_ rfl (gw_skip (nx_blk_nrm (nx_then (gw_region (ad_ rfl rfl (mv_ rfl (wl_nil ?_)))))))
  exact nx_round (i + 1) ⟨by (try dsimp only); omega, by (try dsimp only); rw [hat, hk]⟩ (by (try dsimp only); omega) ⟨rfl, rfl, rfl, rfl, rfl, rfl, (some_int (by omega)), trivial⟩ (fun _ hm => hm.pick [] [] [0, 1, 2, 3] rfl rfl)
 have hi : ¬ (((i : Nat) : Int) < ((n : Nat) : Int)) := by simpa using hh
 clear hh
 refine gw_exit ?_
 refine nx_then_exit (nx_then_exit ?_)
 refine nx_blk_here ?_
 refine nx_then (gw_seq (sr_ ?_))
 have hlt : (l.zip g).take i = l.zip g := List.take_of_length_le (by omega)
 rw [hlt] at hall
 have hK : keysQ l g = true := by rw [hK0]; exact hall
 rw [if_pos hK] at hge
 refine mv_ rfl (wl_ov (ov_len es88 rfl) rfl (mv_ rfl (nn_ (gw_block ?_))))
 refine gw_loop (γ := Nat) (fun (i : Nat) => i ≤ n ∧ scanE (gvFn cs sl) none (l.zip g) = scanE (gvFn cs sl) (prevOf (l.zip g) i) ((l.zip g).drop i)) (fun (i : Nat) => [(0, .slice A0 n0 c0), (1, .slice A1 n1 c1), (2, .slice A n c), (3, .slice G n gc), (40, .slice G n gc), (41, .int .i64 ((n : Nat) : Int)), (42, .int .i64 ((i : Nat) : Int))]) (fun (i : Nat) => fun _ => True) (fun (i : Nat) => []) (fun (i : Nat) => []) (fun (i : Nat) => [SlOld csEnc 2 170 w.heap.size none A0 n0 cs, SlOld skEnc 2 254 w.heap.size none A1 n1 sl, SlOld bkEnc 6 199 w.heap.size none A n l, SlOld gvEnc 3 193 w.heap.size none G n g]) (fun (i : Nat) => n - i) 0 ⟨Nat.zero_le _, rfl⟩ ⟨rfl, rfl, rfl, rfl, rfl, rfl, rfl, trivial⟩ (fun _ hm => hm.pick [] [] [0, 1, 2, 3] rfl rfl) ?_
 intro i hinv
 replace hinv : i ≤ n ∧ scanE (gvFn cs sl) none (l.zip g) = scanE (gvFn cs sl) (prevOf (l.zip g) i) ((l.zip g).drop i) := hinv
 refine sr_ ?_
 obtain ⟨hi0, hsc⟩ := hinv
 refine wl_ov (ov_lss rfl rfl) rfl (nn_ (gw_seq ?_))
 refine gw_cond rfl (fun hh => ?_) (fun hh => ?_)
 ·have hi : ((i : Nat) : Int) < ((n : Nat) : Int) := by simpa using hh
  clear hh
  refine gw_skip (nx_then (gw_seq (gw_block (sr_ ?_))))
  obtain ⟨gb, goff, hA, _, _⟩ := hg.get (by omega)
  subst hA
  obtain ⟨ab, aoff, hA, _, _⟩ := hl.get (by omega)
  subst hA
  obtain ⟨gx, hgx⟩ : ∃ x, g[i]? = some x := ⟨_, List.getElem?_eq_getElem (by omega)⟩
  obtain ⟨q0, q1, q2⟩ := gx
  obtain ⟨bx, hbx⟩ : ∃ x, l[i]? = some x := ⟨_, List.getElem?_eq_getElem (by omega)⟩
  obtain ⟨b0, b1, b2, b3, b4, b5⟩ := bx
  have hz := zipbg_at hbx hgx
  have hat := scanE_at (gvFn cs sl) (l.zip g) i _ hz
  rw [← hsc] at hat
  have hnb := hcl2 _ (List.mem_of_getElem? hbx)
  dsimp only at hnb
  have hE : gvFn cs sl (prevOf (l.zip g) i) ((⟨b0, b1, b2, b3, b4, b5⟩ : Bk), (⟨q0, q1, q2⟩ : Gv)) = gvE1 cs sl ((⟨b0, b1, b2, b3, b4, b5⟩ : Bk), (⟨q0, q1, q2⟩ : Gv)) := rfl
  rw [hE] at hat
  refine mv_ rfl ?_
  refine wl_ov (ov_index (j := i) es88 rfl rfl (by omega)) rfl ?_
  refine wl_ov (ov_elem (vs := [.string q0, .string q1, .int .i64 q2]) rz193 rfl (fun _ hm => (hm.fact 3 rfl).1) hgx rfl rfl) rfl ?_
  refine wl_alloc zc193 rfl fun g2 => ?_
  refine sg_ rfl ?_
  refine wl_stores (cs' := [.string q0, .string q1, .int .i64 q2]) 0 rz193 rfl rfl rfl rfl rfl rfl rfl rfl ?_
  refine nn_ (gw_seq (sr_ (mv_ rfl (fd_ fo193_1 rfl rfl (lk_ sc9 0 rfl rfl rfl ?_)))))
  refine wl_callv rfl cb113 rfl rfl (fun wx hm => (rClassAt_any cs A0 n0 c0 q1 wx (hm.fact 0 rfl).1 (by omega))) ?_
  refine wl_ov (ov_lss rfl rfl) rfl (nn_ ?_)
  refine gw_cond rfl (fun hh => ?_) (fun hh => ?_)
  ·have hq : ixP (csP q1) cs 0 < 0 := by simpa using hh
   clear hh
   refine sr_ ?_
   have h1 : noB cs q1 = true := by unfold noB; exact decide_eq_true hq
   refine sg_ rfl (nn_ ?_)
   refine gw_ret ?_
   refine nx_then_ret (nx_blk_ret (nx_then_ret (nx_then_ret (nx_blk_ret (nx_then_ret ?_)))))
   have hE1 : gvE1 cs sl ((⟨b0, b1, b2, b3, b4, b5⟩ : Bk), (⟨q0, q1, q2⟩ : Gv)) = 8 := gvE1_a h1
   have hS : scanE (gvFn cs sl) none (l.zip g) = 8 := by rw [hat, hE1]; exact if_neg (by decide)
   refine nx_ret1 rfl rfl fun wx hm => ?_
   exact ⟨ret_int (by rw [hge, if_neg (by rw [hS]; decide), hS]), hm.g⟩
  have hq : ¬ (ixP (csP q1) cs 0 < 0) := by simpa using hh
  clear hh
  refine gw_skip (nx_then (gw_seq (gw_seq ?_)))
  have h1 : noB cs q1 = false := by unfold noB; exact decide_eq_false hq
  refine gd (fun wz => Blk wz g2 193 [.string q0, .string q1, .int .i64 q2] ∧ (SlOld csEnc 2 170 w.heap.size none A0 n0 cs) wz ∧ (SlOld skEnc 2 254 w.heap.size none A1 n1 sl) wz ∧ (SlOld bkEnc 6 199 w.heap.size none (some ⟨ab, aoff, none⟩) n l) wz ∧ (SlOld gvEnc 3 193 w.heap.size none (some ⟨gb, goff, none⟩) n g) wz ∧ True) mixed (fun _ hm => ⟨hm.bl 0, hm.fa 0, hm.fa 1, hm.fa 2, hm.fa 3, trivial⟩) fun z => ?_
  refine wt 0 14 1 rfl z (ov_move rfl) ?_
  refine wt 1 14 3 rfl z (ov_move rfl) ?_
  refine wt 2 14 7 rfl z (ov_move rfl) ?_
  refine wt 3 14 15 rfl z (ov_index (j := i) es84 rfl rfl (by omega)) ?_
  refine wt 4 14 31 rfl z (ov_field fo199_1 rfl rfl) ?_
  refine wt 5 14 63 rfl z (ov_elem1 (k := 1) (v := .string b1) sc9 rfl (fun _ hm => (hm.2.2.2.1).1) hbx rfl rfl) ?_
  refine wt 6 14 127 rfl z (ov_field fo193_1 rfl rfl) ?_
  refine wt 7 14 255 rfl z (ov_load sc9 rfl (fun _ hm => hm.1) rfl) ?_
  refine wa1 8 rfl ?_
  refine wl_callv rfl cb146 rfl rfl (fun wx hm => (stepsOf_any cs A0 n0 c0 b1 q1 wx (hm.fact 0 rfl).1 hco hn0 hcz.2.1 hcz.2.2)) ?_
  refine wl_nil ?_
  refine nw 14 511 (fun _ hm => ⟨hm.bl 0, hm.fa 0, hm.fa 1, hm.fa 2, hm.fa 3, trivial⟩) fun z => ?_
  refine wt 9 14 1023 rfl z (ov_move rfl) ?_
  refine wt 10 14 2047 rfl z (ov_extract rfl rfl) ?_
  refine wt 11 14 4095 rfl z (ov_extract rfl rfl) ?_
  refine wt 12 14 8191 rfl z (ov_assign rfl) ?_
  refine wt 13 14 16383 rfl z (ov_assign rfl) ?_
  refine wa_done (by kernel_rfl) ?_
  refine nx_then (sr_ (mv_ rfl (wl_ov (ov_un_not rfl) rfl (nn_ ?_))))
  refine gw_cond rfl (fun hh => ?_) (fun hh => ?_)
  ·have hs : (decide (0 ≤ stepsV cs b1 q1)) = false := by simpa using hh
   clear hh
   refine sr_ ?_
   have h2 : stepsV cs b1 q1 < 0 := by have := of_decide_eq_false hs; omega
   refine sg_ rfl (nn_ ?_)
   refine gw_ret ?_
   refine nx_then_ret (nx_blk_ret (nx_then_ret (nx_then_ret (nx_blk_ret (nx_then_ret ?_)))))
   have hE1 : gvE1 cs sl ((⟨b0, b1, b2, b3, b4, b5⟩ : Bk), (⟨q0, q1, q2⟩ : Gv)) = 16 := gvE1_b h1 h2
   have hS : scanE (gvFn cs sl) none (l.zip g) = 16 := by rw [hat, hE1]; exact if_neg (by decide)
   refine nx_ret1 rfl rfl fun wx hm => ?_
   exact ⟨ret_int (by rw [hge, if_neg (by rw [hS]; decide), hS]), hm.g⟩
  have hs : (decide (0 ≤ stepsV cs b1 q1)) = true := by simpa using hh
  clear hh
  refine gw_skip (nx_then (gw_seq ?_))
  have h2 : ¬ stepsV cs b1 q1 < 0 := by have := of_decide_eq_true hs; omega
  refine gd (fun wz => Blk wz g2 193 [.string q0, .string q1, .int .i64 q2] ∧ (SlOld csEnc 2 170 w.heap.size none A0 n0 cs) wz ∧ (SlOld skEnc 2 254 w.heap.size none A1 n1 sl) wz ∧ (SlOld bkEnc 6 199 w.heap.size none (some ⟨ab, aoff, none⟩) n l) wz ∧ (SlOld gvEnc 3 193 w.heap.size none (some ⟨gb, goff, none⟩) n g) wz ∧ True) mixed (fun _ hm => ⟨hm.bl 0, hm.fa 0, hm.fa 1, hm.fa 2, hm.fa 3, trivial⟩) fun z => ?_
  refine wt 0 8 1 rfl z (ov_field fo193_2 rfl rfl) ?_
  refine wt 1 8 3 rfl z (ov_load sc3 rfl (fun _ hm => hm.1) rfl) ?_
  refine wt 2 8 7 rfl z (ov_move rfl) ?_
  refine wt 3 8 15 rfl z (ov_field fo193_1 rfl rfl) ?_
  refine wt 4 8 31 rfl z (ov_load sc9 rfl (fun _ hm => hm.1) rfl) ?_
  refine wa1 5 rfl ?_
  refine wl_callv rfl cb148 rfl rfl (fun wx hm => (manyOf_any sl A1 n1 c1 q1 wx (hm.fact 1 rfl).1 hso hn1)) ?_
  refine wl_nil ?_
  refine nw 8 63 (fun _ hm => ⟨hm.bl 0, hm.fa 0, hm.fa 1, hm.fa 2, hm.fa 3, trivial⟩) fun z => ?_
  refine wa1 6 rfl ?_
  refine wl_callw rfl cb147 rfl rfl (fun wx hm => (rin_any _ _ _ wx)) ?_
  refine wl_nil ?_
  refine nw 8 127 (fun _ hm => ⟨hm.bl 0, hm.fa 0, hm.fa 1, hm.fa 2, hm.fa 3, trivial⟩) fun z => ?_
  refine wt 7 8 255 rfl z (ov_un_not rfl) ?_
  refine wa_done (by kernel_rfl) ?_
  refine nx_then ?_
  refine gw_cond rfl (fun hh => ?_) (fun hh => ?_)
  ·have hu : (inB q2 1 (manyV sl q1)) = false := by simpa using hh
   clear hh
   refine sr_ ?_
   have h3 : inB q2 1 (manyV sl q1) = false := by simpa using hu
   refine sg_ rfl (nn_ ?_)
   refine gw_ret ?_
   refine nx_blk_ret (nx_then_ret (nx_then_ret (nx_blk_ret (nx_then_ret ?_))))
   have hE1 : gvE1 cs sl ((⟨b0, b1, b2, b3, b4, b5⟩ : Bk), (⟨q0, q1, q2⟩ : Gv)) = 1 := gvE1_c h1 h2 h3
   have hS : scanE (gvFn cs sl) none (l.zip g) = 1 := by rw [hat, hE1]; exact if_neg (by decide)
   refine nx_ret1 rfl rfl fun wx hm => ?_
   exact ⟨ret_int (by rw [hge, if_neg (by rw [hS]; decide), hS]), hm.g⟩
  have hu : (inB q2 1 (manyV sl q1)) = true := by simpa using hh
  clear hh
  refine gw_skip (nx_blk_nrm (nx_then (gw_region ?_)))
  have h3 : inB q2 1 (manyV sl q1) = true := by simpa using hu
  refine ad_ rfl rfl (mv_ rfl (wl_nil ?_))
  exact nx_round (i + 1) ⟨by (try dsimp only); omega, by (try dsimp only); rw [hat, gvE1_d h1 h2 h3, if_pos rfl]⟩ (by (try dsimp only); omega) ⟨rfl, rfl, rfl, rfl, rfl, rfl, (some_int (by omega)), trivial⟩ (fun _ hm => hm.pick [] [] [0, 1, 2, 3] rfl rfl)
 have hi : ¬ (((i : Nat) : Int) < ((n : Nat) : Int)) := by simpa using hh
 clear hh
 refine gw_exit ?_
 refine nx_then_exit (nx_then_exit ?_)
 refine nx_blk_here ?_
 refine nx_then (gw_seq (sr_ ?_))
 have hS0 : scanE (gvFn cs sl) none (l.zip g) = 0 := by rw [hsc, scanE_end _ _ _ _ (by omega)]
 rw [if_pos hS0] at hge
 clear hsc
 refine mv_ rfl (wl_ov (ov_len es88 rfl) rfl (mv_ rfl (nn_ (gw_block ?_))))
 refine gw_loop (γ := Nat) (fun (j : Nat) => j ≤ n ∧ noCfl (l.zip g) j) (fun (j : Nat) => [(2, .slice A n c), (3, .slice G n gc), (75, .slice G n gc), (76, .int .i64 ((n : Nat) : Int)), (77, .int .i64 ((j : Nat) : Int))]) (fun (j : Nat) => fun _ => True) (fun (j : Nat) => []) (fun (j : Nat) => []) (fun (j : Nat) => [SlOld csEnc 2 170 w.heap.size none A0 n0 cs, SlOld skEnc 2 254 w.heap.size none A1 n1 sl, SlOld bkEnc 6 199 w.heap.size none A n l, SlOld gvEnc 3 193 w.heap.size none G n g]) (fun (j : Nat) => n - j) 0 ⟨Nat.zero_le _, fun _ _ h => by omega⟩ ⟨rfl, rfl, rfl, rfl, rfl, trivial⟩ (fun _ hm => hm.pick [] [] [0, 1, 2, 3] rfl rfl) ?_
 intro j hinv
 replace hinv : j ≤ n ∧ noCfl (l.zip g) j := hinv
 refine sr_ ?_
 obtain ⟨hj0, hnc⟩ := hinv
 refine wl_ov (ov_lss rfl rfl) rfl (nn_ (gw_seq ?_))
 refine gw_cond rfl (fun hh => ?_) (fun hh => ?_)
 ·have hj : ((j : Nat) : Int) < ((n : Nat) : Int) := by simpa using hh
  clear hh
  refine gw_skip (nx_then (gw_seq (gw_block (sr_ ?_))))
  obtain ⟨gb, goff, hA, _, _⟩ := hg.get (by omega)
  subst hA
  obtain ⟨ab, aoff, hA, _, _⟩ := hl.get (by omega)
  subst hA
  obtain ⟨gx, hgx1⟩ : ∃ x, g[j]? = some x := ⟨_, List.getElem?_eq_getElem (by omega)⟩
  obtain ⟨q0, q1, q2⟩ := gx
  obtain ⟨bx, hbx1⟩ : ∃ x, l[j]? = some x := ⟨_, List.getElem?_eq_getElem (by omega)⟩
  obtain ⟨b0, b1, b2, b3, b4, b5⟩ := bx
  have hz1 := zipbg_at hbx1 hgx1
  refine mv_ rfl ?_
  refine wl_ov (ov_index (j := j) es88 rfl rfl (by omega)) rfl ?_
  refine wl_ov (ov_elem (vs := [.string q0, .string q1, .int .i64 q2]) rz193 rfl (fun _ hm => (hm.fact 3 rfl).1) hgx1 rfl rfl) rfl ?_
  refine wl_alloc zc193 rfl fun g3 => ?_
  refine sg_ rfl ?_
  refine wl_stores (cs' := [.string q0, .string q1, .int .i64 q2]) 0 rz193 rfl rfl rfl rfl rfl rfl rfl rfl ?_
  refine nn_ (sr_ (mv_ rfl (mv_ rfl ?_)))
  refine wl_ov (ov_sliceHi (hi := j) es88 rfl rfl rfl (by omega)) rfl ?_
  refine wl_ov (ov_len es88 rfl) rfl (mv_ rfl (nn_ (gw_block ?_)))
  refine gw_loop (γ := Nat) (fun (k : Nat) => k ≤ j ∧ ((l.zip g).take k).any (clsh ((⟨b0, b1, b2, b3, b4, b5⟩ : Bk), (⟨q0, q1, q2⟩ : Gv))) = false) (fun (k : Nat) => [(2, .slice (some ⟨ab, aoff, none⟩) n c), (3, .slice (some ⟨gb, goff, none⟩) n gc), (15, .int .i64 ((j : Nat) : Int)), (16, .pointer (some ⟨g3, 0, none⟩)), (75, .slice (some ⟨gb, goff, none⟩) n gc), (76, .int .i64 ((n : Nat) : Int)), (77, .int .i64 ((j : Nat) : Int)), (84, .slice (some ⟨gb, goff, none⟩) j gc), (85, .int .i64 ((j : Nat) : Int)), (86, .int .i64 ((k : Nat) : Int))]) (fun (k : Nat) => fun _ => True) (fun (k : Nat) => [(g3, 193, [.string q0, .string q1, .int .i64 q2])]) (fun (k : Nat) => []) (fun (k : Nat) => [SlOld csEnc 2 170 w.heap.size none A0 n0 cs, SlOld skEnc 2 254 w.heap.size none A1 n1 sl, SlOld bkEnc 6 199 w.heap.size none (some ⟨ab, aoff, none⟩) n l, SlOld gvEnc 3 193 w.heap.size none (some ⟨gb, goff, none⟩) n g]) (fun (k : Nat) => j - k) 0 ⟨Nat.zero_le _, rfl⟩ ⟨rfl, rfl, rfl, rfl, rfl, rfl, rfl, rfl, rfl, rfl, trivial⟩ (fun _ hm => hm.pick [0] [] [0, 1, 2, 3] rfl rfl) ?_
  intro k hinv
  replace hinv : k ≤ j ∧ ((l.zip g).take k).any (clsh ((⟨b0, b1, b2, b3, b4, b5⟩ : Bk), (⟨q0, q1, q2⟩ : Gv))) = false := hinv
  refine sr_ ?_
  obtain ⟨hk0, hany⟩ := hinv
  refine wl_ov (ov_lss rfl rfl) rfl (nn_ (gw_seq ?_))
  refine gw_cond rfl (fun hh => ?_) (fun hh => ?_)
  ·have hk : ((k : Nat) : Int) < ((j : Nat) : Int) := by simpa using hh
   clear hh
   refine gw_skip (nx_then (gw_seq (gw_block (sr_ ?_))))
   have hkn : k < n := by omega
   obtain ⟨gx, hgx2⟩ : ∃ x, g[k]? = some x := ⟨_, List.getElem?_eq_getElem (by omega)⟩
   obtain ⟨e0, e1, e2⟩ := gx
   obtain ⟨bx, hbx2⟩ : ∃ x, l[k]? = some x := ⟨_, List.getElem?_eq_getElem (by omega)⟩
   obtain ⟨d0, d1, d2, d3, d4, d5⟩ := bx
   have hz2 := zipbg_at hbx2 hgx2
   have hat := anyc_at (x := ((⟨b0, b1, b2, b3, b4, b5⟩ : Bk), (⟨q0, q1, q2⟩ : Gv))) hz2
   rw [hany, Bool.false_or] at hat
   have htm1 := htim _ (List.mem_of_getElem? hbx1)
   have htm2 := htim _ (List.mem_of_getElem? hbx2)
   dsimp only at htm1 htm2
   refine mv_ rfl ?_
   refine wl_ov (ov_index (j := k) es88 rfl rfl (by omega)) rfl ?_
   refine wl_ov (ov_elem (vs := [.string e0, .string e1, .int .i64 e2]) rz193 rfl (fun _ hm => (hm.fact 3 rfl).1) hgx2 rfl rfl) rfl ?_
   refine wl_alloc zc193 rfl fun g4 => ?_
   refine sg_ rfl ?_
   refine wl_stores (cs' := [.string e0, .string e1, .int .i64 e2]) 0 rz193 rfl rfl rfl rfl rfl rfl rfl rfl ?_
   refine nn_ (gw_seq ?_)
   refine gd (fun wz => Blk wz g4 193 [.string e0, .string e1, .int .i64 e2] ∧ Blk wz g3 193 [.string q0, .string q1, .int .i64 q2] ∧ (SlOld csEnc 2 170 w.heap.size none A0 n0 cs) wz ∧ (SlOld skEnc 2 254 w.heap.size none A1 n1 sl) wz ∧ (SlOld bkEnc 6 199 w.heap.size none (some ⟨ab, aoff, none⟩) n l) wz ∧ (SlOld gvEnc 3 193 w.heap.size none (some ⟨gb, goff, none⟩) n g) wz ∧ True) mixed (fun _ hm => ⟨hm.bl 0, hm.bl 1, hm.fa 0, hm.fa 1, hm.fa 2, hm.fa 3, trivial⟩) fun z => ?_
   refine wt 0 25 1 rfl z (ov_field fo193_1 rfl rfl) ?_
   refine wt 1 25 3 rfl z (ov_load sc9 rfl (fun _ hm => hm.2.1) rfl) ?_
   refine wt 2 25 7 rfl z (ov_field fo193_1 rfl rfl) ?_
   refine wt 3 25 15 rfl z (ov_load sc9 rfl (fun _ hm => hm.1) rfl) ?_
   refine wt 4 25 31 rfl z (ov_seql rfl rfl) ?_
   refine wt 5 25 63 rfl z (ov_move rfl) ?_
   rcases Bool.eq_false_or_eq_true (q1.toList == e1.toList) with hp0 | hp0
   ·refine wa_set 96 rfl (congrArg Value.bool hp0) ?_
    refine wto 6 25 127 rfl rfl rfl z (ov_field fo193_2 rfl rfl) ?_
    refine wto 7 25 255 rfl rfl rfl z (ov_load sc3 rfl (fun _ hm => hm.2.1) rfl) ?_
    refine wto 8 25 511 rfl rfl rfl z (ov_field fo193_2 rfl rfl) ?_
    refine wto 9 25 1023 rfl rfl rfl z (ov_load sc3 rfl (fun _ hm => hm.1) rfl) ?_
    refine wto 10 25 2047 rfl rfl rfl z (ov_eql rfl rfl) ?_
    refine wt 11 25 4095 rfl z (ov_pick_t rfl rfl) ?_
    refine wt 12 25 8191 rfl z (ov_move rfl) ?_
    rcases Bool.eq_false_or_eq_true (decide (q2 = e2)) with hp1 | hp1
    ·refine wa_set 103 rfl (congrArg Value.bool hp1) ?_
     refine wto 13 25 16383 rfl rfl rfl z (ov_move rfl) ?_
     refine wto 14 25 32767 rfl rfl rfl z (ov_move rfl) ?_
     refine wto 15 25 65535 rfl rfl rfl z (ov_index (j := j) es84 rfl rfl (by omega)) ?_
     refine wto 16 25 131071 rfl rfl rfl z (ov_field fo199_2 rfl rfl) ?_
     refine wto 17 25 262143 rfl rfl rfl z (ov_elemN (k := 2) (vs := [.int .i64 b2, .int .i64 b3]) rz42 rfl (fun _ hm => (hm.2.2.2.2.1).1) hbx1 rfl rfl rfl) ?_
     refine wto 18 25 524287 rfl rfl rfl z (ov_move rfl) ?_
     refine wto 19 25 1048575 rfl rfl rfl z (ov_move rfl) ?_
     refine wto 20 25 2097151 rfl rfl rfl z (ov_index (j := k) es84 rfl rfl (by omega)) ?_
     refine wto 21 25 4194303 rfl rfl rfl z (ov_field fo199_2 rfl rfl) ?_
     refine wto 22 25 8388607 rfl rfl rfl z (ov_elemN (k := 2) (vs := [.int .i64 d2, .int .i64 d3]) rz42 rfl (fun _ hm => (hm.2.2.2.2.1).1) hbx2 rfl rfl rfl) ?_
     refine wa1 23 rfl ?_
     refine wl_guard_on rfl rfl rfl ?_
     refine wl_callv rfl cb149 rfl rfl (fun wx hm => (rmeet_any b2 b3 d2 d3 wx (by omega) (by omega))) ?_
     refine wl_nil ?_
     refine nw 25 16777215 (fun _ hm => ⟨hm.bl 0, hm.bl 1, hm.fa 0, hm.fa 1, hm.fa 2, hm.fa 3, trivial⟩) fun z => ?_
     refine wt 24 25 33554431 rfl z (ov_pick_t rfl rfl) ?_
     refine wa_done (by kernel_rfl) ?_
     refine nx_then ?_
     rcases Bool.eq_false_or_eq_true (meetW b2 b3 d2 d3) with hme | hme
     ·refine gw_set 115 rfl (congrArg Value.bool hme) ?_
      refine ct_ rfl (sr_ (sg_ rfl (nn_ ?_)))
      refine gw_ret ?_
      refine nx_blk_ret (nx_then_ret (nx_then_ret (nx_blk_ret (nx_blk_ret (nx_then_ret (nx_then_ret (nx_blk_ret (nx_then_ret ?_))))))))
      have hc : clsh ((⟨b0, b1, b2, b3, b4, b5⟩ : Bk), (⟨q0, q1, q2⟩ : Gv)) ((⟨d0, d1, d2, d3, d4, d5⟩ : Bk), (⟨e0, e1, e2⟩ : Gv)) = true := by
       unfold clsh; dsimp only
       rw [hp0, hp1, hme]; rfl
      have hcf := cfl_yes hz1 hz2 (by omega) hc
      refine nx_ret1 rfl rfl fun wx hm => ?_
      exact ⟨ret_int (by rw [hge, if_pos hcf]), hm.g⟩
     refine gw_set 115 rfl (congrArg Value.bool hme) ?_
     refine cf_ rfl (gw_skip (nx_blk_nrm (nx_then (gw_region (ad_ rfl rfl (mv_ rfl (wl_nil ?_)))))))
     have hc : clsh ((⟨b0, b1, b2, b3, b4, b5⟩ : Bk), (⟨q0, q1, q2⟩ : Gv)) ((⟨d0, d1, d2, d3, d4, d5⟩ : Bk), (⟨e0, e1, e2⟩ : Gv)) = false := by
      unfold clsh; dsimp only
      rw [hp0, hp1, hme]; rfl
     exact nx_round (k + 1) ⟨by (try dsimp only); omega, by (try dsimp only); rw [hat, hc]⟩ (by (try dsimp only); omega) ⟨rfl, rfl, rfl, rfl, rfl, rfl, rfl, rfl, rfl, (some_int (by omega)), trivial⟩ (fun _ hm => hm.pick [1] [] [0, 1, 2, 3] rfl rfl)
    refine wa_set 103 rfl (congrArg Value.bool hp1) ?_
    refine wtf 13 25 16383 rfl rfl rfl z ?_
    refine wtf 14 25 32767 rfl rfl rfl z ?_
    refine wtf 15 25 65535 rfl rfl rfl z ?_
    refine wtf 16 25 131071 rfl rfl rfl z ?_
    refine wtf 17 25 262143 rfl rfl rfl z ?_
    refine wtf 18 25 524287 rfl rfl rfl z ?_
    refine wtf 19 25 1048575 rfl rfl rfl z ?_
    refine wtf 20 25 2097151 rfl rfl rfl z ?_
    refine wtf 21 25 4194303 rfl rfl rfl z ?_
    refine wtf 22 25 8388607 rfl rfl rfl z ?_
    refine wtf 23 25 16777215 rfl rfl rfl z ?_
    refine wt 24 25 33554431 rfl z (ov_pick_f rfl rfl) ?_
    refine wa_done (by kernel_rfl) ?_
    refine nx_then (cf_ rfl (gw_skip (nx_blk_nrm (nx_then (gw_region (ad_ rfl rfl (mv_ rfl (wl_nil ?_))))))))
    have hc : clsh ((⟨b0, b1, b2, b3, b4, b5⟩ : Bk), (⟨q0, q1, q2⟩ : Gv)) ((⟨d0, d1, d2, d3, d4, d5⟩ : Bk), (⟨e0, e1, e2⟩ : Gv)) = false := by
     unfold clsh; dsimp only
     rw [hp0, hp1]; rfl
    exact nx_round (k + 1) ⟨by (try dsimp only); omega, by (try dsimp only); rw [hat, hc]⟩ (by (try dsimp only); omega) ⟨rfl, rfl, rfl, rfl, rfl, rfl, rfl, rfl, rfl, (some_int (by omega)), trivial⟩ (fun _ hm => hm.pick [1] [] [0, 1, 2, 3] rfl rfl)
   refine wa_set 96 rfl (congrArg Value.bool hp0) ?_
   refine wtf 6 25 127 rfl rfl rfl z ?_
   refine wtf 7 25 255 rfl rfl rfl z ?_
   refine wtf 8 25 511 rfl rfl rfl z ?_
   refine wtf 9 25 1023 rfl rfl rfl z ?_
   refine wtf 10 25 2047 rfl rfl rfl z ?_
   refine wt 11 25 4095 rfl z (ov_pick_f rfl rfl) ?_
   refine wt 12 25 8191 rfl z (ov_move rfl) ?_
   refine wtf 13 25 16383 rfl rfl rfl z ?_
   refine wtf 14 25 32767 rfl rfl rfl z ?_
   refine wtf 15 25 65535 rfl rfl rfl z ?_
   refine wtf 16 25 131071 rfl rfl rfl z ?_
   refine wtf 17 25 262143 rfl rfl rfl z ?_
   refine wtf 18 25 524287 rfl rfl rfl z ?_
   refine wtf 19 25 1048575 rfl rfl rfl z ?_
   refine wtf 20 25 2097151 rfl rfl rfl z ?_
   refine wtf 21 25 4194303 rfl rfl rfl z ?_
   refine wtf 22 25 8388607 rfl rfl rfl z ?_
   refine wtf 23 25 16777215 rfl rfl rfl z ?_
   refine wt 24 25 33554431 rfl z (ov_pick_f rfl rfl) ?_
   refine wa_done (by kernel_rfl) ?_
   refine nx_then (cf_ rfl (gw_skip (nx_blk_nrm (nx_then (gw_region (ad_ rfl rfl (mv_ rfl (wl_nil ?_))))))))
   have hc : clsh ((⟨b0, b1, b2, b3, b4, b5⟩ : Bk), (⟨q0, q1, q2⟩ : Gv)) ((⟨d0, d1, d2, d3, d4, d5⟩ : Bk), (⟨e0, e1, e2⟩ : Gv)) = false := by
    unfold clsh; dsimp only
    rw [hp0]; rfl
   exact nx_round (k + 1) ⟨by (try dsimp only); omega, by (try dsimp only); rw [hat, hc]⟩ (by (try dsimp only); omega) ⟨rfl, rfl, rfl, rfl, rfl, rfl, rfl, rfl, rfl, (some_int (by omega)), trivial⟩ (fun _ hm => hm.pick [1] [] [0, 1, 2, 3] rfl rfl)
  have hk : ¬ (((k : Nat) : Int) < ((j : Nat) : Int)) := by simpa using hh
  clear hh
  refine gw_exit ?_
  refine nx_then_exit (nx_then_exit ?_)
  refine nx_blk_here ?_
  refine nx_blk_nrm (nx_then (gw_region (ad_ rfl rfl (mv_ rfl (wl_nil ?_)))))
  obtain rfl : k = j := by omega
  exact nx_round (k + 1) ⟨by (try dsimp only); omega, cfl_next hnc hz1 hany⟩ (by (try dsimp only); omega) ⟨rfl, rfl, rfl, rfl, (some_int (by omega)), trivial⟩ (fun _ hm => hm.pick [] [] [0, 1, 2, 3] rfl rfl)
 have hj : ¬ (((j : Nat) : Int) < ((n : Nat) : Int)) := by simpa using hh
 clear hh
 refine gw_exit ?_
 refine nx_then_exit (nx_then_exit ?_)
 refine nx_blk_here ?_
 refine nx_then (sr_ ?_)
 have hcf := cfl_no hnc (by omega)
 refine sg_ rfl (nn_ ?_)
 refine gw_ret ?_
 refine nx_ret1 rfl rfl fun wx hm => ?_
 exact ⟨ret_int (by rw [hge, if_neg (by rw [hcf]; decide)]), hm.g⟩
theorem checkGiven_any (cs : List Cs) (A0 : Option Addr) (n0 c0 : Nat) (sl : List Sk) (A1 : Option Addr) (n1 c1 : Nat) (l : List Bk) (A : Option Addr) (n c : Nat) (g : List Gv) (G : Option Addr) (gn gc : Nat) (w : World) (hcs : SlT csEnc 2 170 w A0 n0 cs) (hco : ∀ x ∈ cs, CsOk x) (hn0 : n0 ≤ 1000) (hs : SlT skEnc 2 254 w A1 n1 sl) (hso : ∀ x ∈ sl, SkOk x) (hn1 : n1 ≤ 1000) (hl : SlT bkEnc 6 199 w A n l) (hok : ∀ x ∈ l, BkOk x) (hn : n ≤ 1000) (hg : SlT gvEnc 3 193 w G gn g) (hgn : gn ≤ 1000) (hgc : gn ≤ gc) :
  Calls Tryz.prog 53 #[.slice A0 n0 c0, .slice A1 n1 c1, .slice A n c, .slice G gn gc] w (GotE w (gchE cs sl l g)) := by
 refine gw_enter ⟨107, w, none, []⟩ Tryz.func53 rfl Tryz.ntmps53 rfl (mem0 (X := [SlOld csEnc 2 170 w.heap.size none A0 n0 cs, SlOld skEnc 2 254 w.heap.size none A1 n1 sl, SlOld bkEnc 6 199 w.heap.size none A n l, SlOld gvEnc 3 193 w.heap.size none G gn g]) (allF_cons hcs.old (allF_cons hs.old (allF_cons hl.old (allF_cons hg.old allF_nil)))) (allL_cons SlOld.lasts (allL_cons SlOld.lasts (allL_cons SlOld.lasts (allL_cons SlOld.lasts allL_nil))))) ?_
 refine sr_ ?_
 have hll := hl.len
 have hgl := hg.len
 obtain ⟨AE, hAE⟩ : ∃ z, z = firstE [stockE cs sl, checkE cs l] := ⟨_, rfl⟩
 obtain ⟨GE, hGE⟩ : ∃ z, z = gchE cs sl l g := ⟨_, rfl⟩
 rw [← hGE]
 have hge := hGE
 unfold gchE at hge
 rw [← hAE] at hge
 refine sg_ rfl (nn_ (gw_seq (sr_ (mv_ rfl (mv_ rfl (mv_ rfl ?_))))))
 refine wl_callv (v := .int .i64 AE) rfl cb150 rfl rfl (fun wx hm => (by rw [hAE]; exact checkAll_any cs A0 n0 c0 sl A1 n1 c1 l A n c wx (hm.fact 0 rfl).1 hco hn0 (hm.fact 1 rfl).1 hso hn1 (hm.fact 2 rfl).1 hok hn)) ?_
 refine sg_ rfl (nn_ (sr_ (mv_ rfl (wl_ov (ov_neq rfl rfl) rfl (nn_ ?_)))))
 refine gw_cond rfl (fun hh => ?_) (fun hh => ?_)
 ·have h1 : ¬ (AE = 0) := by simpa using hh
  clear hh
  refine sr_ ?_
  have h1 : ¬ AE = 0 := by simpa using h1
  rw [if_neg h1] at hge
  refine mv_ rfl (sg_ rfl (nn_ ?_))
  refine gw_ret ?_
  refine nx_then_ret ?_
  refine nx_ret1 rfl rfl fun wx hm => ?_
  exact ⟨ret_int (by rw [hge]), hm.g⟩
 have h1 : AE = 0 := by simpa using hh
 clear hh
 refine gw_skip (nx_then (gw_seq (sr_ ?_)))
 have h2 : AE = 0 := by simpa using h1
 rw [if_pos h2] at hge
 have h0 := hAE.symm.trans h2
 unfold givE at hge
 obtain ⟨hce, hfm, hcl2⟩ := right_all h0
 have hcz := classesE_ok hce
 have htim := form_tim hfm
 refine mv_ rfl (mv_ rfl ?_)
 refine wl_callv rfl cb151 rfl rfl (fun wx hm => (eqKeys_any l A n c g G gn gc wx (hm.fact 2 rfl).1 hn (hm.fact 3 rfl).1 hgn)) ?_
 refine wl_ov (ov_un_not rfl) rfl (nn_ ?_)
 refine gw_cond rfl (fun hh => ?_) (fun hh => ?_)
 ·have hkq : (keysQ l g) = false := by simpa using hh
  clear hh
  refine sr_ ?_
  rw [if_neg (by rw [show keysQ l g = false by simpa using hkq]; decide)] at hge
  refine sg_ rfl (nn_ ?_)
  refine gw_ret ?_
  refine nx_then_ret ?_
  refine nx_ret1 rfl rfl fun wx hm => ?_
  exact ⟨ret_int (by rw [hge]), hm.g⟩
 have hkq : (keysQ l g) = true := by simpa using hh
 clear hh
 refine gw_skip (nx_then (gw_seq (sr_ ?_)))
 have hK : keysQ l g = true := by simpa using hkq
 rw [if_pos hK] at hge
 obtain rfl : n = gn := by
  unfold keysQ at hK
  simp only [Bool.and_eq_true, decide_eq_true_eq] at hK
  omega
 have hzl : (l.zip g).length = n := by rw [List.length_zip]; omega
 refine mv_ rfl (wl_ov (ov_len es88 rfl) rfl (mv_ rfl (nn_ (gw_block ?_))))
 refine gw_loop (γ := Nat) (fun (i : Nat) => i ≤ n ∧ scanE (gvFn cs sl) none (l.zip g) = scanE (gvFn cs sl) (prevOf (l.zip g) i) ((l.zip g).drop i)) (fun (i : Nat) => [(0, .slice A0 n0 c0), (1, .slice A1 n1 c1), (2, .slice A n c), (3, .slice G n gc), (29, .slice G n gc), (30, .int .i64 ((n : Nat) : Int)), (31, .int .i64 ((i : Nat) : Int))]) (fun (i : Nat) => fun _ => True) (fun (i : Nat) => []) (fun (i : Nat) => []) (fun (i : Nat) => [SlOld csEnc 2 170 w.heap.size none A0 n0 cs, SlOld skEnc 2 254 w.heap.size none A1 n1 sl, SlOld bkEnc 6 199 w.heap.size none A n l, SlOld gvEnc 3 193 w.heap.size none G n g]) (fun (i : Nat) => n - i) 0 ⟨Nat.zero_le _, rfl⟩ ⟨rfl, rfl, rfl, rfl, rfl, rfl, rfl, trivial⟩ (fun _ hm => hm.pick [] [] [0, 1, 2, 3] rfl rfl) ?_
 intro i hinv
 replace hinv : i ≤ n ∧ scanE (gvFn cs sl) none (l.zip g) = scanE (gvFn cs sl) (prevOf (l.zip g) i) ((l.zip g).drop i) := hinv
 refine sr_ ?_
 obtain ⟨hi0, hsc⟩ := hinv
 refine wl_ov (ov_lss rfl rfl) rfl (nn_ (gw_seq ?_))
 refine gw_cond rfl (fun hh => ?_) (fun hh => ?_)
 ·have hi : ((i : Nat) : Int) < ((n : Nat) : Int) := by simpa using hh
  clear hh
  refine gw_skip (nx_then (gw_seq (gw_block (sr_ ?_))))
  obtain ⟨gb, goff, hA, _, _⟩ := hg.get (by omega)
  subst hA
  obtain ⟨ab, aoff, hA, _, _⟩ := hl.get (by omega)
  subst hA
  obtain ⟨gx, hgx⟩ : ∃ x, g[i]? = some x := ⟨_, List.getElem?_eq_getElem (by omega)⟩
  obtain ⟨q0, q1, q2⟩ := gx
  obtain ⟨bx, hbx⟩ : ∃ x, l[i]? = some x := ⟨_, List.getElem?_eq_getElem (by omega)⟩
  obtain ⟨b0, b1, b2, b3, b4, b5⟩ := bx
  have hz := zipbg_at hbx hgx
  have hat := scanE_at (gvFn cs sl) (l.zip g) i _ hz
  rw [← hsc] at hat
  have hnb := hcl2 _ (List.mem_of_getElem? hbx)
  dsimp only at hnb
  have hE : gvFn cs sl (prevOf (l.zip g) i) ((⟨b0, b1, b2, b3, b4, b5⟩ : Bk), (⟨q0, q1, q2⟩ : Gv)) = gvE1 cs sl ((⟨b0, b1, b2, b3, b4, b5⟩ : Bk), (⟨q0, q1, q2⟩ : Gv)) := rfl
  rw [hE] at hat
  refine mv_ rfl ?_
  refine wl_ov (ov_index (j := i) es88 rfl rfl (by omega)) rfl ?_
  refine wl_ov (ov_elem (vs := [.string q0, .string q1, .int .i64 q2]) rz193 rfl (fun _ hm => (hm.fact 3 rfl).1) hgx rfl rfl) rfl ?_
  refine wl_alloc zc193 rfl fun g1 => ?_
  refine sg_ rfl ?_
  refine wl_stores (cs' := [.string q0, .string q1, .int .i64 q2]) 0 rz193 rfl rfl rfl rfl rfl rfl rfl rfl ?_
  refine nn_ (gw_seq (sr_ (mv_ rfl (fd_ fo193_1 rfl rfl (lk_ sc9 0 rfl rfl rfl ?_)))))
  refine wl_callv rfl cb153 rfl rfl (fun wx hm => (hasClass_any cs A0 n0 c0 q1 wx (hm.fact 0 rfl).1 hco hn0)) ?_
  refine wl_ov (ov_un_not rfl) rfl (nn_ ?_)
  refine gw_cond rfl (fun hh => ?_) (fun hh => ?_)
  ·have hq : (!noB cs q1) = false := by simpa using hh
   clear hh
   refine sr_ ?_
   have h1 : noB cs q1 = true := by simpa using hq
   refine sg_ rfl (nn_ ?_)
   refine gw_ret ?_
   refine nx_then_ret (nx_blk_ret (nx_then_ret (nx_then_ret (nx_blk_ret (nx_then_ret ?_)))))
   have hE1 : gvE1 cs sl ((⟨b0, b1, b2, b3, b4, b5⟩ : Bk), (⟨q0, q1, q2⟩ : Gv)) = 8 := gvE1_a h1
   have hS : scanE (gvFn cs sl) none (l.zip g) = 8 := by rw [hat, hE1]; exact if_neg (by decide)
   refine nx_ret1 rfl rfl fun wx hm => ?_
   exact ⟨ret_int (by rw [hge, if_neg (by rw [hS]; decide), hS]), hm.g⟩
  have hq : (!noB cs q1) = true := by simpa using hh
  clear hh
  refine gw_skip (nx_then (gw_seq (gw_seq ?_)))
  have h1 : noB cs q1 = false := by simpa using hq
  refine gd (fun wz => Blk wz g1 193 [.string q0, .string q1, .int .i64 q2] ∧ (SlOld csEnc 2 170 w.heap.size none A0 n0 cs) wz ∧ (SlOld skEnc 2 254 w.heap.size none A1 n1 sl) wz ∧ (SlOld bkEnc 6 199 w.heap.size none (some ⟨ab, aoff, none⟩) n l) wz ∧ (SlOld gvEnc 3 193 w.heap.size none (some ⟨gb, goff, none⟩) n g) wz ∧ True) mixed (fun _ hm => ⟨hm.bl 0, hm.fa 0, hm.fa 1, hm.fa 2, hm.fa 3, trivial⟩) fun z => ?_
  refine wt 0 14 1 rfl z (ov_move rfl) ?_
  refine wt 1 14 3 rfl z (ov_move rfl) ?_
  refine wt 2 14 7 rfl z (ov_move rfl) ?_
  refine wt 3 14 15 rfl z (ov_index (j := i) es84 rfl rfl (by omega)) ?_
  refine wt 4 14 31 rfl z (ov_field fo199_1 rfl rfl) ?_
  refine wt 5 14 63 rfl z (ov_elem1 (k := 1) (v := .string b1) sc9 rfl (fun _ hm => (hm.2.2.2.1).1) hbx rfl rfl) ?_
  refine wt 6 14 127 rfl z (ov_field fo193_1 rfl rfl) ?_
  refine wt 7 14 255 rfl z (ov_load sc9 rfl (fun _ hm => hm.1) rfl) ?_
  refine wa1 8 rfl ?_
  refine wl_callv rfl cb144 rfl rfl (fun wx hm => (stepsTo_any cs A0 n0 c0 b1 q1 wx (hm.fact 0 rfl).1 hco hn0 (keys_of hce hnb h1))) ?_
  refine wl_nil ?_
  refine nw 14 511 (fun _ hm => ⟨hm.bl 0, hm.fa 0, hm.fa 1, hm.fa 2, hm.fa 3, trivial⟩) fun z => ?_
  refine wt 9 14 1023 rfl z (ov_move rfl) ?_
  refine wt 10 14 2047 rfl z (ov_extract rfl rfl) ?_
  refine wt 11 14 4095 rfl z (ov_extract rfl rfl) ?_
  refine wt 12 14 8191 rfl z (ov_assign rfl) ?_
  refine wt 13 14 16383 rfl z (ov_assign rfl) ?_
  refine wa_done (by kernel_rfl) ?_
  refine nx_then (sr_ (mv_ rfl (wl_ov (ov_un_not rfl) rfl (nn_ ?_))))
  refine gw_cond rfl (fun hh => ?_) (fun hh => ?_)
  ·have hs : (decide (0 ≤ stepsV cs b1 q1)) = false := by simpa using hh
   clear hh
   refine sr_ ?_
   have h2 : stepsV cs b1 q1 < 0 := by have := of_decide_eq_false hs; omega
   refine sg_ rfl (nn_ ?_)
   refine gw_ret ?_
   refine nx_then_ret (nx_blk_ret (nx_then_ret (nx_then_ret (nx_blk_ret (nx_then_ret ?_)))))
   have hE1 : gvE1 cs sl ((⟨b0, b1, b2, b3, b4, b5⟩ : Bk), (⟨q0, q1, q2⟩ : Gv)) = 16 := gvE1_b h1 h2
   have hS : scanE (gvFn cs sl) none (l.zip g) = 16 := by rw [hat, hE1]; exact if_neg (by decide)
   refine nx_ret1 rfl rfl fun wx hm => ?_
   exact ⟨ret_int (by rw [hge, if_neg (by rw [hS]; decide), hS]), hm.g⟩
  have hs : (decide (0 ≤ stepsV cs b1 q1)) = true := by simpa using hh
  clear hh
  refine gw_skip (nx_then (gw_seq ?_))
  have h2 : ¬ stepsV cs b1 q1 < 0 := by have := of_decide_eq_true hs; omega
  refine gd (fun wz => Blk wz g1 193 [.string q0, .string q1, .int .i64 q2] ∧ (SlOld csEnc 2 170 w.heap.size none A0 n0 cs) wz ∧ (SlOld skEnc 2 254 w.heap.size none A1 n1 sl) wz ∧ (SlOld bkEnc 6 199 w.heap.size none (some ⟨ab, aoff, none⟩) n l) wz ∧ (SlOld gvEnc 3 193 w.heap.size none (some ⟨gb, goff, none⟩) n g) wz ∧ True) mixed (fun _ hm => ⟨hm.bl 0, hm.fa 0, hm.fa 1, hm.fa 2, hm.fa 3, trivial⟩) fun z => ?_
  refine wt 0 8 1 rfl z (ov_field fo193_2 rfl rfl) ?_
  refine wt 1 8 3 rfl z (ov_load sc3 rfl (fun _ hm => hm.1) rfl) ?_
  refine wt 2 8 7 rfl z (ov_move rfl) ?_
  refine wt 3 8 15 rfl z (ov_field fo193_1 rfl rfl) ?_
  refine wt 4 8 31 rfl z (ov_load sc9 rfl (fun _ hm => hm.1) rfl) ?_
  refine wa1 5 rfl ?_
  refine wl_callv rfl cb155 rfl rfl (fun wx hm => (many_any sl A1 n1 c1 q1 wx (hm.fact 1 rfl).1 hso hn1)) ?_
  refine wl_nil ?_
  refine nw 8 63 (fun _ hm => ⟨hm.bl 0, hm.fa 0, hm.fa 1, hm.fa 2, hm.fa 3, trivial⟩) fun z => ?_
  refine wa1 6 rfl ?_
  refine wl_callw rfl cb154 rfl rfl (fun wx hm => (in_any _ _ _ wx)) ?_
  refine wl_nil ?_
  refine nw 8 127 (fun _ hm => ⟨hm.bl 0, hm.fa 0, hm.fa 1, hm.fa 2, hm.fa 3, trivial⟩) fun z => ?_
  refine wt 7 8 255 rfl z (ov_un_not rfl) ?_
  refine wa_done (by kernel_rfl) ?_
  refine nx_then ?_
  refine gw_cond rfl (fun hh => ?_) (fun hh => ?_)
  ·have hu : (inB q2 1 (manyV sl q1)) = false := by simpa using hh
   clear hh
   refine sr_ ?_
   have h3 : inB q2 1 (manyV sl q1) = false := by simpa using hu
   refine sg_ rfl (nn_ ?_)
   refine gw_ret ?_
   refine nx_blk_ret (nx_then_ret (nx_then_ret (nx_blk_ret (nx_then_ret ?_))))
   have hE1 : gvE1 cs sl ((⟨b0, b1, b2, b3, b4, b5⟩ : Bk), (⟨q0, q1, q2⟩ : Gv)) = 1 := gvE1_c h1 h2 h3
   have hS : scanE (gvFn cs sl) none (l.zip g) = 1 := by rw [hat, hE1]; exact if_neg (by decide)
   refine nx_ret1 rfl rfl fun wx hm => ?_
   exact ⟨ret_int (by rw [hge, if_neg (by rw [hS]; decide), hS]), hm.g⟩
  have hu : (inB q2 1 (manyV sl q1)) = true := by simpa using hh
  clear hh
  refine gw_skip (nx_blk_nrm (nx_then (gw_region ?_)))
  have h3 : inB q2 1 (manyV sl q1) = true := by simpa using hu
  refine ad_ rfl rfl (mv_ rfl (wl_nil ?_))
  exact nx_round (i + 1) ⟨by (try dsimp only); omega, by (try dsimp only); rw [hat, gvE1_d h1 h2 h3, if_pos rfl]⟩ (by (try dsimp only); omega) ⟨rfl, rfl, rfl, rfl, rfl, rfl, (some_int (by omega)), trivial⟩ (fun _ hm => hm.pick [] [] [0, 1, 2, 3] rfl rfl)
 have hi : ¬ (((i : Nat) : Int) < ((n : Nat) : Int)) := by simpa using hh
 clear hh
 refine gw_exit ?_
 refine nx_then_exit (nx_then_exit ?_)
 refine nx_blk_here ?_
 refine nx_then (gw_seq (sr_ ?_))
 have hS0 : scanE (gvFn cs sl) none (l.zip g) = 0 := by rw [hsc, scanE_end _ _ _ _ (by omega)]
 rw [if_pos hS0] at hge
 clear hsc
 refine mv_ rfl (wl_ov (ov_len es88 rfl) rfl (mv_ rfl (nn_ (gw_block ?_))))
 refine gw_loop (γ := Nat) (fun (j : Nat) => j ≤ n ∧ noCfl (l.zip g) j) (fun (j : Nat) => [(2, .slice A n c), (3, .slice G n gc), (64, .slice G n gc), (65, .int .i64 ((n : Nat) : Int)), (66, .int .i64 ((j : Nat) : Int))]) (fun (j : Nat) => fun _ => True) (fun (j : Nat) => []) (fun (j : Nat) => []) (fun (j : Nat) => [SlOld csEnc 2 170 w.heap.size none A0 n0 cs, SlOld skEnc 2 254 w.heap.size none A1 n1 sl, SlOld bkEnc 6 199 w.heap.size none A n l, SlOld gvEnc 3 193 w.heap.size none G n g]) (fun (j : Nat) => n - j) 0 ⟨Nat.zero_le _, fun _ _ h => by omega⟩ ⟨rfl, rfl, rfl, rfl, rfl, trivial⟩ (fun _ hm => hm.pick [] [] [0, 1, 2, 3] rfl rfl) ?_
 intro j hinv
 replace hinv : j ≤ n ∧ noCfl (l.zip g) j := hinv
 refine sr_ ?_
 obtain ⟨hj0, hnc⟩ := hinv
 refine wl_ov (ov_lss rfl rfl) rfl (nn_ (gw_seq ?_))
 refine gw_cond rfl (fun hh => ?_) (fun hh => ?_)
 ·have hj : ((j : Nat) : Int) < ((n : Nat) : Int) := by simpa using hh
  clear hh
  refine gw_skip (nx_then (gw_seq (gw_block (sr_ ?_))))
  obtain ⟨gb, goff, hA, _, _⟩ := hg.get (by omega)
  subst hA
  obtain ⟨ab, aoff, hA, _, _⟩ := hl.get (by omega)
  subst hA
  obtain ⟨gx, hgx1⟩ : ∃ x, g[j]? = some x := ⟨_, List.getElem?_eq_getElem (by omega)⟩
  obtain ⟨q0, q1, q2⟩ := gx
  obtain ⟨bx, hbx1⟩ : ∃ x, l[j]? = some x := ⟨_, List.getElem?_eq_getElem (by omega)⟩
  obtain ⟨b0, b1, b2, b3, b4, b5⟩ := bx
  have hz1 := zipbg_at hbx1 hgx1
  refine mv_ rfl ?_
  refine wl_ov (ov_index (j := j) es88 rfl rfl (by omega)) rfl ?_
  refine wl_ov (ov_elem (vs := [.string q0, .string q1, .int .i64 q2]) rz193 rfl (fun _ hm => (hm.fact 3 rfl).1) hgx1 rfl rfl) rfl ?_
  refine wl_alloc zc193 rfl fun g2 => ?_
  refine sg_ rfl ?_
  refine wl_stores (cs' := [.string q0, .string q1, .int .i64 q2]) 0 rz193 rfl rfl rfl rfl rfl rfl rfl rfl ?_
  refine nn_ (sr_ (mv_ rfl (mv_ rfl ?_)))
  refine wl_ov (ov_sliceHi (hi := j) es88 rfl rfl rfl (by omega)) rfl ?_
  refine wl_ov (ov_len es88 rfl) rfl (mv_ rfl (nn_ (gw_block ?_)))
  refine gw_loop (γ := Nat) (fun (k : Nat) => k ≤ j ∧ ((l.zip g).take k).any (clsh ((⟨b0, b1, b2, b3, b4, b5⟩ : Bk), (⟨q0, q1, q2⟩ : Gv))) = false) (fun (k : Nat) => [(2, .slice (some ⟨ab, aoff, none⟩) n c), (3, .slice (some ⟨gb, goff, none⟩) n gc), (14, .int .i64 ((j : Nat) : Int)), (15, .pointer (some ⟨g2, 0, none⟩)), (64, .slice (some ⟨gb, goff, none⟩) n gc), (65, .int .i64 ((n : Nat) : Int)), (66, .int .i64 ((j : Nat) : Int)), (73, .slice (some ⟨gb, goff, none⟩) j gc), (74, .int .i64 ((j : Nat) : Int)), (75, .int .i64 ((k : Nat) : Int))]) (fun (k : Nat) => fun _ => True) (fun (k : Nat) => [(g2, 193, [.string q0, .string q1, .int .i64 q2])]) (fun (k : Nat) => []) (fun (k : Nat) => [SlOld csEnc 2 170 w.heap.size none A0 n0 cs, SlOld skEnc 2 254 w.heap.size none A1 n1 sl, SlOld bkEnc 6 199 w.heap.size none (some ⟨ab, aoff, none⟩) n l, SlOld gvEnc 3 193 w.heap.size none (some ⟨gb, goff, none⟩) n g]) (fun (k : Nat) => j - k) 0 ⟨Nat.zero_le _, rfl⟩ ⟨rfl, rfl, rfl, rfl, rfl, rfl, rfl, rfl, rfl, rfl, trivial⟩ (fun _ hm => hm.pick [0] [] [0, 1, 2, 3] rfl rfl) ?_
  intro k hinv
  replace hinv : k ≤ j ∧ ((l.zip g).take k).any (clsh ((⟨b0, b1, b2, b3, b4, b5⟩ : Bk), (⟨q0, q1, q2⟩ : Gv))) = false := hinv
  refine sr_ ?_
  obtain ⟨hk0, hany⟩ := hinv
  refine wl_ov (ov_lss rfl rfl) rfl (nn_ (gw_seq ?_))
  refine gw_cond rfl (fun hh => ?_) (fun hh => ?_)
  ·have hk : ((k : Nat) : Int) < ((j : Nat) : Int) := by simpa using hh
   clear hh
   refine gw_skip (nx_then (gw_seq (gw_block (sr_ ?_))))
   have hkn : k < n := by omega
   obtain ⟨gx, hgx2⟩ : ∃ x, g[k]? = some x := ⟨_, List.getElem?_eq_getElem (by omega)⟩
   obtain ⟨e0, e1, e2⟩ := gx
   obtain ⟨bx, hbx2⟩ : ∃ x, l[k]? = some x := ⟨_, List.getElem?_eq_getElem (by omega)⟩
   obtain ⟨d0, d1, d2, d3, d4, d5⟩ := bx
   have hz2 := zipbg_at hbx2 hgx2
   have hat := anyc_at (x := ((⟨b0, b1, b2, b3, b4, b5⟩ : Bk), (⟨q0, q1, q2⟩ : Gv))) hz2
   rw [hany, Bool.false_or] at hat
   have htm1 := htim _ (List.mem_of_getElem? hbx1)
   have htm2 := htim _ (List.mem_of_getElem? hbx2)
   dsimp only at htm1 htm2
   refine mv_ rfl ?_
   refine wl_ov (ov_index (j := k) es88 rfl rfl (by omega)) rfl ?_
   refine wl_ov (ov_elem (vs := [.string e0, .string e1, .int .i64 e2]) rz193 rfl (fun _ hm => (hm.fact 3 rfl).1) hgx2 rfl rfl) rfl ?_
   refine wl_alloc zc193 rfl fun g3 => ?_
   refine sg_ rfl ?_
   refine wl_stores (cs' := [.string e0, .string e1, .int .i64 e2]) 0 rz193 rfl rfl rfl rfl rfl rfl rfl rfl ?_
   refine nn_ (gw_seq ?_)
   refine gd (fun wz => Blk wz g3 193 [.string e0, .string e1, .int .i64 e2] ∧ Blk wz g2 193 [.string q0, .string q1, .int .i64 q2] ∧ (SlOld csEnc 2 170 w.heap.size none A0 n0 cs) wz ∧ (SlOld skEnc 2 254 w.heap.size none A1 n1 sl) wz ∧ (SlOld bkEnc 6 199 w.heap.size none (some ⟨ab, aoff, none⟩) n l) wz ∧ (SlOld gvEnc 3 193 w.heap.size none (some ⟨gb, goff, none⟩) n g) wz ∧ True) mixed (fun _ hm => ⟨hm.bl 0, hm.bl 1, hm.fa 0, hm.fa 1, hm.fa 2, hm.fa 3, trivial⟩) fun z => ?_
   refine wt 0 25 1 rfl z (ov_field fo193_1 rfl rfl) ?_
   refine wt 1 25 3 rfl z (ov_load sc9 rfl (fun _ hm => hm.2.1) rfl) ?_
   refine wt 2 25 7 rfl z (ov_field fo193_1 rfl rfl) ?_
   refine wt 3 25 15 rfl z (ov_load sc9 rfl (fun _ hm => hm.1) rfl) ?_
   refine wt 4 25 31 rfl z (ov_seql rfl rfl) ?_
   refine wt 5 25 63 rfl z (ov_move rfl) ?_
   rcases Bool.eq_false_or_eq_true (q1.toList == e1.toList) with hp0 | hp0
   ·refine wa_set 85 rfl (congrArg Value.bool hp0) ?_
    refine wto 6 25 127 rfl rfl rfl z (ov_field fo193_2 rfl rfl) ?_
    refine wto 7 25 255 rfl rfl rfl z (ov_load sc3 rfl (fun _ hm => hm.2.1) rfl) ?_
    refine wto 8 25 511 rfl rfl rfl z (ov_field fo193_2 rfl rfl) ?_
    refine wto 9 25 1023 rfl rfl rfl z (ov_load sc3 rfl (fun _ hm => hm.1) rfl) ?_
    refine wto 10 25 2047 rfl rfl rfl z (ov_eql rfl rfl) ?_
    refine wt 11 25 4095 rfl z (ov_pick_t rfl rfl) ?_
    refine wt 12 25 8191 rfl z (ov_move rfl) ?_
    rcases Bool.eq_false_or_eq_true (decide (q2 = e2)) with hp1 | hp1
    ·refine wa_set 92 rfl (congrArg Value.bool hp1) ?_
     refine wto 13 25 16383 rfl rfl rfl z (ov_move rfl) ?_
     refine wto 14 25 32767 rfl rfl rfl z (ov_move rfl) ?_
     refine wto 15 25 65535 rfl rfl rfl z (ov_index (j := j) es84 rfl rfl (by omega)) ?_
     refine wto 16 25 131071 rfl rfl rfl z (ov_field fo199_2 rfl rfl) ?_
     refine wto 17 25 262143 rfl rfl rfl z (ov_elemN (k := 2) (vs := [.int .i64 b2, .int .i64 b3]) rz42 rfl (fun _ hm => (hm.2.2.2.2.1).1) hbx1 rfl rfl rfl) ?_
     refine wto 18 25 524287 rfl rfl rfl z (ov_move rfl) ?_
     refine wto 19 25 1048575 rfl rfl rfl z (ov_move rfl) ?_
     refine wto 20 25 2097151 rfl rfl rfl z (ov_index (j := k) es84 rfl rfl (by omega)) ?_
     refine wto 21 25 4194303 rfl rfl rfl z (ov_field fo199_2 rfl rfl) ?_
     refine wto 22 25 8388607 rfl rfl rfl z (ov_elemN (k := 2) (vs := [.int .i64 d2, .int .i64 d3]) rz42 rfl (fun _ hm => (hm.2.2.2.2.1).1) hbx2 rfl rfl rfl) ?_
     refine wa1 23 rfl ?_
     refine wl_guard_on rfl rfl rfl ?_
     refine wl_callv rfl cb156 rfl rfl (fun wx hm => (meet_any b2 b3 d2 d3 wx)) ?_
     refine wl_nil ?_
     refine nw 25 16777215 (fun _ hm => ⟨hm.bl 0, hm.bl 1, hm.fa 0, hm.fa 1, hm.fa 2, hm.fa 3, trivial⟩) fun z => ?_
     refine wt 24 25 33554431 rfl z (ov_pick_t rfl rfl) ?_
     refine wa_done (by kernel_rfl) ?_
     refine nx_then ?_
     rcases Bool.eq_false_or_eq_true (meetW b2 b3 d2 d3) with hme | hme
     ·refine gw_set 104 rfl (congrArg Value.bool hme) ?_
      refine ct_ rfl (sr_ (sg_ rfl (nn_ ?_)))
      refine gw_ret ?_
      refine nx_blk_ret (nx_then_ret (nx_then_ret (nx_blk_ret (nx_blk_ret (nx_then_ret (nx_then_ret (nx_blk_ret (nx_then_ret ?_))))))))
      have hc : clsh ((⟨b0, b1, b2, b3, b4, b5⟩ : Bk), (⟨q0, q1, q2⟩ : Gv)) ((⟨d0, d1, d2, d3, d4, d5⟩ : Bk), (⟨e0, e1, e2⟩ : Gv)) = true := by
       unfold clsh; dsimp only
       rw [hp0, hp1, hme]; rfl
      have hcf := cfl_yes hz1 hz2 (by omega) hc
      refine nx_ret1 rfl rfl fun wx hm => ?_
      exact ⟨ret_int (by rw [hge, if_pos hcf]), hm.g⟩
     refine gw_set 104 rfl (congrArg Value.bool hme) ?_
     refine cf_ rfl (gw_skip (nx_blk_nrm (nx_then (gw_region (ad_ rfl rfl (mv_ rfl (wl_nil ?_)))))))
     have hc : clsh ((⟨b0, b1, b2, b3, b4, b5⟩ : Bk), (⟨q0, q1, q2⟩ : Gv)) ((⟨d0, d1, d2, d3, d4, d5⟩ : Bk), (⟨e0, e1, e2⟩ : Gv)) = false := by
      unfold clsh; dsimp only
      rw [hp0, hp1, hme]; rfl
     exact nx_round (k + 1) ⟨by (try dsimp only); omega, by (try dsimp only); rw [hat, hc]⟩ (by (try dsimp only); omega) ⟨rfl, rfl, rfl, rfl, rfl, rfl, rfl, rfl, rfl, (some_int (by omega)), trivial⟩ (fun _ hm => hm.pick [1] [] [0, 1, 2, 3] rfl rfl)
    refine wa_set 92 rfl (congrArg Value.bool hp1) ?_
    refine wtf 13 25 16383 rfl rfl rfl z ?_
    refine wtf 14 25 32767 rfl rfl rfl z ?_
    refine wtf 15 25 65535 rfl rfl rfl z ?_
    refine wtf 16 25 131071 rfl rfl rfl z ?_
    refine wtf 17 25 262143 rfl rfl rfl z ?_
    refine wtf 18 25 524287 rfl rfl rfl z ?_
    refine wtf 19 25 1048575 rfl rfl rfl z ?_
    refine wtf 20 25 2097151 rfl rfl rfl z ?_
    refine wtf 21 25 4194303 rfl rfl rfl z ?_
    refine wtf 22 25 8388607 rfl rfl rfl z ?_
    refine wtf 23 25 16777215 rfl rfl rfl z ?_
    refine wt 24 25 33554431 rfl z (ov_pick_f rfl rfl) ?_
    refine wa_done (by kernel_rfl) ?_
    refine nx_then (cf_ rfl (gw_skip (nx_blk_nrm (nx_then (gw_region (ad_ rfl rfl (mv_ rfl (wl_nil ?_))))))))
    have hc : clsh ((⟨b0, b1, b2, b3, b4, b5⟩ : Bk), (⟨q0, q1, q2⟩ : Gv)) ((⟨d0, d1, d2, d3, d4, d5⟩ : Bk), (⟨e0, e1, e2⟩ : Gv)) = false := by
     unfold clsh; dsimp only
     rw [hp0, hp1]; rfl
    exact nx_round (k + 1) ⟨by (try dsimp only); omega, by (try dsimp only); rw [hat, hc]⟩ (by (try dsimp only); omega) ⟨rfl, rfl, rfl, rfl, rfl, rfl, rfl, rfl, rfl, (some_int (by omega)), trivial⟩ (fun _ hm => hm.pick [1] [] [0, 1, 2, 3] rfl rfl)
   refine wa_set 85 rfl (congrArg Value.bool hp0) ?_
   refine wtf 6 25 127 rfl rfl rfl z ?_
   refine wtf 7 25 255 rfl rfl rfl z ?_
   refine wtf 8 25 511 rfl rfl rfl z ?_
   refine wtf 9 25 1023 rfl rfl rfl z ?_
   refine wtf 10 25 2047 rfl rfl rfl z ?_
   refine wt 11 25 4095 rfl z (ov_pick_f rfl rfl) ?_
   refine wt 12 25 8191 rfl z (ov_move rfl) ?_
   refine wtf 13 25 16383 rfl rfl rfl z ?_
   refine wtf 14 25 32767 rfl rfl rfl z ?_
   refine wtf 15 25 65535 rfl rfl rfl z ?_
   refine wtf 16 25 131071 rfl rfl rfl z ?_
   refine wtf 17 25 262143 rfl rfl rfl z ?_
   refine wtf 18 25 524287 rfl rfl rfl z ?_
   refine wtf 19 25 1048575 rfl rfl rfl z ?_
   refine wtf 20 25 2097151 rfl rfl rfl z ?_
   refine wtf 21 25 4194303 rfl rfl rfl z ?_
   refine wtf 22 25 8388607 rfl rfl rfl z ?_
   refine wtf 23 25 16777215 rfl rfl rfl z ?_
   refine wt 24 25 33554431 rfl z (ov_pick_f rfl rfl) ?_
   refine wa_done (by kernel_rfl) ?_
   refine nx_then (cf_ rfl (gw_skip (nx_blk_nrm (nx_then (gw_region (ad_ rfl rfl (mv_ rfl (wl_nil ?_))))))))
   have hc : clsh ((⟨b0, b1, b2, b3, b4, b5⟩ : Bk), (⟨q0, q1, q2⟩ : Gv)) ((⟨d0, d1, d2, d3, d4, d5⟩ : Bk), (⟨e0, e1, e2⟩ : Gv)) = false := by
    unfold clsh; dsimp only
    rw [hp0]; rfl
   exact nx_round (k + 1) ⟨by (try dsimp only); omega, by (try dsimp only); rw [hat, hc]⟩ (by (try dsimp only); omega) ⟨rfl, rfl, rfl, rfl, rfl, rfl, rfl, rfl, rfl, (some_int (by omega)), trivial⟩ (fun _ hm => hm.pick [1] [] [0, 1, 2, 3] rfl rfl)
  have hk : ¬ (((k : Nat) : Int) < ((j : Nat) : Int)) := by simpa using hh
  clear hh
  refine gw_exit ?_
  refine nx_then_exit (nx_then_exit ?_)
  refine nx_blk_here ?_
  refine nx_blk_nrm (nx_then (gw_region (ad_ rfl rfl (mv_ rfl (wl_nil ?_)))))
  obtain rfl : k = j := by omega
  exact nx_round (k + 1) ⟨by (try dsimp only); omega, cfl_next hnc hz1 hany⟩ (by (try dsimp only); omega) ⟨rfl, rfl, rfl, rfl, (some_int (by omega)), trivial⟩ (fun _ hm => hm.pick [] [] [0, 1, 2, 3] rfl rfl)
 have hj : ¬ (((j : Nat) : Int) < ((n : Nat) : Int)) := by simpa using hh
 clear hh
 refine gw_exit ?_
 refine nx_then_exit (nx_then_exit ?_)
 refine nx_blk_here ?_
 refine nx_then (sr_ ?_)
 have hcf := cfl_no hnc (by omega)
 refine sg_ rfl (nn_ ?_)
 refine gw_ret ?_
 refine nx_ret1 rfl rfl fun wx hm => ?_
 exact ⟨ret_int (by rw [hge, if_neg (by rw [hcf]; decide)]), hm.g⟩
theorem giv_right {cs : List Cs} {sl : List Sk} {l : List Bk} {g : List Gv} (h : givE cs sl l g = 0) : l.length = g.length ∧ ∀ x ∈ g, noB cs x.cls = false := by
  unfold givE at h
  split at h
  · rename_i hK
    have hlen : l.length = g.length := by
      unfold keysQ at hK
      simp only [Bool.and_eq_true, decide_eq_true_eq] at hK
      exact hK.1
    split at h
    · rename_i hS
      refine ⟨hlen, fun x hx => ?_⟩
      obtain ⟨i, hi⟩ := List.getElem?_of_mem hx
      have hil := (List.getElem?_eq_some_iff.1 hi).1
      obtain ⟨b, hb⟩ : ∃ b, l[i]? = some b := ⟨_, List.getElem?_eq_getElem (by omega)⟩
      obtain ⟨q, hq⟩ := scanE_all hS _ (List.mem_of_getElem? (zipbg_at hb hi))
      have hq2 : gvE1 cs sl (b, x) = 0 := hq
      unfold gvE1 at hq2
      cases hn : noB cs x.cls with
      | false => rfl
      | true => rw [if_pos hn] at hq2; cases hq2
    · rename_i hS; exact absurd h hS
  · cases h
theorem upgradesOf_any (cs : List Cs) (A0 : Option Addr) (n0 c0 : Nat) (l : List Bk) (A : Option Addr) (n c : Nat) (g : List Gv) (G : Option Addr) (gn gc : Nat) (w : World) (hcs : SlT csEnc 2 170 w A0 n0 cs) (hco : ∀ x ∈ cs, CsOk x) (hn0 : n0 ≤ 1000) (hl : SlT bkEnc 6 199 w A n l) (hn : n ≤ 1000) (hg : SlT gvEnc 3 193 w G gn g) (_hgn : gn ≤ 1000) (hcz : cs.length ≤ 30 ∧ Closed cs ∧ loopB cs cs.length = false) (hle : l.length = g.length) (hcl2 : ∀ b ∈ l, noB cs b.cls = false) :
  Calls Tryz.prog 52 #[.slice A0 n0 c0, .slice A n c, .slice G gn gc] w (fun e w' => e = .returned (.int .i64 (upV cs (l.zip g))) ∧ w.grownBy w' none) := by
 refine gw_enter ⟨36, w, none, []⟩ Tryz.func52 rfl Tryz.ntmps52 rfl (mem0 (X := [SlOld csEnc 2 170 w.heap.size none A0 n0 cs, SlOld bkEnc 6 199 w.heap.size none A n l, SlOld gvEnc 3 193 w.heap.size none G gn g]) (allF_cons hcs.old (allF_cons hl.old (allF_cons hg.old allF_nil))) (allL_cons SlOld.lasts (allL_cons SlOld.lasts (allL_cons SlOld.lasts allL_nil)))) ?_
 refine sr_ ?_
 have hll := hl.len
 have hgl := hg.len
 obtain rfl : n = gn := by omega
 have hzl : (l.zip g).length = n := by rw [List.length_zip]; omega
 refine sg_ rfl (nn_ (sr_ (sg_ rfl (nn_ (gw_seq (sr_ (mv_ rfl (wl_ov (ov_len es88 rfl) rfl (mv_ rfl ?_)))))))))
 refine nn_ (gw_block ?_)
 refine gw_loop (γ := Nat) (fun (i : Nat) => i ≤ n) (fun (i : Nat) => [(0, .slice A0 n0 c0), (1, .slice A n c), (6, .int .i64 0), (7, .int .i64 (upV cs ((l.zip g).take i))), (12, .slice G n gc), (13, .int .i64 ((n : Nat) : Int)), (14, .int .i64 ((i : Nat) : Int))]) (fun (i : Nat) => fun _ => True) (fun (i : Nat) => []) (fun (i : Nat) => []) (fun (i : Nat) => [SlOld csEnc 2 170 w.heap.size none A0 n0 cs, SlOld bkEnc 6 199 w.heap.size none A n l, SlOld gvEnc 3 193 w.heap.size none G n g]) (fun (i : Nat) => n - i) 0 (Nat.zero_le _) ⟨rfl, rfl, rfl, rfl, rfl, rfl, rfl, trivial⟩ (fun _ hm => hm.pick [] [] [0, 1, 2] rfl rfl) ?_
 intro i hinv
 replace hinv : i ≤ n := hinv
 refine sr_ ?_
 have hi0 := hinv
 refine wl_ov (ov_lss rfl rfl) rfl (nn_ (gw_seq ?_))
 refine gw_cond rfl (fun hh => ?_) (fun hh => ?_)
 ·have hi : ((i : Nat) : Int) < ((n : Nat) : Int) := by simpa using hh
  clear hh
  refine gw_skip (nx_then (gw_seq (gw_block (sr_ ?_))))
  obtain ⟨gb, goff, hA, _, _⟩ := hg.get (by omega)
  subst hA
  obtain ⟨ab, aoff, hA, _, _⟩ := hl.get (by omega)
  subst hA
  obtain ⟨gx, hgx⟩ : ∃ x, g[i]? = some x := ⟨_, List.getElem?_eq_getElem (by omega)⟩
  obtain ⟨q0, q1, q2⟩ := gx
  obtain ⟨bx, hbx⟩ : ∃ x, l[i]? = some x := ⟨_, List.getElem?_eq_getElem (by omega)⟩
  obtain ⟨b0, b1, b2, b3, b4, b5⟩ := bx
  have hz := zipbg_at hbx hgx
  have hat := up_at (cs := cs) hz
  dsimp only at hat
  have hub := up_bound cs ((l.zip g).take i)
  have htl : ((l.zip g).take i).length ≤ 1000 := by rw [List.length_take]; omega
  have hcsl : cs.length ≤ 1000 := by rw [hcs.len]; exact hn0
  have hprod : (((l.zip g).take i).length : Int) * (cs.length : Int) ≤ 1000000 := by
   have := Nat.mul_le_mul htl hcsl
   omega
  have hsb := stepsV_bound cs b1 q1
  have hnb := hcl2 _ (List.mem_of_getElem? hbx)
  dsimp only at hnb
  refine mv_ rfl ?_
  refine wl_ov (ov_index (j := i) es88 rfl rfl (by omega)) rfl ?_
  refine wl_ov (ov_elem (vs := [.string q0, .string q1, .int .i64 q2]) rz193 rfl (fun _ hm => (hm.fact 2 rfl).1) hgx rfl rfl) rfl ?_
  refine wl_alloc zc193 rfl fun g1 => ?_
  refine sg_ rfl ?_
  refine wl_stores (cs' := [.string q0, .string q1, .int .i64 q2]) 0 rz193 rfl rfl rfl rfl rfl rfl rfl rfl ?_
  refine nn_ (gw_seq ?_)
  refine gd (fun wz => Blk wz g1 193 [.string q0, .string q1, .int .i64 q2] ∧ (SlOld csEnc 2 170 w.heap.size none A0 n0 cs) wz ∧ (SlOld bkEnc 6 199 w.heap.size none (some ⟨ab, aoff, none⟩) n l) wz ∧ (SlOld gvEnc 3 193 w.heap.size none (some ⟨gb, goff, none⟩) n g) wz ∧ True) mixed (fun _ hm => ⟨hm.bl 0, hm.fa 0, hm.fa 1, hm.fa 2, trivial⟩) fun z => ?_
  refine wt 0 14 1 rfl z (ov_move rfl) ?_
  refine wt 1 14 3 rfl z (ov_move rfl) ?_
  refine wt 2 14 7 rfl z (ov_move rfl) ?_
  refine wt 3 14 15 rfl z (ov_index (j := i) es84 rfl rfl (by omega)) ?_
  refine wt 4 14 31 rfl z (ov_field fo199_1 rfl rfl) ?_
  refine wt 5 14 63 rfl z (ov_elem1 (k := 1) (v := .string b1) sc9 rfl (fun _ hm => (hm.2.2.1).1) hbx rfl rfl) ?_
  refine wt 6 14 127 rfl z (ov_field fo193_1 rfl rfl) ?_
  refine wt 7 14 255 rfl z (ov_load sc9 rfl (fun _ hm => hm.1) rfl) ?_
  refine wa1 8 rfl ?_
  refine wl_callv rfl cb146 rfl rfl (fun wx hm => (stepsOf_any cs A0 n0 c0 b1 q1 wx (hm.fact 0 rfl).1 hco hn0 hcz.2.1 hcz.2.2)) ?_
  refine wl_nil ?_
  refine nw 14 511 (fun _ hm => ⟨hm.bl 0, hm.fa 0, hm.fa 1, hm.fa 2, trivial⟩) fun z => ?_
  refine wt 9 14 1023 rfl z (ov_move rfl) ?_
  refine wt 10 14 2047 rfl z (ov_extract rfl rfl) ?_
  refine wt 11 14 4095 rfl z (ov_extract rfl rfl) ?_
  refine wt 12 14 8191 rfl z (ov_assign rfl) ?_
  refine wt 13 14 16383 rfl z (ov_assign rfl) ?_
  refine wa_done (by kernel_rfl) ?_
  refine nx_then (gw_region (mv_ rfl (mv_ rfl (ad_ rfl rfl (sg_ rfl (wl_nil (nx_blk_nrm (nx_then (gw_region (ad_ rfl rfl (mv_ rfl (wl_nil ?_))))))))))))
  exact nx_round (i + 1) (by omega) (by omega) ⟨rfl, rfl, rfl, (some_int hat.symm), rfl, rfl, (some_int (by omega)), trivial⟩ (fun _ hm => hm.pick [] [] [0, 1, 2] rfl rfl)
 have hi : ¬ (((i : Nat) : Int) < ((n : Nat) : Int)) := by simpa using hh
 clear hh
 refine gw_exit ?_
 refine nx_then_exit (nx_then_exit ?_)
 refine nx_blk_here ?_
 refine nx_then (sr_ ?_)
 have hlt : (l.zip g).take i = (l.zip g) := List.take_of_length_le (by omega)
 rw [hlt]
 refine mv_ rfl (sg_ rfl (nn_ ?_))
 refine gw_ret ?_
 refine nx_ret1 rfl rfl fun wx hm => ?_
 exact ⟨rfl, hm.g⟩
theorem gch_zero {cs : List Cs} {sl : List Sk} {l : List Bk} {g : List Gv} (h : gchE cs sl l g = 0) : firstE [stockE cs sl, checkE cs l] = 0 ∧ givE cs sl l g = 0 := by
  unfold gchE at h
  split at h
  · exact ⟨‹_›, h⟩
  · exact absurd h ‹_›
theorem upgrades_any (cs : List Cs) (A0 : Option Addr) (n0 c0 : Nat) (sl : List Sk) (A1 : Option Addr) (n1 c1 : Nat) (l : List Bk) (A : Option Addr) (n c : Nat) (g : List Gv) (G : Option Addr) (gn gc : Nat) (w : World) (hcs : SlT csEnc 2 170 w A0 n0 cs) (hco : ∀ x ∈ cs, CsOk x) (hn0 : n0 ≤ 1000) (hs : SlT skEnc 2 254 w A1 n1 sl) (hso : ∀ x ∈ sl, SkOk x) (hn1 : n1 ≤ 1000) (hl : SlT bkEnc 6 199 w A n l) (hok : ∀ x ∈ l, BkOk x) (hn : n ≤ 1000) (hg : SlT gvEnc 3 193 w G gn g) (hgn : gn ≤ 1000) (hgc : gn ≤ gc) :
  Calls Tryz.prog 49 #[.slice A0 n0 c0, .slice A1 n1 c1, .slice A n c, .slice G gn gc] w (fun e w' => e = .returned (.tuple #[.int .i64 (if gchE cs sl l g = 0 then upV cs (l.zip g) else 0), .int .i64 (gchE cs sl l g)]) ∧ w.grownBy w' none) := by
 refine gw_enter ⟨48, w, none, []⟩ Tryz.func49 rfl Tryz.ntmps49 rfl (mem0 (X := [SlOld csEnc 2 170 w.heap.size none A0 n0 cs, SlOld skEnc 2 254 w.heap.size none A1 n1 sl, SlOld bkEnc 6 199 w.heap.size none A n l, SlOld gvEnc 3 193 w.heap.size none G gn g]) (allF_cons hcs.old (allF_cons hs.old (allF_cons hl.old (allF_cons hg.old allF_nil)))) (allL_cons SlOld.lasts (allL_cons SlOld.lasts (allL_cons SlOld.lasts (allL_cons SlOld.lasts allL_nil))))) ?_
 refine sr_ ?_
 have hll := hl.len
 have hgl := hg.len
 obtain ⟨GE, hGE⟩ : ∃ z, z = gchE cs sl l g := ⟨_, rfl⟩
 rw [← hGE]
 refine sg_ rfl (sg_ rfl (nn_ (gw_seq (sr_ (mv_ rfl (mv_ rfl (mv_ rfl (mv_ rfl ?_))))))))
 refine wl_callv (v := .int .i64 GE) rfl cb53 rfl rfl (fun wx hm => (by rw [hGE]; exact checkGiven_any cs A0 n0 c0 sl A1 n1 c1 l A n c g G gn gc wx (hm.fact 0 rfl).1 hco hn0 (hm.fact 1 rfl).1 hso hn1 (hm.fact 2 rfl).1 hok hn (hm.fact 3 rfl).1 hgn hgc)) ?_
 refine sg_ rfl (nn_ (sr_ (mv_ rfl (wl_ov (ov_neq rfl rfl) rfl (nn_ ?_)))))
 refine gw_cond rfl (fun hh => ?_) (fun hh => ?_)
 ·have h1 : ¬ (GE = 0) := by simpa using hh
  clear hh
  refine sr_ ?_
  have h1 : ¬ GE = 0 := by simpa using h1
  refine mv_ rfl (sg_ rfl (sg_ rfl (nn_ ?_)))
  refine gw_ret ?_
  refine nx_then_ret ?_
  refine nx_ret2 rfl rfl rfl fun wx hm => ?_
  exact ⟨by rw [if_neg h1], hm.g⟩
 have h1 : GE = 0 := by simpa using hh
 clear hh
 refine gw_skip (nx_then (sr_ ?_))
 obtain rfl : GE = 0 := by simpa using h1
 obtain ⟨h0, hgz⟩ := gch_zero hGE.symm
 obtain ⟨hce, hfm, hcl2⟩ := right_all h0
 obtain ⟨hle, hcls⟩ := giv_right hgz
 obtain rfl : n = gn := by omega
 have hzl : (l.zip g).length = n := by rw [List.length_zip]; omega
 refine sg_ rfl (nn_ (gw_seq (sr_ (mv_ rfl (wl_ov (ov_len es88 rfl) rfl (mv_ rfl (nn_ (gw_block ?_))))))))
 refine gw_loop (γ := Nat) (fun (i : Nat) => i ≤ n) (fun (i : Nat) => [(0, .slice A0 n0 c0), (2, .slice A n c), (8, .int .i64 0), (9, .int .i64 0), (11, .int .i64 (upV cs ((l.zip g).take i))), (24, .slice G n gc), (25, .int .i64 ((n : Nat) : Int)), (26, .int .i64 ((i : Nat) : Int))]) (fun (i : Nat) => fun _ => True) (fun (i : Nat) => []) (fun (i : Nat) => []) (fun (i : Nat) => [SlOld csEnc 2 170 w.heap.size none A0 n0 cs, SlOld skEnc 2 254 w.heap.size none A1 n1 sl, SlOld bkEnc 6 199 w.heap.size none A n l, SlOld gvEnc 3 193 w.heap.size none G n g]) (fun (i : Nat) => n - i) 0 (Nat.zero_le _) ⟨rfl, rfl, rfl, rfl, rfl, rfl, rfl, rfl, trivial⟩ (fun _ hm => hm.pick [] [] [0, 1, 2, 3] rfl rfl) ?_
 intro i hinv
 replace hinv : i ≤ n := hinv
 refine sr_ ?_
 have hi0 := hinv
 refine wl_ov (ov_lss rfl rfl) rfl (nn_ (gw_seq ?_))
 refine gw_cond rfl (fun hh => ?_) (fun hh => ?_)
 ·have hi : ((i : Nat) : Int) < ((n : Nat) : Int) := by simpa using hh
  clear hh
  refine gw_skip (nx_then (gw_seq (gw_block (sr_ ?_))))
  obtain ⟨gb, goff, hA, _, _⟩ := hg.get (by omega)
  subst hA
  obtain ⟨ab, aoff, hA, _, _⟩ := hl.get (by omega)
  subst hA
  obtain ⟨gx, hgx⟩ : ∃ x, g[i]? = some x := ⟨_, List.getElem?_eq_getElem (by omega)⟩
  obtain ⟨q0, q1, q2⟩ := gx
  obtain ⟨bx, hbx⟩ : ∃ x, l[i]? = some x := ⟨_, List.getElem?_eq_getElem (by omega)⟩
  obtain ⟨b0, b1, b2, b3, b4, b5⟩ := bx
  have hz := zipbg_at hbx hgx
  have hat := up_at (cs := cs) hz
  dsimp only at hat
  have hub := up_bound cs ((l.zip g).take i)
  have htl : ((l.zip g).take i).length ≤ 1000 := by rw [List.length_take]; omega
  have hcsl : cs.length ≤ 1000 := by rw [hcs.len]; exact hn0
  have hprod : (((l.zip g).take i).length : Int) * (cs.length : Int) ≤ 1000000 := by
   have := Nat.mul_le_mul htl hcsl
   omega
  have hsb := stepsV_bound cs b1 q1
  have hnb := hcl2 _ (List.mem_of_getElem? hbx)
  dsimp only at hnb
  have h1 := hcls _ (List.mem_of_getElem? hgx)
  dsimp only at h1
  refine mv_ rfl ?_
  refine wl_ov (ov_index (j := i) es88 rfl rfl (by omega)) rfl ?_
  refine wl_ov (ov_elem (vs := [.string q0, .string q1, .int .i64 q2]) rz193 rfl (fun _ hm => (hm.fact 3 rfl).1) hgx rfl rfl) rfl ?_
  refine wl_alloc zc193 rfl fun g1 => ?_
  refine sg_ rfl ?_
  refine wl_stores (cs' := [.string q0, .string q1, .int .i64 q2]) 0 rz193 rfl rfl rfl rfl rfl rfl rfl rfl ?_
  refine nn_ (gw_seq ?_)
  refine gd (fun wz => Blk wz g1 193 [.string q0, .string q1, .int .i64 q2] ∧ (SlOld csEnc 2 170 w.heap.size none A0 n0 cs) wz ∧ (SlOld skEnc 2 254 w.heap.size none A1 n1 sl) wz ∧ (SlOld bkEnc 6 199 w.heap.size none (some ⟨ab, aoff, none⟩) n l) wz ∧ (SlOld gvEnc 3 193 w.heap.size none (some ⟨gb, goff, none⟩) n g) wz ∧ True) mixed (fun _ hm => ⟨hm.bl 0, hm.fa 0, hm.fa 1, hm.fa 2, hm.fa 3, trivial⟩) fun z => ?_
  refine wt 0 14 1 rfl z (ov_move rfl) ?_
  refine wt 1 14 3 rfl z (ov_move rfl) ?_
  refine wt 2 14 7 rfl z (ov_move rfl) ?_
  refine wt 3 14 15 rfl z (ov_index (j := i) es84 rfl rfl (by omega)) ?_
  refine wt 4 14 31 rfl z (ov_field fo199_1 rfl rfl) ?_
  refine wt 5 14 63 rfl z (ov_elem1 (k := 1) (v := .string b1) sc9 rfl (fun _ hm => (hm.2.2.2.1).1) hbx rfl rfl) ?_
  refine wt 6 14 127 rfl z (ov_field fo193_1 rfl rfl) ?_
  refine wt 7 14 255 rfl z (ov_load sc9 rfl (fun _ hm => hm.1) rfl) ?_
  refine wa1 8 rfl ?_
  refine wl_callv rfl cb144 rfl rfl (fun wx hm => (stepsTo_any cs A0 n0 c0 b1 q1 wx (hm.fact 0 rfl).1 hco hn0 (keys_of hce hnb h1))) ?_
  refine wl_nil ?_
  refine nw 14 511 (fun _ hm => ⟨hm.bl 0, hm.fa 0, hm.fa 1, hm.fa 2, hm.fa 3, trivial⟩) fun z => ?_
  refine wt 9 14 1023 rfl z (ov_move rfl) ?_
  refine wt 10 14 2047 rfl z (ov_extract rfl rfl) ?_
  refine wt 11 14 4095 rfl z (ov_extract rfl rfl) ?_
  refine wt 12 14 8191 rfl z (ov_assign rfl) ?_
  refine wt 13 14 16383 rfl z (ov_assign rfl) ?_
  refine wa_done (by kernel_rfl) ?_
  refine nx_then (gw_region (mv_ rfl (mv_ rfl (ad_ rfl rfl (sg_ rfl (wl_nil (nx_blk_nrm (nx_then (gw_region (ad_ rfl rfl (mv_ rfl (wl_nil ?_))))))))))))
  exact nx_round (i + 1) (by omega) (by omega) ⟨rfl, rfl, rfl, rfl, (some_int hat.symm), rfl, rfl, (some_int (by omega)), trivial⟩ (fun _ hm => hm.pick [] [] [0, 1, 2, 3] rfl rfl)
 have hi : ¬ (((i : Nat) : Int) < ((n : Nat) : Int)) := by simpa using hh
 clear hh
 refine gw_exit ?_
 refine nx_then_exit (nx_then_exit ?_)
 refine nx_blk_here ?_
 refine nx_then (sr_ ?_)
 have hlt : (l.zip g).take i = (l.zip g) := List.take_of_length_le (by omega)
 rw [hlt]
 refine mv_ rfl (sg_ rfl (sg_ rfl (nn_ ?_)))
 refine gw_ret ?_
 refine nx_ret2 rfl rfl rfl fun wx hm => ?_
 exact ⟨by rw [if_pos rfl], hm.g⟩
end Go.Proofs.YtnpcbfllnkiopaaGreatDoor
namespace Go.Proofs.YtnpcbfllnkiopaaGreatDoor
open Go.RowKit
structure Fr where
  num : Int
  den : Int
def frEnc (x : Fr) : List Value := [.int .i64 x.num, .int .i64 x.den]
theorem fr_len (x : Fr) : (frEnc x).length = 2 := rfl
/-- The lowest terms of n / d. -/
def lowF (n d : Nat) : Fr := ⟨((n / Nat.gcd n d : Nat) : Int), ((d / Nat.gcd n d : Nat) : Int)⟩
theorem gcd_step {a b g : Nat} (h : Nat.gcd a b = g) : Nat.gcd b (a % b) = g := by
  rw [Nat.gcd_comm, ← Nat.gcd_rec, Nat.gcd_comm]; exact h
def oddsE (l : List Bk) : Int := firstE [formE l, whenE (decide (9 < (l.length : Int))) 2]
theorem lowest_any (n d : Nat) (w : World) (hn : n ≤ 1000000000000000000) (hd : d ≤ 1000000000000000000) (hd0 : 0 < d) :
  Calls Tryz.prog 234 #[.int .i64 ((n : Nat) : Int), .int .i64 ((d : Nat) : Int)] w (fun e w' => e = .returned (.agg #[.int .i64 (lowF n d).num, .int .i64 (lowF n d).den]) ∧ w.grownBy w' none) := by
 refine gw_enter ⟨25, w, none, []⟩ Tryz.func234 rfl Tryz.ntmps234 rfl (mem0 (X := []) allF_nil allL_nil) ?_
 refine sr_ ?_
 refine wl_alloc zc212 rfl fun g1 => ?_
 refine nn_ (sr_ (mv_ rfl (mv_ rfl ?_)))
 refine wl_ov (ov_neg rfl (by omega) (by omega)) rfl ?_
 refine wl_ov (ov_max rfl rfl) rfl ?_
 refine mv_ rfl (sg_ rfl (sg_ rfl (nn_ (gw_seq (gw_block ?_)))))
 refine gw_loop (γ := Nat × Nat) (fun g => Nat.gcd g.1 g.2 = Nat.gcd n d ∧ g.1 ≤ 1000000000000000000 ∧ g.2 ≤ 1000000000000000000) (fun g => [(0, .int .i64 ((n : Nat) : Int)), (1, .int .i64 ((d : Nat) : Int)), (4, .pointer (some ⟨g1, 0, none⟩)), (5, .int .i64 ((g.1 : Nat) : Int)), (6, .int .i64 ((g.2 : Nat) : Int))]) (fun g => fun _ => True) (fun g => [(g1, 212, [.int .i64 0, .int .i64 0])]) (fun g => []) (fun g => []) (fun g => g.2) (n, d) ⟨rfl, by omega, by omega⟩ ⟨rfl, rfl, rfl, (some_int (by omega)), rfl, trivial⟩ (fun _ hm => hm.pick [0] [] [] rfl rfl) ?_
 rintro ⟨a, b⟩ hinv
 replace hinv : Nat.gcd a b = Nat.gcd n d ∧ a ≤ 1000000000000000000 ∧ b ≤ 1000000000000000000 := hinv
 dsimp only
 refine gw_seq (sr_ (mv_ rfl (wl_ov (ov_neq rfl rfl) rfl (nn_ ?_))))
 refine gw_cond rfl (fun hh => ?_) (fun hh => ?_)
 ·have hb : ¬ (((b : Nat) : Int) = 0) := by simpa using hh
  clear hh
  refine gw_skip (nx_then (gw_block ?_))
  have hb0 : 0 < b := by omega
  have hlt := Nat.mod_lt a hb0
  refine gd (fun wz => Blk wz g1 212 [.int .i64 0, .int .i64 0] ∧ True) mixed (fun _ hm => ⟨hm.bl 0, trivial⟩) fun z => ?_
  refine wt 0 6 1 rfl z (ov_move rfl) ?_
  refine wt 1 6 3 rfl z (ov_move rfl) ?_
  refine wt 2 6 7 rfl z (ov_move rfl) ?_
  refine wt 3 6 15 rfl z (ov_rem rfl rfl (by omega) (by omega) (by omega)) ?_
  refine wt 4 6 31 rfl z (ov_assign rfl) ?_
  refine wt 5 6 63 rfl z (ov_assign rfl) ?_
  refine wa_done (by kernel_rfl) ?_
  refine nx_blk_nrm ?_
  exact nx_round (b, a % b) ⟨gcd_step hinv.1, by dsimp only; omega, by dsimp only; omega⟩ hlt ⟨rfl, rfl, rfl, rfl, (some_int (Int.natCast_emod a b).symm), trivial⟩ (fun _ hm => hm.pick [0] [] [] rfl rfl)
 have hb : ((b : Nat) : Int) = 0 := by simpa using hh
 clear hh
 refine gw_exit ?_
 refine nx_then_exit (nx_then_exit ?_)
 refine nx_blk_here ?_
 refine nx_then (gw_seq ?_)
 have hb0 : b = 0 := by omega
 subst hb0
 have hga : a = Nat.gcd n d := by rw [← hinv.1, Nat.gcd_zero_right]
 have ha0 : 0 < a := by rw [hga]; exact Nat.gcd_pos_of_pos_right n hd0
 refine gd (fun wz => True) mixed (fun _ _ => trivial) fun z => ?_
 refine wt 0 8 1 rfl z (ov_move rfl) ?_
 refine wt 1 8 3 rfl z (ov_move rfl) ?_
 refine wt 2 8 7 rfl z (ov_quo rfl rfl (by omega) (by omega) (by omega)) ?_
 refine wt 3 8 15 rfl z (ov_move rfl) ?_
 refine wt 4 8 31 rfl z (ov_move rfl) ?_
 refine wt 5 8 63 rfl z (ov_quo rfl rfl (by omega) (by omega) (by omega)) ?_
 refine wt 6 8 127 rfl z (ov_build (cs := [.int .i64 (((n : Nat) : Int) / ((a : Nat) : Int)), .int .i64 (((d : Nat) : Int) / ((a : Nat) : Int))]) rfl (by kernel_rfl)) ?_
 refine wa1 7 rfl ?_
 refine wl_stores (cs' := [.int .i64 (((n : Nat) : Int) / ((a : Nat) : Int)), .int .i64 (((d : Nat) : Int) / ((a : Nat) : Int))]) 0 rz212 rfl rfl rfl rfl rfl rfl rfl rfl ?_
 refine wl_nil ?_
 refine nw 8 255 (fun _ _ => trivial) fun z => ?_
 refine wa_done (by kernel_rfl) ?_
 refine nx_then ?_
 refine gw_ret ?_
 refine nx_retc 0 rfl rz212 rfl rfl rfl fun wx hm => ?_
 refine ⟨?_, hm.g⟩
 unfold lowF
 rw [← hga, Int.natCast_ediv, Int.natCast_ediv]
theorem checkOdds_any (l : List Bk) (A : Option Addr) (n c : Nat) (w : World) (hl : SlT bkEnc 6 199 w A n l) (hok : ∀ b ∈ l, BkOk b) (hn : n ≤ 1000000) :
  Calls Tryz.prog 232 #[.slice A n c] w (GotE w (oddsE l)) := by
 refine gw_enter ⟨11, w, none, []⟩ Tryz.func232 rfl Tryz.ntmps232 rfl (mem0 (X := [SlOld bkEnc 6 199 w.heap.size none A n l]) (allF_cons hl.old allF_nil) (allL_cons SlOld.lasts allL_nil)) ?_
 refine sr_ ?_
 have hlen := hl.len
 refine sg_ rfl (nn_ (sr_ (mv_ rfl ?_)))
 refine wl_callv rfl cb283 rfl rfl (fun wx hm => (formed_any l A n c wx (hm.fact 0 rfl).1 hok hn)) ?_
 refine mv_ rfl (wl_ov (ov_len es84 rfl) rfl ?_)
 refine wl_ov (ov_gtr rfl rfl) rfl ?_
 refine wl_callw rfl cb106 rfl rfl (fun wx hm => (when_any _ _ wx)) ?_
 refine wl_buildSlice (e := 28) (cs := [.int .i64 (formE l), .int .i64 (whenE (decide (9 < ((n : Nat) : Int))) 2)]) rfl (by kernel_rfl) rfl fun g1 => ?_
 refine wl_callw rfl cb104 rfl rfl (fun wx hm => (first_any [formE l, whenE (decide (9 < ((n : Nat) : Int))) 2] _ _ _ wx (hm.blkI 0 rfl) (by simp))) ?_
 refine sg_ rfl (nn_ ?_)
 refine gw_ret ?_
 refine nx_ret1 rfl rfl fun wx hm => ?_
 exact ⟨ret_int (by unfold oddsE; rw [hlen]), hm.g⟩
theorem spread_one (A : Option Addr) (c : Nat) (w : World) (hl : SlT bkEnc 6 199 w A 1 [⟨⟨#[97]⟩, ⟨#[99]⟩, 0, 1, 0, 50⟩]) :
  Calls Tryz.prog 233 #[.slice A 1 c] w (fun e w' => ∃ A2 c2, e = .returned (.tuple #[.slice A2 2 c2, .int .i64 100]) ∧ w.grownBy w' none ∧ w'.ownsRow w.heap.size 3 1 (.slice A2 2 c2) 2 [.int .i64 50, .int .i64 50]) := by
 refine gw_enter ⟨58, w, none, []⟩ Tryz.func233 rfl Tryz.ntmps233 rfl (mem0 (X := [SlOld bkEnc 6 199 w.heap.size none A 1 [⟨⟨#[97]⟩, ⟨#[99]⟩, 0, 1, 0, 50⟩]]) (allF_cons hl.old allF_nil) (allL_cons SlOld.lasts allL_nil)) ?_
 refine sr_ (sg_ rfl (sg_ rfl (nn_ (sr_ ?_))))
 refine wl_buildSlice (e := 3) (cs := [.int .i64 1]) rfl (by kernel_rfl) rfl fun g1 => ?_
 refine sg_ rfl (sg_ rfl (nn_ (gw_seq (sr_ (mv_ rfl (wl_ov (ov_len es84 rfl) rfl ?_))))))
 refine wl_set 13 (v' := .int .i64 1) rfl rfl ?_
 refine mv_ rfl (nn_ (gw_block ?_))
 obtain ⟨b, off, hA, _, _⟩ := hl.get (by omega)
 subst hA
 refine gw_rounds 3 ?_
 refine gr_next ?_
 refine sr_ (wl_ov (ov_lss rfl rfl) rfl ?_)
 refine wl_set 15 (v' := .bool true) rfl (congrArg Value.bool (by decide)) ?_
 refine nn_ (gw_seq (ct_ rfl (gw_skip (nx_then (gw_seq (gw_block (sr_ ?_)))))))
 refine wl_ov (ov_index (j := 0) es84 rfl rfl (by omega)) rfl ?_
 refine wl_ov (ov_elem (vs := [.string ⟨#[97]⟩, .string ⟨#[99]⟩, .int .i64 0, .int .i64 1, .int .i64 0, .int .i64 50]) rz199 rfl (fun _ hm => (hm.fact 0 rfl).1) (rfl : [(⟨⟨#[97]⟩, ⟨#[99]⟩, 0, 1, 0, 50⟩ : Bk)][0]? = some ⟨⟨#[97]⟩, ⟨#[99]⟩, 0, 1, 0, 50⟩) rfl rfl) rfl ?_
 refine wl_alloc zc199 rfl fun g2 => ?_
 refine wl_stores (cs' := [.string ⟨#[97]⟩, .string ⟨#[99]⟩, .int .i64 0, .int .i64 1, .int .i64 0, .int .i64 50]) 0 rz199 rfl rfl rfl rfl rfl rfl rfl rfl ?_
 refine nn_ (sr_ (mv_ rfl (wl_ov (ov_len es22 rfl) rfl ?_)))
 refine wl_set 19 (v' := .int .i64 1) rfl rfl ?_
 refine ad_ rfl rfl ?_
 refine wl_set 20 (v' := .int .i64 2) rfl rfl ?_
 refine wl_makeB (n := 2) (e := 3) (by_ := 8) (z := .int .i64 0) (cs := [.int .i64 0, .int .i64 0]) (by kernel_rfl) (by kernel_rfl) rfl rfl rfl rfl rfl (by kernel_rfl) rfl fun g3 => ?_
 refine sg_ rfl (nn_ (gw_seq (sr_ (mv_ rfl (wl_ov (ov_len es22 rfl) rfl ?_)))))
 refine wl_set 23 (v' := .int .i64 1) rfl rfl ?_
 refine mv_ rfl (nn_ (gw_block ?_))
 refine gw_rounds 3 ?_
 refine gr_next ?_
 refine sr_ (wl_ov (ov_lss rfl rfl) rfl ?_)
 refine wl_set 25 (v' := .bool true) rfl (congrArg Value.bool (by decide)) ?_
 refine nn_ (gw_seq (ct_ rfl (gw_skip (nx_then (gw_seq (gw_block (sr_ (mv_ rfl ?_))))))))
 refine wl_ov (ov_index (j := 0) es22 rfl rfl (by decide)) rfl ?_
 refine lk_ sc3 2 rfl rfl rfl (sg_ rfl (sg_ rfl (nn_ (gw_seq ?_))))
 refine gd (fun wz => Blk wz g2 199 [.string ⟨#[97]⟩, .string ⟨#[99]⟩, .int .i64 0, .int .i64 1, .int .i64 0, .int .i64 50] ∧ Blk wz g1 3 [.int .i64 1] ∧ (SlOld bkEnc 6 199 w.heap.size none (some ⟨b, off, none⟩) 1 [⟨⟨#[97]⟩, ⟨#[99]⟩, 0, 1, 0, 50⟩]) wz ∧ True) mixed (fun _ hm => ⟨hm.bl 1, hm.bl 2, hm.fa 0, trivial⟩) fun z => ?_
 refine wt 0 12 1 rfl z (ov_move rfl) ?_
 refine wt 1 12 3 rfl z (ov_move rfl) ?_
 refine wt 2 12 7 rfl z (ov_index (j := 0) es22 rfl rfl (by decide)) ?_
 refine wt 4 12 23 rfl z (ov_move rfl) ?_
 refine wt 5 12 55 rfl z (ov_field fo199_4 rfl rfl) ?_
 refine wt 6 12 119 rfl z (ov_load sc3 rfl (fun _ hm => hm.1) rfl) ?_
 refine wt 7 12 247 rfl z (ov_sub rfl rfl (by omega) (by omega)) ?_
 refine wa_set 36 (v' := .int .i64 50) rfl rfl ?_
 refine wt 8 12 503 rfl z (ov_mul rfl rfl (by omega) (by omega)) ?_
 refine wa_set 37 (v' := .int .i64 50) rfl rfl ?_
 refine wa1 3 rfl ?_
 refine lk_ sc3 0 rfl rfl rfl (wl_nil ?_)
 refine nw 12 511 (fun _ hm => ⟨hm.bl 1, hm.bl 2, hm.fa 0, trivial⟩) fun z => ?_
 refine wt 9 12 1023 rfl z (ov_add rfl rfl (by omega) (by omega)) ?_
 refine wa_set 38 (v' := .int .i64 50) rfl rfl ?_
 refine wt 10 12 2047 rfl z (ov_index (j := 0) es22 rfl rfl (by decide)) ?_
 refine wa1 11 rfl ?_
 refine wl_store 0 sc3 rfl rfl rfl rfl rfl rfl ?_
 refine wl_nil ?_
 refine nw 12 4095 (fun _ hm => ⟨hm.bl 1, hm.bl 2, hm.fa 0, trivial⟩) fun z => ?_
 refine wa_done (by kernel_rfl) ?_
 refine nx_then ?_
 refine gd (fun wz => Blk wz g2 199 [.string ⟨#[97]⟩, .string ⟨#[99]⟩, .int .i64 0, .int .i64 1, .int .i64 0, .int .i64 50] ∧ Blk wz g1 3 [.int .i64 1] ∧ (SlOld bkEnc 6 199 w.heap.size none (some ⟨b, off, none⟩) 1 [⟨⟨#[97]⟩, ⟨#[99]⟩, 0, 1, 0, 50⟩]) wz ∧ True) mixed (fun _ hm => ⟨hm.bl 1, hm.bl 2, hm.fa 0, trivial⟩) fun z => ?_
 refine wt 0 12 1 rfl z (ov_move rfl) ?_
 refine wt 1 12 3 rfl z (ov_move rfl) ?_
 refine wt 2 12 7 rfl z (ov_add rfl rfl (by omega) (by omega)) ?_
 refine wa_set 42 (v' := .int .i64 1) rfl rfl ?_
 refine wt 3 12 15 rfl z (ov_index (j := 1) es22 rfl rfl (by decide)) ?_
 refine wt 5 12 47 rfl z (ov_move rfl) ?_
 refine wt 6 12 111 rfl z (ov_field fo199_4 rfl rfl) ?_
 refine wt 7 12 239 rfl z (ov_load sc3 rfl (fun _ hm => hm.1) rfl) ?_
 refine wt 8 12 495 rfl z (ov_mul rfl rfl (by omega) (by omega)) ?_
 refine wa_set 48 (v' := .int .i64 50) rfl rfl ?_
 refine wa1 4 rfl ?_
 refine lk_ sc3 0 rfl rfl rfl (wl_nil ?_)
 refine nw 12 511 (fun _ hm => ⟨hm.bl 1, hm.bl 2, hm.fa 0, trivial⟩) fun z => ?_
 refine wt 9 12 1023 rfl z (ov_add rfl rfl (by omega) (by omega)) ?_
 refine wa_set 49 (v' := .int .i64 50) rfl rfl ?_
 refine wt 10 12 2047 rfl z (ov_index (j := 1) es22 rfl rfl (by decide)) ?_
 refine wa1 11 rfl ?_
 refine wl_store 0 sc3 rfl rfl rfl rfl rfl rfl ?_
 refine wl_nil ?_
 refine nw 12 4095 (fun _ hm => ⟨hm.bl 1, hm.bl 2, hm.fa 0, trivial⟩) fun z => ?_
 refine wa_done (by kernel_rfl) ?_
 refine nx_blk_nrm (nx_then (gw_region (ad_ rfl rfl ?_)))
 refine wl_set 51 (v' := .int .i64 1) rfl rfl ?_
 refine mv_ rfl (wl_nil ?_)
 refine nx_next ?_
 refine gr_next ?_
 refine sr_ (wl_ov (ov_lss rfl rfl) rfl ?_)
 refine wl_set 25 (v' := .bool false) rfl (congrArg Value.bool (by decide)) ?_
 refine nn_ (gw_seq (cf_ rfl ?_))
 refine gw_exit ?_
 refine nx_then_exit (nx_then_exit ?_)
 refine nx_blk_here ?_
 refine nx_then (gw_region (mv_ rfl (mv_ rfl ?_)))
 refine wl_ov (ov_mul rfl rfl (by omega) (by omega)) rfl ?_
 refine wl_set 54 (v' := .int .i64 100) rfl rfl ?_
 refine sg_ rfl (sg_ rfl (wl_nil (nx_blk_nrm (nx_then (gw_region (ad_ rfl rfl ?_))))))
 refine wl_set 55 (v' := .int .i64 1) rfl rfl ?_
 refine mv_ rfl (wl_nil ?_)
 refine nx_next ?_
 refine gr_next ?_
 refine sr_ (wl_ov (ov_lss rfl rfl) rfl ?_)
 refine wl_set 15 (v' := .bool false) rfl (congrArg Value.bool (by decide)) ?_
 refine nn_ (gw_seq (cf_ rfl ?_))
 refine gw_exit ?_
 refine nx_then_exit (nx_then_exit ?_)
 refine nx_blk_here ?_
 refine nx_then (sr_ (mv_ rfl (mv_ rfl (sg_ rfl (sg_ rfl (nn_ ?_))))))
 refine gw_ret ?_
 refine nx_ret2 rfl rfl rfl fun wx hm => ?_
 exact ⟨_, 2, rfl, hm.g, hm.rowOf 0 rfl rfl (by decide)⟩
end Go.Proofs.YtnpcbfllnkiopaaGreatDoor
namespace Go.Proofs.YtnpcbfllnkiopaaGreatDoor
open Go.RowKit
set_option maxRecDepth 100000 in
theorem same_fraction_neq (x0 : Int) (x1 : Int) (w : World) : (binOp .neq 212 (.agg #[.int .i64 x0, .int .i64 x1]) (.agg #[.int .i64 x0, .int .i64 x1])).run Tryz.prog w = .ok (.bool false) w := by
  have hS : Tryz.prog.underlying 212 = some (.struct (Tryz.prog.fieldsOf 212)) := by kernel_rfl
  have hp : Tryz.prog.stoodInHeld 212 = false := by kernel_rfl
  rw [run_neq_struct, show (10000 : Nat) = 9999 + 1 from rfl, run_equalIn_agg w 9999 212 _ _ hS hp]
  simp only [Program.fieldsOf, Tryz.underlying212]
  have u3 := Tryz.underlying3
  clear hS hp
  go_simp
theorem guard_fraction : Tryz.prog.eqGuardType Tryz.prog.depth 212 = false := by kernel_rfl
theorem equal_fraction_any (l : List Fr) (A1 A2 : Option Addr) (n c1 c2 : Nat) (w : World) (h1 : SlT frEnc 2 212 w A1 n l) (h2 : SlT frEnc 2 212 w A2 n l) (hn : n ≤ 1000000) :
  Calls Tryz.prog 158 #[.slice A1 n c1, .slice A2 n c2] w (fun e w' => e = .returned (.bool true) ∧ w.grownBy w' none) := by
 refine gw_enter ⟨26, w, none, []⟩ Tryz.func158 rfl Tryz.ntmps158 rfl (mem0 (X := [SlOld frEnc 2 212 w.heap.size none A1 n l, SlOld frEnc 2 212 w.heap.size none A2 n l]) (allF_cons h1.old (allF_cons h2.old allF_nil)) (allL_cons SlOld.lasts (allL_cons SlOld.lasts allL_nil))) ?_
 refine sr_ ?_
 have hlen := h1.len
 refine sg_ rfl (nn_ (gw_seq (sr_ (mv_ rfl (wl_ov (ov_len es207 rfl) rfl (mv_ rfl (wl_ov (ov_len es207 rfl) rfl (wl_ov (ov_neq rfl rfl) rfl ?_))))))))
 refine wl_set 10 (v' := .bool false) rfl (congrArg Value.bool (by simp)) ?_
 refine nn_ (cf_ rfl (gw_skip (nx_then (gw_seq (sr_ (mv_ rfl (wl_ov (ov_len es207 rfl) rfl (mv_ rfl (nn_ (gw_block ?_))))))))))
 refine gw_loop (γ := Nat) (fun (k : Nat) => k ≤ n) (fun (k : Nat) => [(0, .slice A1 n c1), (1, .slice A2 n c2), (12, .int .i64 ((n : Nat) : Int)), (13, .int .i64 ((k : Nat) : Int))]) (fun (k : Nat) => fun _ => True) (fun (k : Nat) => []) (fun (k : Nat) => []) (fun (k : Nat) => [SlOld frEnc 2 212 w.heap.size none A1 n l, SlOld frEnc 2 212 w.heap.size none A2 n l]) (fun (k : Nat) => n - k) 0 (Nat.zero_le _) ⟨rfl, rfl, rfl, rfl, trivial⟩ (fun _ hm => hm.pick [] [] [0, 1] rfl rfl) ?_
 intro k hinv
 replace hinv : k ≤ n := hinv
 refine sr_ (wl_ov (ov_lss rfl rfl) rfl (nn_ (gw_seq ?_)))
 refine gw_cond rfl (fun hh => ?_) (fun hh => ?_)
 ·have hk : ((k : Nat) : Int) < ((n : Nat) : Int) := by simpa using hh
  clear hh
  refine gw_skip (nx_then (gw_seq (gw_block (sr_ ?_))))
  obtain ⟨b1, o1, hA, _, _⟩ := h1.get (by omega)
  subst hA
  obtain ⟨b2, o2, hA, _, _⟩ := h2.get (by omega)
  subst hA
  obtain ⟨x, hx⟩ : ∃ x, l[k]? = some x := ⟨_, List.getElem?_eq_getElem (by omega)⟩
  obtain ⟨x0, x1⟩ := x
  refine mv_ rfl (sg_ rfl (nn_ (gw_seq ?_)))
  refine gd (fun wz => (SlOld frEnc 2 212 w.heap.size none (some ⟨b1, o1, none⟩) n l) wz ∧ (SlOld frEnc 2 212 w.heap.size none (some ⟨b2, o2, none⟩) n l) wz ∧ True) mixed (fun _ hm => ⟨hm.fa 0, hm.fa 1, trivial⟩) fun z => ?_
  refine wt 0 9 1 rfl z (ov_move rfl) ?_
  refine wt 1 9 3 rfl z (ov_move rfl) ?_
  refine wt 2 9 7 rfl z (ov_index (j := k) es207 rfl rfl (by omega)) ?_
  refine wt 3 9 15 rfl z (ov_elem (vs := [.int .i64 x0, .int .i64 x1]) rz212 rfl (fun _ hm => (hm.1).1) hx rfl rfl) ?_
  refine wt 4 9 31 rfl z (ov_move rfl) ?_
  refine wt 5 9 63 rfl z (ov_move rfl) ?_
  refine wt 6 9 127 rfl z (ov_index (j := k) es207 rfl rfl (by omega)) ?_
  refine wt 7 9 255 rfl z (ov_elem (vs := [.int .i64 x0, .int .i64 x1]) rz212 rfl (fun _ hm => (hm.2.1).1) hx rfl rfl) ?_
  refine wt 8 9 511 rfl z (ov_bin rfl rfl (cmp_agg guard_fraction (fun wx => same_fraction_neq x0 x1 wx))) ?_
  refine wa_done (by kernel_rfl) ?_
  refine nx_then (cf_ rfl (gw_skip (nx_blk_nrm (nx_then (gw_region (ad_ rfl rfl (mv_ rfl (wl_nil ?_))))))))
  exact nx_round (k + 1) (by omega) (by omega) ⟨rfl, rfl, rfl, (some_int (by omega)), trivial⟩ (fun _ hm => hm.pick [] [] [0, 1] rfl rfl)
 have hk : ¬ (((k : Nat) : Int) < ((n : Nat) : Int)) := by simpa using hh
 clear hh
 refine gw_exit ?_
 refine nx_then_exit (nx_then_exit ?_)
 refine nx_blk_here ?_
 refine nx_then (sr_ (sg_ rfl (nn_ ?_)))
 refine gw_ret ?_
 refine nx_ret1 rfl rfl fun wx hm => ?_
 exact ⟨rfl, hm.g⟩
def inEnc (z : Int) : List Value := [.int .i64 z]
theorem in_len (z : Int) : (inEnc z).length = 1 := rfl
theorem one_ok : ∀ b ∈ [(⟨⟨#[97]⟩, ⟨#[99]⟩, 0, 1, 0, 50⟩ : Bk)], BkOk b := fun b hb => by
  rw [List.mem_singleton.1 hb]; exact ⟨by decide, by decide⟩
theorem one_zero : oddsE [⟨⟨#[97]⟩, ⟨#[99]⟩, 0, 1, 0, 50⟩] = 0 := by decide +kernel
theorem lowF_50 : lowF 50 100 = ⟨1, 2⟩ := by simp [lowF]
theorem bspread_one (A : Option Addr) (c : Nat) (w : World) (hl : SlT bkEnc 6 199 w A 1 [⟨⟨#[97]⟩, ⟨#[99]⟩, 0, 1, 0, 50⟩]) :
  Calls Tryz.prog 157 #[.slice A 1 c] w (fun e w' => ∃ A2 c2, e = .returned (.tuple #[.slice A2 2 c2, .int .i64 0]) ∧ w.grownBy w' none ∧ SlT frEnc 2 212 w' A2 2 [⟨1, 2⟩, ⟨1, 2⟩]) := by
 refine gw_enter ⟨34, w, none, []⟩ Tryz.func157 rfl Tryz.ntmps157 rfl (mem0 (X := [SlOld bkEnc 6 199 w.heap.size none A 1 [⟨⟨#[97]⟩, ⟨#[99]⟩, 0, 1, 0, 50⟩]]) (allF_cons hl.old allF_nil) (allL_cons SlOld.lasts allL_nil)) ?_
 refine sr_ (sg_ rfl (sg_ rfl (nn_ (gw_seq (sr_ (mv_ rfl ?_))))))
 refine wl_callv (v := .int .i64 0) rfl cb232 rfl rfl (fun wx hm => (by rw [← one_zero]; exact checkOdds_any [⟨⟨#[97]⟩, ⟨#[99]⟩, 0, 1, 0, 50⟩] A 1 c wx (hm.fact 0 rfl).1 one_ok (by omega))) ?_
 refine sg_ rfl (nn_ (sr_ (mv_ rfl (wl_ov (ov_neq rfl rfl) rfl ?_))))
 refine wl_set 13 (v' := .bool false) rfl (congrArg Value.bool (by decide)) ?_
 refine nn_ (cf_ rfl (gw_skip (nx_then (sr_ (mv_ rfl ?_)))))
 refine wl_callgo (γ := Option Addr × Nat) (val := (fun g => .tuple #[.slice g.1 2 g.2, .int .i64 100])) (φ := (fun g => True)) (fun g => ⟨.slice g.1 2 g.2, 3, 1, 2, [.int .i64 50, .int .i64 50]⟩) rfl cb233 rfl rfl (fun wx hm => (spread_one A c wx (hm.fact 0 rfl).1).mono fun _ _ ⟨A2, c2, he, hg, ho⟩ => ⟨(A2, c2), he, trivial, ho, hg⟩) ?_
 rintro ⟨A2, c2⟩ hphi
 dsimp only at hphi ⊢
 clear hphi
 refine wl_look (R := ∃ g, A2 = some ⟨g, 0, none⟩) (fun wx hm => own_addr (hm.ownI 0 rfl) (by omega)) ?_
 rintro ⟨b2, rfl⟩
 refine wl_nilOwn 212 2 ?_
 refine mv_ rfl (wl_ov (ov_extract rfl rfl) rfl (wl_ov (ov_extract rfl rfl) rfl (sg_ rfl (sg_ rfl (nn_ (sr_ (sg_ rfl (nn_ (gw_seq (gw_seq ?_))))))))))
 refine gw_region (mv_ rfl (wl_ov (ov_len es22 rfl) rfl ?_))
 refine wl_set 21 (v' := .int .i64 2) rfl rfl ?_
 refine mv_ rfl (nn_ (gw_block ?_))
 refine gw_rounds 4 ?_
 refine gr_next ?_
 refine sr_ (wl_ov (ov_lss rfl rfl) rfl ?_)
 refine wl_set 23 (v' := .bool true) rfl (congrArg Value.bool (by decide)) ?_
 refine nn_ (gw_seq (ct_ rfl (gw_skip (nx_then (gw_seq (gw_block (sr_ ?_)))))))
 refine wl_ov (ov_index (j := 0) es22 rfl rfl (by decide)) rfl ?_
 refine wl_ov (ov_elem1 (k := 0) (v := .int .i64 50) sc3 rfl (fun _ hm => (SlT.ofOwn (l := [50, 50]) in_len (hm.ownI 1 rfl) rfl)) (rfl : [(50 : Int), 50][0]? = some 50) rfl rfl) rfl ?_
 refine sg_ rfl (nn_ (gw_region (mv_ rfl (mv_ rfl (mv_ rfl ?_)))))
 refine wl_callv (v := .agg #[.int .i64 1, .int .i64 2]) rfl cb234 rfl rfl (fun wx hm => (by have h := lowest_any 50 100 wx (by omega) (by omega) (by omega); rw [lowF_50] at h; exact h)) ?_
 refine wl_buildSlice (e := 212) (cs := [.int .i64 1, .int .i64 2]) rfl (by kernel_rfl) rfl fun g1 => ?_
 refine wl_append (news := [.int .i64 1, .int .i64 2]) 0 0 ap207 rfl rfl rfl rfl rfl rfl rfl (by decide) (by decide) rfl rfl fun v1 hv1 => ?_
 refine sg_ rfl (wl_nil (nx_blk_nrm (nx_then (gw_region (ad_ rfl rfl ?_)))))
 refine wl_set 32 (v' := .int .i64 1) rfl rfl ?_
 refine mv_ rfl (wl_nil ?_)
 refine nx_next ?_
 refine gr_next ?_
 refine sr_ (wl_ov (ov_lss rfl rfl) rfl ?_)
 refine wl_set 23 (v' := .bool true) rfl (congrArg Value.bool (by decide)) ?_
 refine nn_ (gw_seq (ct_ rfl (gw_skip (nx_then (gw_seq (gw_block (sr_ ?_)))))))
 refine wl_ov (ov_index (j := 1) es22 rfl rfl (by decide)) rfl ?_
 refine wl_ov (ov_elem1 (k := 0) (v := .int .i64 50) sc3 rfl (fun _ hm => (SlT.ofOwn (l := [50, 50]) in_len (hm.ownI 1 rfl) rfl)) (rfl : [(50 : Int), 50][1]? = some 50) rfl rfl) rfl ?_
 refine sg_ rfl (nn_ (gw_region (mv_ rfl (mv_ rfl (mv_ rfl ?_)))))
 refine wl_callv (v := .agg #[.int .i64 1, .int .i64 2]) rfl cb234 rfl rfl (fun wx hm => (by have h := lowest_any 50 100 wx (by omega) (by omega) (by omega); rw [lowF_50] at h; exact h)) ?_
 refine wl_buildSlice (e := 212) (cs := [.int .i64 1, .int .i64 2]) rfl (by kernel_rfl) rfl fun g2 => ?_
 refine wl_append (news := [.int .i64 1, .int .i64 2]) 0 0 ap207 rfl rfl rfl rfl rfl rfl rfl (by decide) (by decide) rfl rfl fun v2 hv2 => ?_
 refine sg_ rfl (wl_nil (nx_blk_nrm (nx_then (gw_region (ad_ rfl rfl ?_)))))
 refine wl_set 32 (v' := .int .i64 2) rfl rfl ?_
 refine mv_ rfl (wl_nil ?_)
 refine nx_next ?_
 refine gr_next ?_
 refine sr_ (wl_ov (ov_lss rfl rfl) rfl ?_)
 refine wl_set 23 (v' := .bool false) rfl (congrArg Value.bool (by decide)) ?_
 refine nn_ (gw_seq (cf_ rfl ?_))
 refine gw_exit ?_
 refine nx_then_exit (nx_then_exit ?_)
 refine nx_blk_here ?_
 refine nx_then (sr_ (mv_ rfl (sg_ rfl (sg_ rfl (nn_ ?_)))))
 refine gw_ret ?_
 refine nx_look (R := ∃ A cc, v2 = .slice A (0 + 1 + 1) cc) (fun wx hm => own_slice (hm.ownI 0 rfl)) ?_
 rintro ⟨A3, c3, rfl⟩
 refine nx_ret2 rfl rfl rfl fun wx hm => ?_
 exact ⟨A3, c3, rfl, hm.g, SlT.ofOwn (l := [⟨1, 2⟩, ⟨1, 2⟩]) fr_len (hm.ownI 0 rfl) rfl⟩
theorem booked_any (w : World) : Calls Tryz.prog 54 #[] w (fun e w' => e = .returned (.bool true) ∧ w.grownBy w' none) := by
 refine gw_enter ⟨19, w, none, [212]⟩ Tryz.func54 rfl Tryz.ntmps54 rfl (mem0 (X := []) allF_nil allL_nil) ?_
 refine sr_ (sg_ rfl (nn_ (sr_ ?_)))
 refine wl_ov (ov_build (cs := [.int .i64 0, .int .i64 1]) rfl (by kernel_rfl)) rfl ?_
 refine wl_ov (ov_build (cs := [.string ⟨#[97]⟩, .string ⟨#[99]⟩, .int .i64 0, .int .i64 1, .int .i64 0, .int .i64 50]) rfl (by kernel_rfl)) rfl ?_
 refine wl_buildSlice (e := 199) (cs := [.string ⟨#[97]⟩, .string ⟨#[99]⟩, .int .i64 0, .int .i64 1, .int .i64 0, .int .i64 50]) rfl (by kernel_rfl) rfl fun g1 => ?_
 refine wl_callx (γ := Option Addr × Nat) (val := (fun g => .tuple #[.slice g.1 2 g.2, .int .i64 0])) (φ := (fun g => True)) (Y := (fun g => fun wy => SlT frEnc 2 212 wy g.1 2 [⟨1, 2⟩, ⟨1, 2⟩])) rfl cb157 rfl rfl (fun wx hm => (bspread_one _ _ wx (SlT.ofBlk (l := [⟨⟨#[97]⟩, ⟨#[99]⟩, 0, 1, 0, 50⟩]) bk_len (hm.blkI 0 rfl))).mono fun _ _ ⟨A2, c2, he, hg, hs⟩ => ⟨(A2, c2), he, trivial, hg, hs⟩) (fun _ => SlT.lasts2 rfl) ?_
 rintro ⟨A2, c2⟩ hphi
 dsimp only
 clear hphi
 refine mv_ rfl (wl_ov (ov_extract rfl rfl) rfl (wl_ov (ov_extract rfl rfl) rfl (sg_ rfl (sg_ rfl (nn_ (sr_ (mv_ rfl (wl_ov (ov_eql rfl rfl) rfl ?_))))))))
 refine wl_set 11 (v' := .bool true) rfl (congrArg Value.bool (by decide)) ?_
 refine mv_ rfl (wl_guard_on rfl rfl rfl (mv_ rfl (wl_guard_on rfl rfl rfl ?_)))
 refine wl_ov (ov_build (cs := [.int .i64 1, .int .i64 2]) rfl (by kernel_rfl)) rfl ?_
 refine wl_guard_on rfl rfl rfl ?_
 refine wl_ov (ov_build (cs := [.int .i64 1, .int .i64 2]) rfl (by kernel_rfl)) rfl ?_
 refine wl_guard_on rfl rfl rfl ?_
 refine wl_buildSlice (e := 212) (cs := [.int .i64 1, .int .i64 2, .int .i64 1, .int .i64 2]) rfl (by kernel_rfl) rfl fun g2 => ?_
 refine wl_guard_on rfl rfl rfl ?_
 refine wl_callv rfl cb158 rfl rfl (fun wx hm => (equal_fraction_any [⟨1, 2⟩, ⟨1, 2⟩] A2 _ 2 c2 2 wx (hm.fact 0 rfl) (SlT.ofBlk (l := [⟨1, 2⟩, ⟨1, 2⟩]) fr_len (hm.blkI 0 rfl)) (by omega))) ?_
 refine pt_ rfl rfl (sg_ rfl (nn_ ?_))
 refine gw_ret ?_
 refine nx_ret1 rfl rfl fun wx hm => ?_
 exact ⟨rfl, hm.g⟩
end Go.Proofs.YtnpcbfllnkiopaaGreatDoor
namespace Go.Proofs.YtnpcbfllnkiopaaGreatDoor
open Go.RowKit
theorem sk_snoc {l : List Sk} {x : Sk} (h : ∀ y ∈ l, SkOk y) (hx : SkOk x) : ∀ y ∈ l ++ [x], SkOk y := fun y hy => by
  rcases List.mem_append.1 hy with hy | hy
  · exact h y hy
  · rw [List.mem_singleton.1 hy]; exact hx
theorem gstock_any (w : World) (B sb m : Nat) (hS : Strm 25 w B sb m) (hm : m ≤ 100000000) :
  Calls Tryz.prog 136 #[.pointer (some ⟨sb, 0, none⟩)] w (fun e w' => ∃ (A : Option Addr) (n c : Nat) (l : List Sk), e = .returned (.slice A n c) ∧ w'.ownsRow w.heap.size 254 2 (.slice A n c) n (l.flatMap skEnc) ∧ l.length = n ∧ (∀ x ∈ l, SkOk x) ∧ n ≤ 5 ∧ Strm 25 w' B sb (m + 100) ∧ w.grownBy w' (some sb)) := by
 refine gw_enter ⟨36, w, (some sb), []⟩ Tryz.func136 rfl Tryz.ntmps136 rfl (memS (X := []) hS allF_nil allL_nil) ?_
 refine sr_ ?_
 refine wl_nilOwn 254 2 ?_
 refine sg_ rfl (nn_ (sr_ (sg_ rfl (nn_ (gw_seq (sr_ ?_))))))
 refine wl_buildSlice (e := 9) (cs := [.string ⟨#[98, 105, 103]⟩, .string ⟨#[109, 97, 120, 105]⟩, .string ⟨#[109, 105, 100, 105]⟩, .string ⟨#[109, 105, 110, 105]⟩]) rfl (by kernel_rfl) rfl fun g1 => ?_
 refine wl_ov (ov_len es112 rfl) rfl ?_
 refine wl_set 7 (v' := .int .i64 4) rfl rfl ?_
 refine mv_ rfl (nn_ (gw_block ?_))
 refine gw_loop (γ := Nat × Nat × Value × List Sk × List Value) (fun g => g.1 ≤ 4 ∧ g.2.1 ≤ g.1 ∧ g.2.2.2.1.length = g.2.1 ∧ (∀ x ∈ g.2.2.2.1, SkOk x) ∧ g.2.2.2.2 = g.2.2.2.1.flatMap skEnc) (fun g => [(0, .pointer (some ⟨sb, 0, none⟩)), (2, .slice none 0 0), (3, g.2.2.1), (6, .slice (some ⟨g1, 0, none⟩) 4 4), (7, .int .i64 4), (8, .int .i64 ((g.1 : Nat) : Int))]) (fun g => fun w => Strm 25 w B sb (m + 2 * g.1)) (fun g => [(g1, 9, [.string ⟨#[98, 105, 103]⟩, .string ⟨#[109, 97, 120, 105]⟩, .string ⟨#[109, 105, 100, 105]⟩, .string ⟨#[109, 105, 110, 105]⟩])]) (fun g => [⟨g.2.2.1, 254, 2, g.2.1, g.2.2.2.2⟩]) (fun g => []) (fun g => 4 - g.1) (0, 0, .slice none 0 0, [], []) ⟨Nat.zero_le _, Nat.le_refl _, rfl, (fun _ h => by cases h), rfl⟩ ⟨rfl, rfl, rfl, rfl, rfl, rfl, trivial⟩ (fun _ hm => (hm.more rfl (by first | omega | (dsimp only; omega))).pick [0] [0] [] rfl rfl) ?_
 rintro ⟨i, k, v, l, xs⟩ hinv
 replace hinv : i ≤ 4 ∧ k ≤ i ∧ l.length = k ∧ (∀ x ∈ l, SkOk x) ∧ xs = l.flatMap skEnc := hinv
 dsimp only
 refine sr_ ?_
 obtain ⟨hi0, hki, hl, hok, rfl⟩ := hinv
 refine wl_ov (ov_lss rfl rfl) rfl (nn_ (gw_seq ?_))
 refine gw_cond rfl (fun hh => ?_) (fun hh => ?_)
 ·have hi : ((i : Nat) : Int) < 4 := by simpa using hh
  clear hh
  refine gw_skip (nx_then (gw_seq (gw_block (sr_ ?_))))
  obtain ⟨nm, hx⟩ : ∃ x, ([⟨#[98, 105, 103]⟩, ⟨#[109, 97, 120, 105]⟩, ⟨#[109, 105, 100, 105]⟩, ⟨#[109, 105, 110, 105]⟩] : List ByteArray)[i]? = some x := ⟨_, List.getElem?_eq_getElem (by simp; omega)⟩
  have hnm : nm.size ≤ 100 := mem_sz (List.mem_of_getElem? hx) (by decide)
  refine wl_ov (ov_index (j := i) es112 rfl rfl (by omega)) rfl ?_
  refine wl_ov (ov_elem1 (k := 0) (v := .string nm) sc9 rfl (fun _ hm => (SlT.ofBlk (l := [⟨#[98, 105, 103]⟩, ⟨#[109, 97, 120, 105]⟩, ⟨#[109, 105, 100, 105]⟩, ⟨#[109, 105, 110, 105]⟩]) sg_len (hm.blkI 0 rfl))) hx rfl rfl) rfl ?_
  refine sg_ rfl (nn_ (sr_ (mv_ rfl ?_)))
  refine wl_got (γ := Bool) (val := fun v => .bool v) (φ := fun v => True) rfl cb25 rfl rfl rfl rfl (fun wx hm => ((flip_any _ wx B sb _ hm.k (by omega) (by omega) (by omega)).mono fun _ _ ⟨v, he, hS, hg⟩ => ⟨v, trivial, he, hS, hg⟩)) fun f2 _ => ?_
  refine wl_ov (ov_un_not rfl) rfl (nn_ ?_)
  refine gw_cond rfl (fun hh => ?_) (fun hh => ?_)
  ·have hf : f2 = false := by simpa using hh
   clear hh
   refine gw_region (mv_ rfl (mv_ rfl (mv_ rfl ?_)))
   refine wl_buildSlice (e := 3) (cs := [.int .i64 0, .int .i64 1, .int .i64 1, .int .i64 2, .int .i64 3]) rfl (by kernel_rfl) rfl fun g3 => ?_
   refine wl_got (γ := Int) (val := fun v => .int .i64 v) (φ := fun v => v ∈ ([0, 1, 1, 2, 3] : List Int)) rfl cb34 rfl rfl rfl rfl (fun wx hm => (pick_any [0, 1, 1, 2, 3] _ _ _ wx B sb _ hm.k (by omega) (by simp) (by simp) (hm.blkI 0 rfl) (hm.neRow 0 rfl rfl))) fun v4 hv4 => ?_
   have bv4 : 0 ≤ v4 ∧ v4 ≤ 3 := mem_rng hv4 (by decide)
   have bv40 := bv4.1
   have bv41 := bv4.2
   clear bv4
   refine wl_ov (ov_build (cs := [.string nm, .int .i64 v4]) rfl (by kernel_rfl)) rfl ?_
   refine wl_buildSlice (e := 254) (cs := [.string nm, .int .i64 v4]) rfl (by kernel_rfl) rfl fun g5 => ?_
   refine wl_append (news := [.string nm, .int .i64 v4]) 0 0 ap83 rfl rfl rfl rfl rfl rfl rfl (by omega) (by unfold maxLen; omega) rfl rfl fun v2 hv2 => ?_
   refine sg_ rfl (wl_nil (nx_blk_nrm (nx_then (gw_region (ad_ rfl rfl (mv_ rfl (wl_nil ?_)))))))
   exact nx_round (i + 1, k + 1, v2, l ++ [⟨nm, v4⟩], l.flatMap skEnc ++ ([.string nm, .int .i64 v4] : List Value)) ⟨by dsimp only; omega, by dsimp only; omega, by simp [hl], sk_snoc hok ⟨by dsimp only; omega, by dsimp only; omega, by dsimp only; omega⟩, by simp [skEnc]⟩ (by dsimp only; omega) ⟨rfl, rfl, rfl, rfl, rfl, (some_int (by omega)), trivial⟩ (fun _ hm => (hm.more rfl (by first | omega | (dsimp only; omega))).pick [2] [0] [] rfl rfl)
  have hf : f2 = true := by simpa using hh
  clear hh
  refine gw_skip (nx_blk_nrm (nx_then (gw_region (ad_ rfl rfl (mv_ rfl (wl_nil ?_))))))
  exact nx_round (i + 1, k, v, l, l.flatMap skEnc) ⟨by dsimp only; omega, by dsimp only; omega, hl, hok, rfl⟩ (by dsimp only; omega) ⟨rfl, rfl, rfl, rfl, rfl, (some_int (by omega)), trivial⟩ (fun _ hm => (hm.more rfl (by first | omega | (dsimp only; omega))).pick [0] [0] [] rfl rfl)
 have hi : ¬ (((i : Nat) : Int) < 4) := by simpa using hh
 clear hh
 refine gw_exit ?_
 refine nx_then_exit (nx_then_exit ?_)
 refine nx_blk_here ?_
 refine nx_then (gw_seq (sr_ (mv_ rfl ?_)))
 refine wl_got (γ := Bool) (val := fun v => .bool v) (φ := fun v => True) rfl cb25 rfl rfl rfl rfl (fun wx hm => ((flip_any _ wx B sb _ hm.k (by omega) (by omega) (by omega)).mono fun _ _ ⟨v, he, hS, hg⟩ => ⟨v, trivial, he, hS, hg⟩)) fun f6 _ => ?_
 refine nn_ ?_
 refine gw_cond rfl (fun hh => ?_) (fun hh => ?_)
 ·have hf : f6 = true := by simpa using hh
  clear hh
  refine gw_region (mv_ rfl (mv_ rfl ?_))
  refine wl_buildSlice (e := 9) (cs := [.string ⟨#[109, 105, 110, 105]⟩, .string ⟨#[110, 111, 110, 101]⟩, .string ⟨#[98, 105, 103]⟩]) rfl (by kernel_rfl) rfl fun g7 => ?_
  refine wl_got (γ := ByteArray) (val := fun v => .string v) (φ := fun v => v ∈ ([⟨#[109, 105, 110, 105]⟩, ⟨#[110, 111, 110, 101]⟩, ⟨#[98, 105, 103]⟩] : List ByteArray)) rfl cb57 rfl rfl rfl rfl (fun wx hm => (some_any [⟨#[109, 105, 110, 105]⟩, ⟨#[110, 111, 110, 101]⟩, ⟨#[98, 105, 103]⟩] _ _ _ wx B sb _ hm.k (by omega) (by simp) (by simp) (hm.blkI 0 rfl) (hm.neRow 0 rfl rfl))) fun s8 hs8 => ?_
  have zs8 : s8.size ≤ 100 := mem_sz hs8 (by decide)
  refine mv_ rfl ?_
  refine wl_got (γ := Int) (val := fun v => .int .i64 v) (φ := fun v => -2000000000000000 ≤ v ∧ v ≤ 2000000000000000) rfl cb58 rfl rfl rfl rfl (fun wx hm => (odd_any _ _ wx B sb _ hm.k (by omega) (by omega) (by omega) (by omega))) fun v9 hv9 => ?_
  refine wl_ov (ov_build (cs := [.string s8, .int .i64 v9]) rfl (by kernel_rfl)) rfl ?_
  refine wl_buildSlice (e := 254) (cs := [.string s8, .int .i64 v9]) rfl (by kernel_rfl) rfl fun g10 => ?_
  refine wl_append (news := [.string s8, .int .i64 v9]) 0 0 ap83 rfl rfl rfl rfl rfl rfl rfl (by omega) (by unfold maxLen; omega) rfl rfl fun v2 hv2 => ?_
  refine wl_look (R := ∃ A cc, v2 = .slice A (k + 1) cc) (fun wx hm => own_slice (hm.ownI 0 rfl)) ?_
  rintro ⟨A, c, rfl⟩
  refine sg_ rfl (nn_ (sr_ (mv_ rfl (sg_ rfl (nn_ ?_)))))
  refine gw_ret ?_
  refine nx_ret1 rfl rfl fun wx hm => ?_
  exact ⟨A, k + 1, c, l ++ [⟨s8, v9⟩], rfl, by have h := hm.ownI 0 rfl; simpa [skEnc] using h, by simp [hl], sk_snoc hok ⟨by dsimp only; omega, by dsimp only; omega, by dsimp only; omega⟩, by omega, hm.k.more (by omega), hm.g⟩
 have hf : f6 = false := by simpa using hh
 clear hh
 refine gw_skip (nx_then (sr_ ?_))
 refine wl_look (R := ∃ A cc, v = .slice A k cc) (fun wx hm => own_slice (hm.ownI 0 rfl)) ?_
 rintro ⟨A, c, rfl⟩
 refine mv_ rfl (sg_ rfl (nn_ ?_))
 refine gw_ret ?_
 refine nx_ret1 rfl rfl fun wx hm => ?_
 exact ⟨A, k, c, l, rfl, by have h := hm.ownI 0 rfl; simpa [skEnc] using h, hl, hok, by omega, hm.k.more (by omega), hm.g⟩
theorem counterOf_any (q : Nat) (w : World) (B sb m : Nat) (hS : Strm 25 w B sb m) (hm : m ≤ 10000000) (hq : q ≤ 9) :
  Calls Tryz.prog 47 #[.pointer (some ⟨sb, 0, none⟩), .int .i64 ((q : Nat) : Int)] w (fun e w' => ∃ (A0 : Option Addr) (c0 : Nat) (cs : List Cs) (A1 : Option Addr) (n1 c1 : Nat) (sl : List Sk) (A : Option Addr) (n c : Nat) (l : List Bk), e = .returned (.agg #[.slice A0 4 c0, .slice A1 n1 c1, .slice A n c, .int .i64 (stockE cs sl), .int .i64 (checkE cs l)]) ∧ SlT csEnc 2 170 w' A0 4 cs ∧ SlT skEnc 2 254 w' A1 n1 sl ∧ SlT bkEnc 6 199 w' A n l ∧ (∀ x ∈ cs, CsOk x) ∧ (∀ x ∈ sl, SkOk x) ∧ (∀ x ∈ l, BkOk x) ∧ n1 ≤ 5 ∧ n ≤ 9 ∧ Strm 25 w' B sb (m + 2000) ∧ w.grownBy w' (some sb)) := by
 refine gw_enter ⟨27, w, (some sb), []⟩ Tryz.func47 rfl Tryz.ntmps47 rfl (memS (X := []) hS allF_nil allL_nil) ?_
 refine sr_ ?_
 refine wl_alloc zc86 rfl fun g1 => ?_
 refine nn_ (sr_ (mv_ rfl ?_))
 refine wl_callgs (γ := Option Addr × Nat × List Cs) (val := (fun g => .slice g.1 4 g.2.1)) (φ := (fun g => g.2.2.length = 4 ∧ (∀ x ∈ g.2.2, CsOk x))) (m' := m + 40) (fun g => ⟨.slice g.1 4 g.2.1, 170, 2, 4, g.2.2.flatMap csEnc⟩) rfl cb125 rfl rfl rfl rfl (fun wx hm => (ganyClasses_any wx B sb _ hm.k (by omega)).mono fun _ _ ⟨A0, c0, cs, he, ho, hl, hok, hS, hg⟩ => ⟨(A0, c0, cs), he, ⟨hl, hok⟩, hS, hg, ho⟩) ?_
 rintro ⟨A0, c0, cs⟩ hcs
 dsimp only at hcs ⊢
 obtain ⟨hc4, hco⟩ := hcs
 refine mv_ rfl ?_
 refine wl_callgs (γ := Option Addr × Nat × Nat × List Sk) (val := (fun g => .slice g.1 g.2.1 g.2.2.1)) (φ := (fun g => g.2.2.2.length = g.2.1 ∧ (∀ x ∈ g.2.2.2, SkOk x) ∧ g.2.1 ≤ 5)) (m' := m + 40 + 100) (fun g => ⟨.slice g.1 g.2.1 g.2.2.1, 254, 2, g.2.1, g.2.2.2.flatMap skEnc⟩) rfl cb136 rfl rfl rfl rfl (fun wx hm => (gstock_any wx B sb _ hm.k (by omega)).mono fun _ _ ⟨A1, n1, c1, sl, he, ho, hl, hok, hn, hS, hg⟩ => ⟨(A1, n1, c1, sl), he, ⟨hl, hok, hn⟩, hS, hg, ho⟩) ?_
 rintro ⟨A1, n1, c1, sl⟩ hss
 dsimp only at hss ⊢
 obtain ⟨hs1, hso, hn5⟩ := hss
 refine mv_ rfl (mv_ rfl ?_)
 refine wl_callgs (γ := Option Addr × Nat × Nat × List Bk) (val := (fun g => .slice g.1 g.2.1 g.2.2.1)) (φ := (fun g => (∀ b ∈ g.2.2.2, BkOk b) ∧ g.2.1 ≤ 9 ∧ g.2.2.2.length = g.2.1)) (m' := m + 40 + 100 + 1000) (fun g => ⟨.slice g.1 g.2.1 g.2.2.1, 199, 6, g.2.1, g.2.2.2.flatMap bkEnc⟩) rfl cb137 rfl rfl rfl rfl (fun wx hm => (gbookings_own q wx B sb _ hm.k (by omega) hq).mono fun _ _ ⟨A, n, c, l, he, ho, hl, hok, hn, hnc, hS, hg⟩ => ⟨(A, n, c, l), he, ⟨hok, hn, hl⟩, hS, hg, ho⟩) ?_
 rintro ⟨A, n, c, l⟩ hbb
 dsimp only at hbb ⊢
 obtain ⟨hok, hn9, hlen⟩ := hbb
 obtain ⟨SE, hSE⟩ : ∃ E, E = stockE cs sl := ⟨_, rfl⟩
 obtain ⟨KE, hKE⟩ : ∃ E, E = checkE cs l := ⟨_, rfl⟩
 refine wl_ov (ov_build (cs := [.slice A0 4 c0, .slice A1 n1 c1, .slice A n c, .int .i64 0, .int .i64 0]) rfl (by kernel_rfl)) rfl ?_
 refine wl_alloc zc86 rfl fun g2 => ?_
 refine wl_stores (cs' := [.slice A0 4 c0, .slice A1 n1 c1, .slice A n c, .int .i64 0, .int .i64 0]) 0 rz86 rfl rfl rfl rfl rfl rfl rfl rfl ?_
 refine nn_ (gw_seq ?_)
 refine gd (fun wz => Blk wz g1 86 [.slice none 0 0, .slice none 0 0, .slice none 0 0, .int .i64 0, .int .i64 0] ∧ True) mixed (fun _ hm => ⟨hm.bl 1, trivial⟩) fun z => ?_
 refine wt 0 14 1 rfl z (ov_field fo86_0 rfl rfl) ?_
 refine wt 2 14 5 rfl z (ov_field fo86_1 rfl rfl) ?_
 refine wt 5 14 37 rfl z (ov_field fo86_0 rfl rfl) ?_
 refine wt 7 14 165 rfl z (ov_field fo86_2 rfl rfl) ?_
 refine wa_open fun W hW => ?_
 have T255 : W 6 (lb 14 255) [(4, .pointer (some ⟨g1, 0, none⟩)), (5, .pointer (some ⟨g2, 0, none⟩)), (18, .int .i64 SE), (20, .slice A0 4 c0), (21, .pointer (some ⟨g2, 2, none⟩))] (fun w => Strm 25 w B sb (m + 40 + 100 + 1000)) [(g1, 86, [.slice none 0 0, .slice none 0 0, .slice none 0 0, .int .i64 0, .int .i64 0]), (g2, 86, [.slice A0 4 c0, .slice A1 n1 c1, .slice A n c, .int .i64 0, .int .i64 0])] [⟨.slice A n c, 199, 6, n, l.flatMap bkEnc⟩, ⟨.slice A1 n1 c1, 254, 2, n1, sl.flatMap skEnc⟩, ⟨.slice A0 4 c0, 170, 2, 4, cs.flatMap csEnc⟩] [] := by
  skip
  rw [hW]
  refine wa1 8 rfl ?_
  refine lk_ sc84 1 rfl rfl rfl (wl_nil ?_)
  refine nw 14 511 (fun _ hm => ⟨hm.bl 0, trivial⟩) fun z => ?_
  refine wt 10 14 1535 rfl z (ov_field fo86_3 rfl rfl) ?_
  refine wa1 9 rfl ?_
  refine wl_callv (v := .int .i64 KE) rfl cb139 rfl rfl (fun wx hm => (by rw [hKE]; exact bookingsFault_any cs A0 4 c0 l A n c wx (SlT.ofOwn cs_len (hm.ownI 2 rfl) hc4) hco (by omega) (SlT.ofOwn bk_len (hm.ownI 0 rfl) hlen) hok (by omega))) ?_
  refine wl_nil ?_
  refine nw 14 2047 (fun _ hm => ⟨hm.bl 0, trivial⟩) fun z => ?_
  refine wa1 11 rfl ?_
  refine wl_store 1 sc28 rfl rfl rfl rfl rfl rfl ?_
  refine wl_nil ?_
  refine nw 14 4095 (fun _ hm => ⟨hm.bl 0, trivial⟩) fun z => ?_
  refine wt 12 14 8191 rfl z (ov_field fo86_4 rfl rfl) ?_
  refine wa1 13 rfl ?_
  refine wl_store 1 sc28 rfl rfl rfl rfl rfl rfl ?_
  refine wl_nil ?_
  refine nw 14 16383 (fun _ hm => ⟨hm.bl 0, trivial⟩) fun z => ?_
  refine wa_done (by kernel_rfl) ?_
  refine nx_then (sr_ ?_)
  refine wl_ov (ov_loads rz86 rfl (fun _ hm => hm.blkI 1 rfl) rfl rfl) rfl ?_
  refine wl_stores (cs' := [.slice A0 4 c0, .slice A1 n1 c1, .slice A n c, .int .i64 SE, .int .i64 KE]) 0 rz86 rfl rfl rfl rfl rfl rfl rfl rfl ?_
  refine nn_ ?_
  refine gw_ret ?_
  refine nx_retc 0 rfl rz86 rfl rfl rfl fun wx hm => ?_
  exact ⟨A0, c0, cs, A1, n1, c1, sl, A, n, c, l, by rw [← hSE, ← hKE], (SlT.ofOwn cs_len (hm.ownI 2 rfl) hc4), (SlT.ofOwn sk_len (hm.ownI 1 rfl) hs1), (SlT.ofOwn bk_len (hm.ownI 0 rfl) hlen), hco, hso, hok, hn5, hn9, hm.k.more (by omega), hm.g⟩
 have T447 : W 6 (lb 14 447) [(4, .pointer (some ⟨g1, 0, none⟩)), (5, .pointer (some ⟨g2, 0, none⟩)), (18, .int .i64 SE), (19, .pointer (some ⟨g2, 0, none⟩)), (22, .slice A n c)] (fun w => Strm 25 w B sb (m + 40 + 100 + 1000)) [(g1, 86, [.slice none 0 0, .slice none 0 0, .slice none 0 0, .int .i64 0, .int .i64 0]), (g2, 86, [.slice A0 4 c0, .slice A1 n1 c1, .slice A n c, .int .i64 0, .int .i64 0])] [⟨.slice A n c, 199, 6, n, l.flatMap bkEnc⟩, ⟨.slice A1 n1 c1, 254, 2, n1, sl.flatMap skEnc⟩, ⟨.slice A0 4 c0, 170, 2, 4, cs.flatMap csEnc⟩] [] := by
  skip
  rw [hW]
  refine wa1 6 rfl ?_
  refine lk_ sc62 1 rfl rfl rfl (wl_nil ?_)
  refine nw 14 511 (fun _ hm => ⟨hm.bl 0, trivial⟩) fun z => ?_
  refine wt 10 14 1535 rfl z (ov_field fo86_3 rfl rfl) ?_
  refine wa1 9 rfl ?_
  refine wl_callv (v := .int .i64 KE) rfl cb139 rfl rfl (fun wx hm => (by rw [hKE]; exact bookingsFault_any cs A0 4 c0 l A n c wx (SlT.ofOwn cs_len (hm.ownI 2 rfl) hc4) hco (by omega) (SlT.ofOwn bk_len (hm.ownI 0 rfl) hlen) hok (by omega))) ?_
  refine wl_nil ?_
  refine nw 14 2047 (fun _ hm => ⟨hm.bl 0, trivial⟩) fun z => ?_
  refine wa1 11 rfl ?_
  refine wl_store 1 sc28 rfl rfl rfl rfl rfl rfl ?_
  refine wl_nil ?_
  refine nw 14 4095 (fun _ hm => ⟨hm.bl 0, trivial⟩) fun z => ?_
  refine wt 12 14 8191 rfl z (ov_field fo86_4 rfl rfl) ?_
  refine wa1 13 rfl ?_
  refine wl_store 1 sc28 rfl rfl rfl rfl rfl rfl ?_
  refine wl_nil ?_
  refine nw 14 16383 (fun _ hm => ⟨hm.bl 0, trivial⟩) fun z => ?_
  refine wa_done (by kernel_rfl) ?_
  refine nx_then (sr_ ?_)
  refine wl_ov (ov_loads rz86 rfl (fun _ hm => hm.blkI 1 rfl) rfl rfl) rfl ?_
  refine wl_stores (cs' := [.slice A0 4 c0, .slice A1 n1 c1, .slice A n c, .int .i64 SE, .int .i64 KE]) 0 rz86 rfl rfl rfl rfl rfl rfl rfl rfl ?_
  refine nn_ ?_
  refine gw_ret ?_
  refine nx_retc 0 rfl rz86 rfl rfl rfl fun wx hm => ?_
  exact ⟨A0, c0, cs, A1, n1, c1, sl, A, n, c, l, by rw [← hSE, ← hKE], (SlT.ofOwn cs_len (hm.ownI 2 rfl) hc4), (SlT.ofOwn sk_len (hm.ownI 1 rfl) hs1), (SlT.ofOwn bk_len (hm.ownI 0 rfl) hlen), hco, hso, hok, hn5, hn9, hm.k.more (by omega), hm.g⟩
 have J191 : W 7 (lb 14 191) [(4, .pointer (some ⟨g1, 0, none⟩)), (5, .pointer (some ⟨g2, 0, none⟩)), (18, .int .i64 SE), (19, .pointer (some ⟨g2, 0, none⟩)), (21, .pointer (some ⟨g2, 2, none⟩))] (fun w => Strm 25 w B sb (m + 40 + 100 + 1000)) [(g1, 86, [.slice none 0 0, .slice none 0 0, .slice none 0 0, .int .i64 0, .int .i64 0]), (g2, 86, [.slice A0 4 c0, .slice A1 n1 c1, .slice A n c, .int .i64 0, .int .i64 0])] [⟨.slice A n c, 199, 6, n, l.flatMap bkEnc⟩, ⟨.slice A1 n1 c1, 254, 2, n1, sl.flatMap skEnc⟩, ⟨.slice A0 4 c0, 170, 2, 4, cs.flatMap csEnc⟩] [] := by
  skip
  rw [hW]
  refine wa_all [6, 8] (by kernel_rfl) rfl ⟨⟨_, rfl, ?_⟩, ⟨_, rfl, ?_⟩, trivial⟩
  ·refine lk_ sc62 1 rfl rfl rfl (wl_nil ?_)
   refine nw 14 255 (fun _ hm => ⟨hm.bl 0, trivial⟩) fun z => ?_
   have h := T255 
   rw [hW] at h
   refine wa_weak ?_ ?_ h
   ·exact ⟨rfl, rfl, rfl, rfl, rfl, trivial⟩
   exact fun _ hm => hm.pick [0, 1] [0, 1, 2] [] rfl rfl
  refine lk_ sc84 1 rfl rfl rfl (wl_nil ?_)
  refine nw 14 447 (fun _ hm => ⟨hm.bl 0, trivial⟩) fun z => ?_
  have h := T447 
  rw [hW] at h
  refine wa_weak ?_ ?_ h
  ·exact ⟨rfl, rfl, rfl, rfl, rfl, trivial⟩
  exact fun _ hm => hm.pick [0, 1] [0, 1, 2] [] rfl rfl
 have T495 : W 6 (lb 14 495) [(4, .pointer (some ⟨g1, 0, none⟩)), (5, .pointer (some ⟨g2, 0, none⟩)), (15, .slice A0 4 c0), (17, .slice A1 n1 c1), (20, .slice A0 4 c0), (22, .slice A n c)] (fun w => Strm 25 w B sb (m + 40 + 100 + 1000)) [(g1, 86, [.slice none 0 0, .slice none 0 0, .slice none 0 0, .int .i64 0, .int .i64 0]), (g2, 86, [.slice A0 4 c0, .slice A1 n1 c1, .slice A n c, .int .i64 0, .int .i64 0])] [⟨.slice A n c, 199, 6, n, l.flatMap bkEnc⟩, ⟨.slice A1 n1 c1, 254, 2, n1, sl.flatMap skEnc⟩, ⟨.slice A0 4 c0, 170, 2, 4, cs.flatMap csEnc⟩] [] := by
  skip
  rw [hW]
  refine wa1 4 rfl ?_
  refine wl_callv (v := .int .i64 SE) rfl cb138 rfl rfl (fun wx hm => (by rw [hSE]; exact stockFault_any cs A0 4 c0 sl A1 n1 c1 wx (SlT.ofOwn cs_len (hm.ownI 2 rfl) hc4) hco (by omega) (SlT.ofOwn sk_len (hm.ownI 1 rfl) hs1) hso (by omega))) ?_
  refine wl_nil ?_
  refine nw 14 511 (fun _ hm => ⟨hm.bl 0, trivial⟩) fun z => ?_
  refine wt 10 14 1535 rfl z (ov_field fo86_3 rfl rfl) ?_
  refine wa1 9 rfl ?_
  refine wl_callv (v := .int .i64 KE) rfl cb139 rfl rfl (fun wx hm => (by rw [hKE]; exact bookingsFault_any cs A0 4 c0 l A n c wx (SlT.ofOwn cs_len (hm.ownI 2 rfl) hc4) hco (by omega) (SlT.ofOwn bk_len (hm.ownI 0 rfl) hlen) hok (by omega))) ?_
  refine wl_nil ?_
  refine nw 14 2047 (fun _ hm => ⟨hm.bl 0, trivial⟩) fun z => ?_
  refine wa1 11 rfl ?_
  refine wl_store 1 sc28 rfl rfl rfl rfl rfl rfl ?_
  refine wl_nil ?_
  refine nw 14 4095 (fun _ hm => ⟨hm.bl 0, trivial⟩) fun z => ?_
  refine wt 12 14 8191 rfl z (ov_field fo86_4 rfl rfl) ?_
  refine wa1 13 rfl ?_
  refine wl_store 1 sc28 rfl rfl rfl rfl rfl rfl ?_
  refine wl_nil ?_
  refine nw 14 16383 (fun _ hm => ⟨hm.bl 0, trivial⟩) fun z => ?_
  refine wa_done (by kernel_rfl) ?_
  refine nx_then (sr_ ?_)
  refine wl_ov (ov_loads rz86 rfl (fun _ hm => hm.blkI 1 rfl) rfl rfl) rfl ?_
  refine wl_stores (cs' := [.slice A0 4 c0, .slice A1 n1 c1, .slice A n c, .int .i64 SE, .int .i64 KE]) 0 rz86 rfl rfl rfl rfl rfl rfl rfl rfl ?_
  refine nn_ ?_
  refine gw_ret ?_
  refine nx_retc 0 rfl rz86 rfl rfl rfl fun wx hm => ?_
  exact ⟨A0, c0, cs, A1, n1, c1, sl, A, n, c, l, by rw [← hSE, ← hKE], (SlT.ofOwn cs_len (hm.ownI 2 rfl) hc4), (SlT.ofOwn sk_len (hm.ownI 1 rfl) hs1), (SlT.ofOwn bk_len (hm.ownI 0 rfl) hlen), hco, hso, hok, hn5, hn9, hm.k.more (by omega), hm.g⟩
 have J239 : W 7 (lb 14 239) [(4, .pointer (some ⟨g1, 0, none⟩)), (5, .pointer (some ⟨g2, 0, none⟩)), (15, .slice A0 4 c0), (17, .slice A1 n1 c1), (20, .slice A0 4 c0), (21, .pointer (some ⟨g2, 2, none⟩))] (fun w => Strm 25 w B sb (m + 40 + 100 + 1000)) [(g1, 86, [.slice none 0 0, .slice none 0 0, .slice none 0 0, .int .i64 0, .int .i64 0]), (g2, 86, [.slice A0 4 c0, .slice A1 n1 c1, .slice A n c, .int .i64 0, .int .i64 0])] [⟨.slice A n c, 199, 6, n, l.flatMap bkEnc⟩, ⟨.slice A1 n1 c1, 254, 2, n1, sl.flatMap skEnc⟩, ⟨.slice A0 4 c0, 170, 2, 4, cs.flatMap csEnc⟩] [] := by
  skip
  rw [hW]
  refine wa_all [4, 8] (by kernel_rfl) rfl ⟨⟨_, rfl, ?_⟩, ⟨_, rfl, ?_⟩, trivial⟩
  ·refine wl_callv (v := .int .i64 SE) rfl cb138 rfl rfl (fun wx hm => (by rw [hSE]; exact stockFault_any cs A0 4 c0 sl A1 n1 c1 wx (SlT.ofOwn cs_len (hm.ownI 2 rfl) hc4) hco (by omega) (SlT.ofOwn sk_len (hm.ownI 1 rfl) hs1) hso (by omega))) ?_
   refine wl_nil ?_
   refine nw 14 255 (fun _ hm => ⟨hm.bl 0, trivial⟩) fun z => ?_
   have h := T255 
   rw [hW] at h
   refine wa_weak ?_ ?_ h
   ·exact ⟨rfl, rfl, rfl, rfl, rfl, trivial⟩
   exact fun _ hm => hm.pick [0, 1] [0, 1, 2] [] rfl rfl
  refine lk_ sc84 1 rfl rfl rfl (wl_nil ?_)
  refine nw 14 495 (fun _ hm => ⟨hm.bl 0, trivial⟩) fun z => ?_
  have h := T495 
  rw [hW] at h
  refine wa_weak ?_ ?_ h
  ·exact ⟨rfl, rfl, rfl, rfl, rfl, rfl, trivial⟩
  exact fun _ hm => hm.pick [0, 1] [0, 1, 2] [] rfl rfl
 have J431 : W 7 (lb 14 431) [(4, .pointer (some ⟨g1, 0, none⟩)), (5, .pointer (some ⟨g2, 0, none⟩)), (15, .slice A0 4 c0), (17, .slice A1 n1 c1), (19, .pointer (some ⟨g2, 0, none⟩)), (22, .slice A n c)] (fun w => Strm 25 w B sb (m + 40 + 100 + 1000)) [(g1, 86, [.slice none 0 0, .slice none 0 0, .slice none 0 0, .int .i64 0, .int .i64 0]), (g2, 86, [.slice A0 4 c0, .slice A1 n1 c1, .slice A n c, .int .i64 0, .int .i64 0])] [⟨.slice A n c, 199, 6, n, l.flatMap bkEnc⟩, ⟨.slice A1 n1 c1, 254, 2, n1, sl.flatMap skEnc⟩, ⟨.slice A0 4 c0, 170, 2, 4, cs.flatMap csEnc⟩] [] := by
  skip
  rw [hW]
  refine wa_all [4, 6] (by kernel_rfl) rfl ⟨⟨_, rfl, ?_⟩, ⟨_, rfl, ?_⟩, trivial⟩
  ·refine wl_callv (v := .int .i64 SE) rfl cb138 rfl rfl (fun wx hm => (by rw [hSE]; exact stockFault_any cs A0 4 c0 sl A1 n1 c1 wx (SlT.ofOwn cs_len (hm.ownI 2 rfl) hc4) hco (by omega) (SlT.ofOwn sk_len (hm.ownI 1 rfl) hs1) hso (by omega))) ?_
   refine wl_nil ?_
   refine nw 14 447 (fun _ hm => ⟨hm.bl 0, trivial⟩) fun z => ?_
   have h := T447 
   rw [hW] at h
   refine wa_weak ?_ ?_ h
   ·exact ⟨rfl, rfl, rfl, rfl, rfl, trivial⟩
   exact fun _ hm => hm.pick [0, 1] [0, 1, 2] [] rfl rfl
  refine lk_ sc62 1 rfl rfl rfl (wl_nil ?_)
  refine nw 14 495 (fun _ hm => ⟨hm.bl 0, trivial⟩) fun z => ?_
  have h := T495 
  rw [hW] at h
  refine wa_weak ?_ ?_ h
  ·exact ⟨rfl, rfl, rfl, rfl, rfl, rfl, trivial⟩
  exact fun _ hm => hm.pick [0, 1] [0, 1, 2] [] rfl rfl
 have J175 : W 8 (lb 14 175) [(4, .pointer (some ⟨g1, 0, none⟩)), (5, .pointer (some ⟨g2, 0, none⟩)), (15, .slice A0 4 c0), (17, .slice A1 n1 c1), (19, .pointer (some ⟨g2, 0, none⟩)), (21, .pointer (some ⟨g2, 2, none⟩))] (fun w => Strm 25 w B sb (m + 40 + 100 + 1000)) [(g1, 86, [.slice none 0 0, .slice none 0 0, .slice none 0 0, .int .i64 0, .int .i64 0]), (g2, 86, [.slice A0 4 c0, .slice A1 n1 c1, .slice A n c, .int .i64 0, .int .i64 0])] [⟨.slice A n c, 199, 6, n, l.flatMap bkEnc⟩, ⟨.slice A1 n1 c1, 254, 2, n1, sl.flatMap skEnc⟩, ⟨.slice A0 4 c0, 170, 2, 4, cs.flatMap csEnc⟩] [] := by
  skip
  rw [hW]
  refine wa_all [4, 6, 8] (by kernel_rfl) rfl ⟨⟨_, rfl, ?_⟩, ⟨_, rfl, ?_⟩, ⟨_, rfl, ?_⟩, trivial⟩
  ·refine wl_callv (v := .int .i64 SE) rfl cb138 rfl rfl (fun wx hm => (by rw [hSE]; exact stockFault_any cs A0 4 c0 sl A1 n1 c1 wx (SlT.ofOwn cs_len (hm.ownI 2 rfl) hc4) hco (by omega) (SlT.ofOwn sk_len (hm.ownI 1 rfl) hs1) hso (by omega))) ?_
   refine wl_nil ?_
   refine nw 14 191 (fun _ hm => ⟨hm.bl 0, trivial⟩) fun z => ?_
   have h := J191 
   rw [hW] at h
   refine wa_weak ?_ ?_ h
   ·exact ⟨rfl, rfl, rfl, rfl, rfl, trivial⟩
   exact fun _ hm => hm.pick [0, 1] [0, 1, 2] [] rfl rfl
  ·refine lk_ sc62 1 rfl rfl rfl (wl_nil ?_)
   refine nw 14 239 (fun _ hm => ⟨hm.bl 0, trivial⟩) fun z => ?_
   have h := J239 
   rw [hW] at h
   refine wa_weak ?_ ?_ h
   ·exact ⟨rfl, rfl, rfl, rfl, rfl, rfl, trivial⟩
   exact fun _ hm => hm.pick [0, 1] [0, 1, 2] [] rfl rfl
  refine lk_ sc84 1 rfl rfl rfl (wl_nil ?_)
  refine nw 14 431 (fun _ hm => ⟨hm.bl 0, trivial⟩) fun z => ?_
  have h := J431 
  rw [hW] at h
  refine wa_weak ?_ ?_ h
  ·exact ⟨rfl, rfl, rfl, rfl, rfl, rfl, trivial⟩
  exact fun _ hm => hm.pick [0, 1] [0, 1, 2] [] rfl rfl
 have T487 : W 7 (lb 14 487) [(4, .pointer (some ⟨g1, 0, none⟩)), (5, .pointer (some ⟨g2, 0, none⟩)), (15, .slice A0 4 c0), (16, .pointer (some ⟨g2, 1, none⟩)), (20, .slice A0 4 c0), (22, .slice A n c)] (fun w => Strm 25 w B sb (m + 40 + 100 + 1000)) [(g1, 86, [.slice none 0 0, .slice none 0 0, .slice none 0 0, .int .i64 0, .int .i64 0]), (g2, 86, [.slice A0 4 c0, .slice A1 n1 c1, .slice A n c, .int .i64 0, .int .i64 0])] [⟨.slice A n c, 199, 6, n, l.flatMap bkEnc⟩, ⟨.slice A1 n1 c1, 254, 2, n1, sl.flatMap skEnc⟩, ⟨.slice A0 4 c0, 170, 2, 4, cs.flatMap csEnc⟩] [] := by
  skip
  rw [hW]
  refine wa1 3 rfl ?_
  refine lk_ sc83 1 rfl rfl rfl (wl_nil ?_)
  refine nw 14 495 (fun _ hm => ⟨hm.bl 0, trivial⟩) fun z => ?_
  refine wa1 4 rfl ?_
  refine wl_callv (v := .int .i64 SE) rfl cb138 rfl rfl (fun wx hm => (by rw [hSE]; exact stockFault_any cs A0 4 c0 sl A1 n1 c1 wx (SlT.ofOwn cs_len (hm.ownI 2 rfl) hc4) hco (by omega) (SlT.ofOwn sk_len (hm.ownI 1 rfl) hs1) hso (by omega))) ?_
  refine wl_nil ?_
  refine nw 14 511 (fun _ hm => ⟨hm.bl 0, trivial⟩) fun z => ?_
  refine wt 10 14 1535 rfl z (ov_field fo86_3 rfl rfl) ?_
  refine wa1 9 rfl ?_
  refine wl_callv (v := .int .i64 KE) rfl cb139 rfl rfl (fun wx hm => (by rw [hKE]; exact bookingsFault_any cs A0 4 c0 l A n c wx (SlT.ofOwn cs_len (hm.ownI 2 rfl) hc4) hco (by omega) (SlT.ofOwn bk_len (hm.ownI 0 rfl) hlen) hok (by omega))) ?_
  refine wl_nil ?_
  refine nw 14 2047 (fun _ hm => ⟨hm.bl 0, trivial⟩) fun z => ?_
  refine wa1 11 rfl ?_
  refine wl_store 1 sc28 rfl rfl rfl rfl rfl rfl ?_
  refine wl_nil ?_
  refine nw 14 4095 (fun _ hm => ⟨hm.bl 0, trivial⟩) fun z => ?_
  refine wt 12 14 8191 rfl z (ov_field fo86_4 rfl rfl) ?_
  refine wa1 13 rfl ?_
  refine wl_store 1 sc28 rfl rfl rfl rfl rfl rfl ?_
  refine wl_nil ?_
  refine nw 14 16383 (fun _ hm => ⟨hm.bl 0, trivial⟩) fun z => ?_
  refine wa_done (by kernel_rfl) ?_
  refine nx_then (sr_ ?_)
  refine wl_ov (ov_loads rz86 rfl (fun _ hm => hm.blkI 1 rfl) rfl rfl) rfl ?_
  refine wl_stores (cs' := [.slice A0 4 c0, .slice A1 n1 c1, .slice A n c, .int .i64 SE, .int .i64 KE]) 0 rz86 rfl rfl rfl rfl rfl rfl rfl rfl ?_
  refine nn_ ?_
  refine gw_ret ?_
  refine nx_retc 0 rfl rz86 rfl rfl rfl fun wx hm => ?_
  exact ⟨A0, c0, cs, A1, n1, c1, sl, A, n, c, l, by rw [← hSE, ← hKE], (SlT.ofOwn cs_len (hm.ownI 2 rfl) hc4), (SlT.ofOwn sk_len (hm.ownI 1 rfl) hs1), (SlT.ofOwn bk_len (hm.ownI 0 rfl) hlen), hco, hso, hok, hn5, hn9, hm.k.more (by omega), hm.g⟩
 have J231 : W 8 (lb 14 231) [(4, .pointer (some ⟨g1, 0, none⟩)), (5, .pointer (some ⟨g2, 0, none⟩)), (15, .slice A0 4 c0), (16, .pointer (some ⟨g2, 1, none⟩)), (20, .slice A0 4 c0), (21, .pointer (some ⟨g2, 2, none⟩))] (fun w => Strm 25 w B sb (m + 40 + 100 + 1000)) [(g1, 86, [.slice none 0 0, .slice none 0 0, .slice none 0 0, .int .i64 0, .int .i64 0]), (g2, 86, [.slice A0 4 c0, .slice A1 n1 c1, .slice A n c, .int .i64 0, .int .i64 0])] [⟨.slice A n c, 199, 6, n, l.flatMap bkEnc⟩, ⟨.slice A1 n1 c1, 254, 2, n1, sl.flatMap skEnc⟩, ⟨.slice A0 4 c0, 170, 2, 4, cs.flatMap csEnc⟩] [] := by
  skip
  rw [hW]
  refine wa_all [3, 8] (by kernel_rfl) rfl ⟨⟨_, rfl, ?_⟩, ⟨_, rfl, ?_⟩, trivial⟩
  ·refine lk_ sc83 1 rfl rfl rfl (wl_nil ?_)
   refine nw 14 239 (fun _ hm => ⟨hm.bl 0, trivial⟩) fun z => ?_
   have h := J239 
   rw [hW] at h
   refine wa_weak ?_ ?_ h
   ·exact ⟨rfl, rfl, rfl, rfl, rfl, rfl, trivial⟩
   exact fun _ hm => hm.pick [0, 1] [0, 1, 2] [] rfl rfl
  refine lk_ sc84 1 rfl rfl rfl (wl_nil ?_)
  refine nw 14 487 (fun _ hm => ⟨hm.bl 0, trivial⟩) fun z => ?_
  have h := T487 
  rw [hW] at h
  refine wa_weak ?_ ?_ h
  ·exact ⟨rfl, rfl, rfl, rfl, rfl, rfl, trivial⟩
  exact fun _ hm => hm.pick [0, 1] [0, 1, 2] [] rfl rfl
 have J423 : W 8 (lb 14 423) [(4, .pointer (some ⟨g1, 0, none⟩)), (5, .pointer (some ⟨g2, 0, none⟩)), (15, .slice A0 4 c0), (16, .pointer (some ⟨g2, 1, none⟩)), (19, .pointer (some ⟨g2, 0, none⟩)), (22, .slice A n c)] (fun w => Strm 25 w B sb (m + 40 + 100 + 1000)) [(g1, 86, [.slice none 0 0, .slice none 0 0, .slice none 0 0, .int .i64 0, .int .i64 0]), (g2, 86, [.slice A0 4 c0, .slice A1 n1 c1, .slice A n c, .int .i64 0, .int .i64 0])] [⟨.slice A n c, 199, 6, n, l.flatMap bkEnc⟩, ⟨.slice A1 n1 c1, 254, 2, n1, sl.flatMap skEnc⟩, ⟨.slice A0 4 c0, 170, 2, 4, cs.flatMap csEnc⟩] [] := by
  skip
  rw [hW]
  refine wa_all [3, 6] (by kernel_rfl) rfl ⟨⟨_, rfl, ?_⟩, ⟨_, rfl, ?_⟩, trivial⟩
  ·refine lk_ sc83 1 rfl rfl rfl (wl_nil ?_)
   refine nw 14 431 (fun _ hm => ⟨hm.bl 0, trivial⟩) fun z => ?_
   have h := J431 
   rw [hW] at h
   refine wa_weak ?_ ?_ h
   ·exact ⟨rfl, rfl, rfl, rfl, rfl, rfl, trivial⟩
   exact fun _ hm => hm.pick [0, 1] [0, 1, 2] [] rfl rfl
  refine lk_ sc62 1 rfl rfl rfl (wl_nil ?_)
  refine nw 14 487 (fun _ hm => ⟨hm.bl 0, trivial⟩) fun z => ?_
  have h := T487 
  rw [hW] at h
  refine wa_weak ?_ ?_ h
  ·exact ⟨rfl, rfl, rfl, rfl, rfl, rfl, trivial⟩
  exact fun _ hm => hm.pick [0, 1] [0, 1, 2] [] rfl rfl
 have J167 : W 9 (lb 14 167) [(4, .pointer (some ⟨g1, 0, none⟩)), (5, .pointer (some ⟨g2, 0, none⟩)), (15, .slice A0 4 c0), (16, .pointer (some ⟨g2, 1, none⟩)), (19, .pointer (some ⟨g2, 0, none⟩)), (21, .pointer (some ⟨g2, 2, none⟩))] (fun w => Strm 25 w B sb (m + 40 + 100 + 1000)) [(g1, 86, [.slice none 0 0, .slice none 0 0, .slice none 0 0, .int .i64 0, .int .i64 0]), (g2, 86, [.slice A0 4 c0, .slice A1 n1 c1, .slice A n c, .int .i64 0, .int .i64 0])] [⟨.slice A n c, 199, 6, n, l.flatMap bkEnc⟩, ⟨.slice A1 n1 c1, 254, 2, n1, sl.flatMap skEnc⟩, ⟨.slice A0 4 c0, 170, 2, 4, cs.flatMap csEnc⟩] [] := by
  skip
  rw [hW]
  refine wa_all [3, 6, 8] (by kernel_rfl) rfl ⟨⟨_, rfl, ?_⟩, ⟨_, rfl, ?_⟩, ⟨_, rfl, ?_⟩, trivial⟩
  ·refine lk_ sc83 1 rfl rfl rfl (wl_nil ?_)
   refine nw 14 175 (fun _ hm => ⟨hm.bl 0, trivial⟩) fun z => ?_
   have h := J175 
   rw [hW] at h
   refine wa_weak ?_ ?_ h
   ·exact ⟨rfl, rfl, rfl, rfl, rfl, rfl, trivial⟩
   exact fun _ hm => hm.pick [0, 1] [0, 1, 2] [] rfl rfl
  ·refine lk_ sc62 1 rfl rfl rfl (wl_nil ?_)
   refine nw 14 231 (fun _ hm => ⟨hm.bl 0, trivial⟩) fun z => ?_
   have h := J231 
   rw [hW] at h
   refine wa_weak ?_ ?_ h
   ·exact ⟨rfl, rfl, rfl, rfl, rfl, rfl, trivial⟩
   exact fun _ hm => hm.pick [0, 1] [0, 1, 2] [] rfl rfl
  refine lk_ sc84 1 rfl rfl rfl (wl_nil ?_)
  refine nw 14 423 (fun _ hm => ⟨hm.bl 0, trivial⟩) fun z => ?_
  have h := J423 
  rw [hW] at h
  refine wa_weak ?_ ?_ h
  ·exact ⟨rfl, rfl, rfl, rfl, rfl, rfl, trivial⟩
  exact fun _ hm => hm.pick [0, 1] [0, 1, 2] [] rfl rfl
 have T493 : W 7 (lb 14 493) [(4, .pointer (some ⟨g1, 0, none⟩)), (5, .pointer (some ⟨g2, 0, none⟩)), (14, .pointer (some ⟨g2, 0, none⟩)), (17, .slice A1 n1 c1), (20, .slice A0 4 c0), (22, .slice A n c)] (fun w => Strm 25 w B sb (m + 40 + 100 + 1000)) [(g1, 86, [.slice none 0 0, .slice none 0 0, .slice none 0 0, .int .i64 0, .int .i64 0]), (g2, 86, [.slice A0 4 c0, .slice A1 n1 c1, .slice A n c, .int .i64 0, .int .i64 0])] [⟨.slice A n c, 199, 6, n, l.flatMap bkEnc⟩, ⟨.slice A1 n1 c1, 254, 2, n1, sl.flatMap skEnc⟩, ⟨.slice A0 4 c0, 170, 2, 4, cs.flatMap csEnc⟩] [] := by
  skip
  rw [hW]
  refine wa1 1 rfl ?_
  refine lk_ sc62 1 rfl rfl rfl (wl_nil ?_)
  refine nw 14 495 (fun _ hm => ⟨hm.bl 0, trivial⟩) fun z => ?_
  refine wa1 4 rfl ?_
  refine wl_callv (v := .int .i64 SE) rfl cb138 rfl rfl (fun wx hm => (by rw [hSE]; exact stockFault_any cs A0 4 c0 sl A1 n1 c1 wx (SlT.ofOwn cs_len (hm.ownI 2 rfl) hc4) hco (by omega) (SlT.ofOwn sk_len (hm.ownI 1 rfl) hs1) hso (by omega))) ?_
  refine wl_nil ?_
  refine nw 14 511 (fun _ hm => ⟨hm.bl 0, trivial⟩) fun z => ?_
  refine wt 10 14 1535 rfl z (ov_field fo86_3 rfl rfl) ?_
  refine wa1 9 rfl ?_
  refine wl_callv (v := .int .i64 KE) rfl cb139 rfl rfl (fun wx hm => (by rw [hKE]; exact bookingsFault_any cs A0 4 c0 l A n c wx (SlT.ofOwn cs_len (hm.ownI 2 rfl) hc4) hco (by omega) (SlT.ofOwn bk_len (hm.ownI 0 rfl) hlen) hok (by omega))) ?_
  refine wl_nil ?_
  refine nw 14 2047 (fun _ hm => ⟨hm.bl 0, trivial⟩) fun z => ?_
  refine wa1 11 rfl ?_
  refine wl_store 1 sc28 rfl rfl rfl rfl rfl rfl ?_
  refine wl_nil ?_
  refine nw 14 4095 (fun _ hm => ⟨hm.bl 0, trivial⟩) fun z => ?_
  refine wt 12 14 8191 rfl z (ov_field fo86_4 rfl rfl) ?_
  refine wa1 13 rfl ?_
  refine wl_store 1 sc28 rfl rfl rfl rfl rfl rfl ?_
  refine wl_nil ?_
  refine nw 14 16383 (fun _ hm => ⟨hm.bl 0, trivial⟩) fun z => ?_
  refine wa_done (by kernel_rfl) ?_
  refine nx_then (sr_ ?_)
  refine wl_ov (ov_loads rz86 rfl (fun _ hm => hm.blkI 1 rfl) rfl rfl) rfl ?_
  refine wl_stores (cs' := [.slice A0 4 c0, .slice A1 n1 c1, .slice A n c, .int .i64 SE, .int .i64 KE]) 0 rz86 rfl rfl rfl rfl rfl rfl rfl rfl ?_
  refine nn_ ?_
  refine gw_ret ?_
  refine nx_retc 0 rfl rz86 rfl rfl rfl fun wx hm => ?_
  exact ⟨A0, c0, cs, A1, n1, c1, sl, A, n, c, l, by rw [← hSE, ← hKE], (SlT.ofOwn cs_len (hm.ownI 2 rfl) hc4), (SlT.ofOwn sk_len (hm.ownI 1 rfl) hs1), (SlT.ofOwn bk_len (hm.ownI 0 rfl) hlen), hco, hso, hok, hn5, hn9, hm.k.more (by omega), hm.g⟩
 have J237 : W 8 (lb 14 237) [(4, .pointer (some ⟨g1, 0, none⟩)), (5, .pointer (some ⟨g2, 0, none⟩)), (14, .pointer (some ⟨g2, 0, none⟩)), (17, .slice A1 n1 c1), (20, .slice A0 4 c0), (21, .pointer (some ⟨g2, 2, none⟩))] (fun w => Strm 25 w B sb (m + 40 + 100 + 1000)) [(g1, 86, [.slice none 0 0, .slice none 0 0, .slice none 0 0, .int .i64 0, .int .i64 0]), (g2, 86, [.slice A0 4 c0, .slice A1 n1 c1, .slice A n c, .int .i64 0, .int .i64 0])] [⟨.slice A n c, 199, 6, n, l.flatMap bkEnc⟩, ⟨.slice A1 n1 c1, 254, 2, n1, sl.flatMap skEnc⟩, ⟨.slice A0 4 c0, 170, 2, 4, cs.flatMap csEnc⟩] [] := by
  skip
  rw [hW]
  refine wa_all [1, 8] (by kernel_rfl) rfl ⟨⟨_, rfl, ?_⟩, ⟨_, rfl, ?_⟩, trivial⟩
  ·refine lk_ sc62 1 rfl rfl rfl (wl_nil ?_)
   refine nw 14 239 (fun _ hm => ⟨hm.bl 0, trivial⟩) fun z => ?_
   have h := J239 
   rw [hW] at h
   refine wa_weak ?_ ?_ h
   ·exact ⟨rfl, rfl, rfl, rfl, rfl, rfl, trivial⟩
   exact fun _ hm => hm.pick [0, 1] [0, 1, 2] [] rfl rfl
  refine lk_ sc84 1 rfl rfl rfl (wl_nil ?_)
  refine nw 14 493 (fun _ hm => ⟨hm.bl 0, trivial⟩) fun z => ?_
  have h := T493 
  rw [hW] at h
  refine wa_weak ?_ ?_ h
  ·exact ⟨rfl, rfl, rfl, rfl, rfl, rfl, trivial⟩
  exact fun _ hm => hm.pick [0, 1] [0, 1, 2] [] rfl rfl
 have J429 : W 8 (lb 14 429) [(4, .pointer (some ⟨g1, 0, none⟩)), (5, .pointer (some ⟨g2, 0, none⟩)), (14, .pointer (some ⟨g2, 0, none⟩)), (17, .slice A1 n1 c1), (19, .pointer (some ⟨g2, 0, none⟩)), (22, .slice A n c)] (fun w => Strm 25 w B sb (m + 40 + 100 + 1000)) [(g1, 86, [.slice none 0 0, .slice none 0 0, .slice none 0 0, .int .i64 0, .int .i64 0]), (g2, 86, [.slice A0 4 c0, .slice A1 n1 c1, .slice A n c, .int .i64 0, .int .i64 0])] [⟨.slice A n c, 199, 6, n, l.flatMap bkEnc⟩, ⟨.slice A1 n1 c1, 254, 2, n1, sl.flatMap skEnc⟩, ⟨.slice A0 4 c0, 170, 2, 4, cs.flatMap csEnc⟩] [] := by
  skip
  rw [hW]
  refine wa_all [1, 6] (by kernel_rfl) rfl ⟨⟨_, rfl, ?_⟩, ⟨_, rfl, ?_⟩, trivial⟩
  ·refine lk_ sc62 1 rfl rfl rfl (wl_nil ?_)
   refine nw 14 431 (fun _ hm => ⟨hm.bl 0, trivial⟩) fun z => ?_
   have h := J431 
   rw [hW] at h
   refine wa_weak ?_ ?_ h
   ·exact ⟨rfl, rfl, rfl, rfl, rfl, rfl, trivial⟩
   exact fun _ hm => hm.pick [0, 1] [0, 1, 2] [] rfl rfl
  refine lk_ sc62 1 rfl rfl rfl (wl_nil ?_)
  refine nw 14 493 (fun _ hm => ⟨hm.bl 0, trivial⟩) fun z => ?_
  have h := T493 
  rw [hW] at h
  refine wa_weak ?_ ?_ h
  ·exact ⟨rfl, rfl, rfl, rfl, rfl, rfl, trivial⟩
  exact fun _ hm => hm.pick [0, 1] [0, 1, 2] [] rfl rfl
 have J173 : W 9 (lb 14 173) [(4, .pointer (some ⟨g1, 0, none⟩)), (5, .pointer (some ⟨g2, 0, none⟩)), (14, .pointer (some ⟨g2, 0, none⟩)), (17, .slice A1 n1 c1), (19, .pointer (some ⟨g2, 0, none⟩)), (21, .pointer (some ⟨g2, 2, none⟩))] (fun w => Strm 25 w B sb (m + 40 + 100 + 1000)) [(g1, 86, [.slice none 0 0, .slice none 0 0, .slice none 0 0, .int .i64 0, .int .i64 0]), (g2, 86, [.slice A0 4 c0, .slice A1 n1 c1, .slice A n c, .int .i64 0, .int .i64 0])] [⟨.slice A n c, 199, 6, n, l.flatMap bkEnc⟩, ⟨.slice A1 n1 c1, 254, 2, n1, sl.flatMap skEnc⟩, ⟨.slice A0 4 c0, 170, 2, 4, cs.flatMap csEnc⟩] [] := by
  skip
  rw [hW]
  refine wa_all [1, 6, 8] (by kernel_rfl) rfl ⟨⟨_, rfl, ?_⟩, ⟨_, rfl, ?_⟩, ⟨_, rfl, ?_⟩, trivial⟩
  ·refine lk_ sc62 1 rfl rfl rfl (wl_nil ?_)
   refine nw 14 175 (fun _ hm => ⟨hm.bl 0, trivial⟩) fun z => ?_
   have h := J175 
   rw [hW] at h
   refine wa_weak ?_ ?_ h
   ·exact ⟨rfl, rfl, rfl, rfl, rfl, rfl, trivial⟩
   exact fun _ hm => hm.pick [0, 1] [0, 1, 2] [] rfl rfl
  ·refine lk_ sc62 1 rfl rfl rfl (wl_nil ?_)
   refine nw 14 237 (fun _ hm => ⟨hm.bl 0, trivial⟩) fun z => ?_
   have h := J237 
   rw [hW] at h
   refine wa_weak ?_ ?_ h
   ·exact ⟨rfl, rfl, rfl, rfl, rfl, rfl, trivial⟩
   exact fun _ hm => hm.pick [0, 1] [0, 1, 2] [] rfl rfl
  refine lk_ sc84 1 rfl rfl rfl (wl_nil ?_)
  refine nw 14 429 (fun _ hm => ⟨hm.bl 0, trivial⟩) fun z => ?_
  have h := J429 
  rw [hW] at h
  refine wa_weak ?_ ?_ h
  ·exact ⟨rfl, rfl, rfl, rfl, rfl, rfl, trivial⟩
  exact fun _ hm => hm.pick [0, 1] [0, 1, 2] [] rfl rfl
 have J485 : W 8 (lb 14 485) [(4, .pointer (some ⟨g1, 0, none⟩)), (5, .pointer (some ⟨g2, 0, none⟩)), (14, .pointer (some ⟨g2, 0, none⟩)), (16, .pointer (some ⟨g2, 1, none⟩)), (20, .slice A0 4 c0), (22, .slice A n c)] (fun w => Strm 25 w B sb (m + 40 + 100 + 1000)) [(g1, 86, [.slice none 0 0, .slice none 0 0, .slice none 0 0, .int .i64 0, .int .i64 0]), (g2, 86, [.slice A0 4 c0, .slice A1 n1 c1, .slice A n c, .int .i64 0, .int .i64 0])] [⟨.slice A n c, 199, 6, n, l.flatMap bkEnc⟩, ⟨.slice A1 n1 c1, 254, 2, n1, sl.flatMap skEnc⟩, ⟨.slice A0 4 c0, 170, 2, 4, cs.flatMap csEnc⟩] [] := by
  skip
  rw [hW]
  refine wa_all [1, 3] (by kernel_rfl) rfl ⟨⟨_, rfl, ?_⟩, ⟨_, rfl, ?_⟩, trivial⟩
  ·refine lk_ sc62 1 rfl rfl rfl (wl_nil ?_)
   refine nw 14 487 (fun _ hm => ⟨hm.bl 0, trivial⟩) fun z => ?_
   have h := T487 
   rw [hW] at h
   refine wa_weak ?_ ?_ h
   ·exact ⟨rfl, rfl, rfl, rfl, rfl, rfl, trivial⟩
   exact fun _ hm => hm.pick [0, 1] [0, 1, 2] [] rfl rfl
  refine lk_ sc83 1 rfl rfl rfl (wl_nil ?_)
  refine nw 14 493 (fun _ hm => ⟨hm.bl 0, trivial⟩) fun z => ?_
  have h := T493 
  rw [hW] at h
  refine wa_weak ?_ ?_ h
  ·exact ⟨rfl, rfl, rfl, rfl, rfl, rfl, trivial⟩
  exact fun _ hm => hm.pick [0, 1] [0, 1, 2] [] rfl rfl
 have J229 : W 9 (lb 14 229) [(4, .pointer (some ⟨g1, 0, none⟩)), (5, .pointer (some ⟨g2, 0, none⟩)), (14, .pointer (some ⟨g2, 0, none⟩)), (16, .pointer (some ⟨g2, 1, none⟩)), (20, .slice A0 4 c0), (21, .pointer (some ⟨g2, 2, none⟩))] (fun w => Strm 25 w B sb (m + 40 + 100 + 1000)) [(g1, 86, [.slice none 0 0, .slice none 0 0, .slice none 0 0, .int .i64 0, .int .i64 0]), (g2, 86, [.slice A0 4 c0, .slice A1 n1 c1, .slice A n c, .int .i64 0, .int .i64 0])] [⟨.slice A n c, 199, 6, n, l.flatMap bkEnc⟩, ⟨.slice A1 n1 c1, 254, 2, n1, sl.flatMap skEnc⟩, ⟨.slice A0 4 c0, 170, 2, 4, cs.flatMap csEnc⟩] [] := by
  skip
  rw [hW]
  refine wa_all [1, 3, 8] (by kernel_rfl) rfl ⟨⟨_, rfl, ?_⟩, ⟨_, rfl, ?_⟩, ⟨_, rfl, ?_⟩, trivial⟩
  ·refine lk_ sc62 1 rfl rfl rfl (wl_nil ?_)
   refine nw 14 231 (fun _ hm => ⟨hm.bl 0, trivial⟩) fun z => ?_
   have h := J231 
   rw [hW] at h
   refine wa_weak ?_ ?_ h
   ·exact ⟨rfl, rfl, rfl, rfl, rfl, rfl, trivial⟩
   exact fun _ hm => hm.pick [0, 1] [0, 1, 2] [] rfl rfl
  ·refine lk_ sc83 1 rfl rfl rfl (wl_nil ?_)
   refine nw 14 237 (fun _ hm => ⟨hm.bl 0, trivial⟩) fun z => ?_
   have h := J237 
   rw [hW] at h
   refine wa_weak ?_ ?_ h
   ·exact ⟨rfl, rfl, rfl, rfl, rfl, rfl, trivial⟩
   exact fun _ hm => hm.pick [0, 1] [0, 1, 2] [] rfl rfl
  refine lk_ sc84 1 rfl rfl rfl (wl_nil ?_)
  refine nw 14 485 (fun _ hm => ⟨hm.bl 0, trivial⟩) fun z => ?_
  have h := J485 
  rw [hW] at h
  refine wa_weak ?_ ?_ h
  ·exact ⟨rfl, rfl, rfl, rfl, rfl, rfl, trivial⟩
  exact fun _ hm => hm.pick [0, 1] [0, 1, 2] [] rfl rfl
 have J421 : W 9 (lb 14 421) [(4, .pointer (some ⟨g1, 0, none⟩)), (5, .pointer (some ⟨g2, 0, none⟩)), (14, .pointer (some ⟨g2, 0, none⟩)), (16, .pointer (some ⟨g2, 1, none⟩)), (19, .pointer (some ⟨g2, 0, none⟩)), (22, .slice A n c)] (fun w => Strm 25 w B sb (m + 40 + 100 + 1000)) [(g1, 86, [.slice none 0 0, .slice none 0 0, .slice none 0 0, .int .i64 0, .int .i64 0]), (g2, 86, [.slice A0 4 c0, .slice A1 n1 c1, .slice A n c, .int .i64 0, .int .i64 0])] [⟨.slice A n c, 199, 6, n, l.flatMap bkEnc⟩, ⟨.slice A1 n1 c1, 254, 2, n1, sl.flatMap skEnc⟩, ⟨.slice A0 4 c0, 170, 2, 4, cs.flatMap csEnc⟩] [] := by
  skip
  rw [hW]
  refine wa_all [1, 3, 6] (by kernel_rfl) rfl ⟨⟨_, rfl, ?_⟩, ⟨_, rfl, ?_⟩, ⟨_, rfl, ?_⟩, trivial⟩
  ·refine lk_ sc62 1 rfl rfl rfl (wl_nil ?_)
   refine nw 14 423 (fun _ hm => ⟨hm.bl 0, trivial⟩) fun z => ?_
   have h := J423 
   rw [hW] at h
   refine wa_weak ?_ ?_ h
   ·exact ⟨rfl, rfl, rfl, rfl, rfl, rfl, trivial⟩
   exact fun _ hm => hm.pick [0, 1] [0, 1, 2] [] rfl rfl
  ·refine lk_ sc83 1 rfl rfl rfl (wl_nil ?_)
   refine nw 14 429 (fun _ hm => ⟨hm.bl 0, trivial⟩) fun z => ?_
   have h := J429 
   rw [hW] at h
   refine wa_weak ?_ ?_ h
   ·exact ⟨rfl, rfl, rfl, rfl, rfl, rfl, trivial⟩
   exact fun _ hm => hm.pick [0, 1] [0, 1, 2] [] rfl rfl
  refine lk_ sc62 1 rfl rfl rfl (wl_nil ?_)
  refine nw 14 485 (fun _ hm => ⟨hm.bl 0, trivial⟩) fun z => ?_
  have h := J485 
  rw [hW] at h
  refine wa_weak ?_ ?_ h
  ·exact ⟨rfl, rfl, rfl, rfl, rfl, rfl, trivial⟩
  exact fun _ hm => hm.pick [0, 1] [0, 1, 2] [] rfl rfl
 have J165 : W 10 (lb 14 165) [(4, .pointer (some ⟨g1, 0, none⟩)), (5, .pointer (some ⟨g2, 0, none⟩)), (14, .pointer (some ⟨g2, 0, none⟩)), (16, .pointer (some ⟨g2, 1, none⟩)), (19, .pointer (some ⟨g2, 0, none⟩)), (21, .pointer (some ⟨g2, 2, none⟩))] (fun w => Strm 25 w B sb (m + 40 + 100 + 1000)) [(g1, 86, [.slice none 0 0, .slice none 0 0, .slice none 0 0, .int .i64 0, .int .i64 0]), (g2, 86, [.slice A0 4 c0, .slice A1 n1 c1, .slice A n c, .int .i64 0, .int .i64 0])] [⟨.slice A n c, 199, 6, n, l.flatMap bkEnc⟩, ⟨.slice A1 n1 c1, 254, 2, n1, sl.flatMap skEnc⟩, ⟨.slice A0 4 c0, 170, 2, 4, cs.flatMap csEnc⟩] [] := by
  skip
  rw [hW]
  refine wa_all [1, 3, 6, 8] (by kernel_rfl) rfl ⟨⟨_, rfl, ?_⟩, ⟨_, rfl, ?_⟩, ⟨_, rfl, ?_⟩, ⟨_, rfl, ?_⟩, trivial⟩
  ·refine lk_ sc62 1 rfl rfl rfl (wl_nil ?_)
   refine nw 14 167 (fun _ hm => ⟨hm.bl 0, trivial⟩) fun z => ?_
   have h := J167 
   rw [hW] at h
   refine wa_weak ?_ ?_ h
   ·exact ⟨rfl, rfl, rfl, rfl, rfl, rfl, trivial⟩
   exact fun _ hm => hm.pick [0, 1] [0, 1, 2] [] rfl rfl
  ·refine lk_ sc83 1 rfl rfl rfl (wl_nil ?_)
   refine nw 14 173 (fun _ hm => ⟨hm.bl 0, trivial⟩) fun z => ?_
   have h := J173 
   rw [hW] at h
   refine wa_weak ?_ ?_ h
   ·exact ⟨rfl, rfl, rfl, rfl, rfl, rfl, trivial⟩
   exact fun _ hm => hm.pick [0, 1] [0, 1, 2] [] rfl rfl
  ·refine lk_ sc62 1 rfl rfl rfl (wl_nil ?_)
   refine nw 14 229 (fun _ hm => ⟨hm.bl 0, trivial⟩) fun z => ?_
   have h := J229 
   rw [hW] at h
   refine wa_weak ?_ ?_ h
   ·exact ⟨rfl, rfl, rfl, rfl, rfl, rfl, trivial⟩
   exact fun _ hm => hm.pick [0, 1] [0, 1, 2] [] rfl rfl
  refine lk_ sc84 1 rfl rfl rfl (wl_nil ?_)
  refine nw 14 421 (fun _ hm => ⟨hm.bl 0, trivial⟩) fun z => ?_
  have h := J421 
  rw [hW] at h
  refine wa_weak ?_ ?_ h
  ·exact ⟨rfl, rfl, rfl, rfl, rfl, rfl, trivial⟩
  exact fun _ hm => hm.pick [0, 1] [0, 1, 2] [] rfl rfl
 rw [hW]
 have h := J165 
 rw [hW] at h
 refine wa_weak ?_ ?_ h
 ·exact ⟨rfl, rfl, rfl, rfl, rfl, rfl, trivial⟩
 exact fun _ hm => hm.pick [1, 0] [0, 1, 2] [] rfl rfl
theorem call_any (A0 A1 A : Option Addr) (n0 c0 n1 c1 n c : Nat) (x y : Int) (w : World) :
  Calls Tryz.prog 50 #[.agg #[.slice A0 n0 c0, .slice A1 n1 c1, .slice A n c, .int .i64 x, .int .i64 y]] w (GotE w (firstE [x, y])) := by
 refine gw_enter ⟨9, w, none, []⟩ Tryz.func50 rfl Tryz.ntmps50 rfl (mem0 (X := []) allF_nil allL_nil) ?_
 refine sr_ ?_
 refine wl_box rfl rfl rfl fun g1 => ?_
 refine sg_ rfl (nn_ (sr_ (fd_ fo86_3 rfl rfl (lk_ sc28 0 rfl rfl rfl (fd_ fo86_4 rfl rfl (lk_ sc28 0 rfl rfl rfl ?_))))))
 refine wl_buildSlice (e := 28) (cs := [.int .i64 x, .int .i64 y]) rfl (by kernel_rfl) rfl fun g2 => ?_
 refine wl_callw rfl cb145 rfl rfl (fun wx hm => (errs_any [x, y] _ _ _ wx (hm.blkI 0 rfl) (by simp))) ?_
 refine sg_ rfl (nn_ ?_)
 refine gw_ret ?_
 refine nx_ret1 rfl rfl fun wx hm => ?_
 exact ⟨rfl, hm.g⟩
end Go.Proofs.YtnpcbfllnkiopaaGreatDoor
namespace Go.Proofs.YtnpcbfllnkiopaaGreatDoor
open Go.RowKit
theorem many_leG {cs : List Cs} {sl : List Sk} (h : stockE cs sl = 0) (k : ByteArray) : manyV sl k ≤ 100 := by
  have hall : ∀ x ∈ sl, x.many ≤ 100 := fun x hx => by
    unfold stockE firstE at h
    by_cases h1 : classesE cs = 0
    · rw [if_pos h1] at h
      unfold firstE at h
      by_cases h2 : 30 < sl.length
      · rw [if_pos h2] at h; cases h
      · rw [if_neg h2] at h
        have h3 : scanE (skE cs) none sl = 0 := by
          by_cases e : scanE (skE cs) none sl = 0
          · exact e
          · rw [if_neg e] at h; exact h
        obtain ⟨q, hq⟩ := scanE_all h3 x hx
        unfold skE at hq
        repeat (split at hq; · cases hq)
        rename_i h4 h5 h6
        simp [inB] at h6
        omega
    · rw [if_neg h1] at h; exact absurd h h1
  clear h
  induction sl with
  | nil => show (0 : Int) ≤ 100; omega
  | cons x r ih =>
    unfold manyV
    split
    · exact hall x (List.mem_cons_self ..)
    · exact ih fun y hy => hall y (List.mem_cons_of_mem _ hy)
theorem gGiven1_any (x0 x1 y0 y1 : ByteArray) (x2 y2 : Int) (w : World) :
  Calls Tryz.prog 142 #[.agg #[.string x0, .string x1, .int .i64 x2], .agg #[.string y0, .string y1, .int .i64 y2]] w (fun e w' => e = .returned (.int .i64 (cmpS x0 y0)) ∧ w.grownBy w' none) := by
 refine gw_enter ⟨10, w, none, []⟩ Tryz.func142 rfl Tryz.ntmps142 rfl (mem0 (X := []) allF_nil allL_nil) ?_
 refine sr_ ?_
 refine wl_box rfl rfl rfl fun g1 => ?_
 refine wl_box rfl rfl rfl fun g2 => ?_
 refine sg_ rfl (nn_ (sr_ (fd_ fo193_0 rfl rfl (lk_ sc9 1 rfl rfl rfl (fd_ fo193_0 rfl rfl (lk_ sc9 0 rfl rfl rfl ?_))))))
 refine wl_callv rfl cb143 rfl rfl (fun wx hm => (strCompare_any _ _ wx)) ?_
 refine sg_ rfl (nn_ ?_)
 refine gw_ret ?_
 refine nx_ret1 rfl rfl fun wx hm => ?_
 exact ⟨rfl, hm.g⟩
theorem ins_gw  (l0 : List Gv) (br n cap base : Nat) (w : World) (h : w.ownsRow base 193 3 (.slice (some ⟨br, 0, none⟩) n cap) n (l0.flatMap gvEnc)) (hl0 : l0.length = n) (hn : n ≤ 1000000)  :
  Calls Tryz.prog 269 #[.slice (some ⟨br, 0, none⟩) n cap, .int .i64 0, .int .i64 ((n : Nat) : Int), .func (.func 142) #[] #[]] w (fun e w' => e = .returned (.tuple #[]) ∧ w'.ownsRow base 193 3 (.slice (some ⟨br, 0, none⟩) n cap) n ((isort (gvLt) l0).flatMap gvEnc) ∧ w.grownBy w' (some br)) := by
 obtain ⟨R, hR⟩ : ∃ z, z = isort (gvLt) l0 := ⟨_, rfl⟩
 rw [← hR]
 refine gw_enter ⟨53, w, (some br), []⟩ Tryz.func269 rfl Tryz.ntmps269 rfl (memR (X := []) h allF_nil allL_nil) ?_
 refine sr_ (mv_ rfl (ad_ rfl rfl ?_))
 refine wl_set 11 (v' := .int .i64 1) rfl rfl ?_
 refine sg_ rfl (nn_ (gw_block ?_))
 refine gw_loop (γ := Nat × List Gv) (fun gg => (1 ≤ gg.1 ∧ gg.1 ≤ n + 1) ∧ gg.2.length = n ∧ isortF (gvLt) (n - gg.1) gg.1 gg.2 = R) (fun gg => [(0, .slice (some ⟨br, 0, none⟩) n cap), (1, .int .i64 0), (2, .int .i64 ((n : Nat) : Int)), (3, .func (.func 142) #[] #[]), (8, .int .i64 ((gg.1 : Nat) : Int))]) (fun gg => RowK base 193 3 n cap br ((gg.2).flatMap gvEnc)) (fun gg => []) (fun gg => []) (fun gg => []) (fun gg => n + 1 - gg.1) (1, l0) ⟨⟨Nat.le_refl _, by omega⟩, hl0, by rw [hR]; unfold isort; rw [hl0]⟩ ⟨rfl, rfl, rfl, rfl, (some_int (by omega)), trivial⟩ (fun _ hm => hm.pick [] [] [] rfl rfl) ?_
 rintro ⟨i, l⟩ hinv
 replace hinv : (1 ≤ i ∧ i ≤ n + 1) ∧ l.length = n ∧ isortF (gvLt) (n - i) i l = R := hinv
 dsimp only
 refine gw_seq (sr_ ?_)
 obtain ⟨⟨hi1, hi2⟩, hl1, hR1⟩ := hinv
 refine mv_ rfl (mv_ rfl (wl_ov (ov_lss rfl rfl) rfl (nn_ ?_)))
 refine gw_cond rfl (fun hh => ?_) (fun hh => ?_)
 ·have hi : ((i : Nat) : Int) < ((n : Nat) : Int) := by simpa using hh
  clear hh
  refine gw_skip (nx_then (gw_seq (gw_block (sr_ ?_))))
  have hRi : isortF (gvLt) (n - (i + 1)) (i + 1) (sink (gvLt) i l) = R := by rw [← hR1, show n - i = (n - (i + 1)) + 1 by omega]; rfl
  obtain ⟨S, hS⟩ : ∃ z, z = sink (gvLt) i l := ⟨_, rfl⟩
  rw [← hS] at hRi
  have hSl : S.length = n := by rw [hS, sink_len]; exact hl1
  refine mv_ rfl (sg_ rfl (nn_ (gw_block ?_)))
  refine gw_loop (γ := Nat × List Gv) (fun gg => (gg.1 ≤ i) ∧ gg.2.length = n ∧ sink (gvLt) gg.1 gg.2 = S) (fun gg => [(0, .slice (some ⟨br, 0, none⟩) n cap), (1, .int .i64 0), (2, .int .i64 ((n : Nat) : Int)), (3, .func (.func 142) #[] #[]), (8, .int .i64 ((i : Nat) : Int)), (9, .int .i64 ((gg.1 : Nat) : Int))]) (fun gg => RowK base 193 3 n cap br ((gg.2).flatMap gvEnc)) (fun gg => []) (fun gg => []) (fun gg => []) (fun gg => gg.1) (i, l) ⟨Nat.le_refl _, hl1, hS.symm⟩ ⟨rfl, rfl, rfl, rfl, rfl, rfl, trivial⟩ (fun _ hm => hm.pick [] [] [] rfl rfl) ?_
  rintro ⟨jj, m⟩ hinv
  replace hinv : (jj ≤ i) ∧ m.length = n ∧ sink (gvLt) jj m = S := hinv
  dsimp only
  refine gw_seq (gw_seq ?_)
  obtain ⟨hj1, hm1, hS1⟩ := hinv
  rcases jj with _ | j
  ·refine gd (fun wz => True) mixed (fun _ _ => trivial) fun z => ?_
   refine wt 0 17 1 rfl z (ov_move rfl) ?_
   refine wa_set 18 (v' := .int .i64 0) rfl rfl ?_
   refine wt 1 17 3 rfl z (ov_move rfl) ?_
   refine wt 2 17 7 rfl z (ov_gtr rfl rfl) ?_
   refine wa_set 20 (v' := .bool false) rfl (congrArg Value.bool (by decide)) ?_
   refine wt 3 17 15 rfl z (ov_move rfl) ?_
   refine wtf 4 17 31 rfl rfl rfl z ?_
   refine wtf 5 17 63 rfl rfl rfl z ?_
   refine wtf 6 17 127 rfl rfl rfl z ?_
   refine wtf 7 17 255 rfl rfl rfl z ?_
   refine wtf 8 17 511 rfl rfl rfl z ?_
   refine wtf 9 17 1023 rfl rfl rfl z ?_
   refine wtf 10 17 2047 rfl rfl rfl z ?_
   refine wtf 11 17 4095 rfl rfl rfl z ?_
   refine wtf 12 17 8191 rfl rfl rfl z ?_
   refine wtf 13 17 16383 rfl rfl rfl z ?_
   refine wtf 14 17 32767 rfl rfl rfl z ?_
   refine wtf 15 17 65535 rfl rfl rfl z ?_
   refine wt 16 17 131071 rfl z (ov_pick_f rfl rfl) ?_
   refine wa_done (by kernel_rfl) ?_
   refine nx_then (cf_ rfl ?_)
   refine gw_exit ?_
   refine nx_then_exit (nx_then_exit ?_)
   refine nx_blk_here ?_
   refine nx_blk_nrm (nx_then (gw_region (mv_ rfl (ad_ rfl rfl (sg_ rfl (wl_nil ?_))))))
   have hm2 : m = S := hS1
   exact nx_round (i + 1, m) ⟨⟨by dsimp only; omega, by dsimp only; omega⟩, by rw [hm2]; exact hSl, by rw [hm2]; exact hRi⟩ (by dsimp only; omega) ⟨rfl, rfl, rfl, rfl, (some_int (by omega)), trivial⟩ (fun _ hm => hm.pick [] [] [] rfl rfl)
  have hj2 : j + 1 < n := by omega
  obtain ⟨xx, hx⟩ : ∃ x, m[j + 1]? = some x := ⟨_, List.getElem?_eq_getElem (by omega)⟩
  obtain ⟨x0, x1, x2⟩ := xx
  obtain ⟨yy, hy⟩ : ∃ x, m[j]? = some x := ⟨_, List.getElem?_eq_getElem (by omega)⟩
  obtain ⟨y0, y1, y2⟩ := yy
  refine gd (fun wz => (RowK base 193 3 n cap br ((m).flatMap gvEnc)) wz ∧ True) mixed (fun _ hm => ⟨hm.k, trivial⟩) fun z => ?_
  refine wt 0 17 1 rfl z (ov_move rfl) ?_
  refine wt 1 17 3 rfl z (ov_move rfl) ?_
  refine wt 2 17 7 rfl z (ov_gtr rfl rfl) ?_
  refine wa_set 20 (v' := .bool true) rfl (congrArg Value.bool (decide_eq_true (by omega))) ?_
  refine wt 3 17 15 rfl z (ov_move rfl) ?_
  refine wto 4 17 31 rfl rfl rfl z (ov_move rfl) ?_
  refine wto 5 17 63 rfl rfl rfl z (ov_move rfl) ?_
  refine wto 6 17 127 rfl rfl rfl z (ov_move rfl) ?_
  refine wto 7 17 255 rfl rfl rfl z (ov_index (j := (j + 1)) es88 rfl rfl (by omega)) ?_
  refine wto 8 17 511 rfl rfl rfl z (ov_elem (vs := [.string x0, .string x1, .int .i64 x2]) rz193 rfl (fun _ hm => (RowK.get (hm.1) gv_len hm1)) hx rfl rfl) ?_
  refine wto 9 17 1023 rfl rfl rfl z (ov_move rfl) ?_
  refine wto 10 17 2047 rfl rfl rfl z (ov_move rfl) ?_
  refine wto 11 17 4095 rfl rfl rfl z (ov_sub rfl rfl (by omega) (by omega)) ?_
  refine wa_set 29 (v' := .int .i64 ((j : Nat) : Int)) rfl (congrArg (Value.int .i64) (by omega)) ?_
  refine wto 12 17 8191 rfl rfl rfl z (ov_index (j := j) es88 rfl rfl (by omega)) ?_
  refine wto 13 17 16383 rfl rfl rfl z (ov_elem (vs := [.string y0, .string y1, .int .i64 y2]) rz193 rfl (fun _ hm => (RowK.get (hm.1) gv_len hm1)) hy rfl rfl) ?_
  refine wa1 14 rfl ?_
  refine wl_guard_on rfl rfl rfl ?_
  refine wl_callv rfl cb142 rfl rfl (fun wx hm => (gGiven1_any x0 x1 y0 y1 x2 y2 wx)) ?_
  refine wl_nil ?_
  refine nw 17 32767 (fun _ hm => ⟨hm.k, trivial⟩) fun z => ?_
  refine wto 15 17 65535 rfl rfl rfl z (ov_lss rfl rfl) ?_
  refine wt 16 17 131071 rfl z (ov_pick_t rfl rfl) ?_
  refine wa_done (by kernel_rfl) ?_
  refine nx_then ?_
  refine gw_cond rfl (fun hh => ?_) (fun hh => ?_)
  ·have hlt : cmpS x0 y0 < 0 := by simpa using hh
   clear hh
   refine gw_skip (nx_then (gw_seq (gw_block ?_)))
   have hlt2 : (gvLt) ⟨x0, x1, x2⟩ ⟨y0, y1, y2⟩ = true := decide_eq_true (show cmpS x0 y0 < 0 from hlt)
   have hS2 := (sink_yes hx hy hlt2).symm.trans hS1
   refine gd (fun wz => True) mixed (fun _ _ => trivial) fun z => ?_
   refine wt 0 18 1 rfl z (ov_move rfl) ?_
   refine wt 1 18 3 rfl z (ov_move rfl) ?_
   refine wt 2 18 7 rfl z (ov_move rfl) ?_
   refine wt 3 18 15 rfl z (ov_move rfl) ?_
   refine wt 4 18 31 rfl z (ov_sub rfl rfl (by omega) (by omega)) ?_
   refine wa_set 41 (v' := .int .i64 ((j : Nat) : Int)) rfl (congrArg (Value.int .i64) (by omega)) ?_
   refine wt 5 18 63 rfl z (ov_move rfl) ?_
   refine wt 6 18 127 rfl z (ov_move rfl) ?_
   refine wt 7 18 255 rfl z (ov_sub rfl rfl (by omega) (by omega)) ?_
   refine wa_set 44 (v' := .int .i64 ((j : Nat) : Int)) rfl (congrArg (Value.int .i64) (by omega)) ?_
   refine wt 8 18 511 rfl z (ov_index (j := j) es88 rfl rfl (by omega)) ?_
   refine wt 10 18 1535 rfl z (ov_move rfl) ?_
   refine wt 11 18 3583 rfl z (ov_move rfl) ?_
   refine wt 12 18 7679 rfl z (ov_index (j := (j + 1)) es88 rfl rfl (by omega)) ?_
   refine wa_all [9, 13] (by kernel_rfl) rfl ⟨⟨_, rfl, ?_⟩, ⟨_, rfl, ?_⟩, trivial⟩
   ·refine wl_ov (ov_elem (vs := [.string y0, .string y1, .int .i64 y2]) rz193 rfl (fun _ hm => (RowK.get hm.k gv_len hm1)) hy rfl rfl) rfl ?_
    refine wl_nil ?_
    refine nw 18 8191 (fun _ _ => trivial) fun z => ?_
    refine wa1 13 rfl ?_
    refine wl_ov (ov_elem (vs := [.string x0, .string x1, .int .i64 x2]) rz193 rfl (fun _ hm => (RowK.get hm.k gv_len hm1)) hx rfl rfl) rfl ?_
    refine wl_nil ?_
    refine nw 18 16383 (fun _ _ => trivial) fun z => ?_
    refine wt 14 18 32767 rfl z (ov_index (j := (j + 1)) es88 rfl rfl (by omega)) ?_
    refine wa1 15 rfl ?_
    refine wl_storesRow (l := m) (j := j + 1) (r := 0) (el := ⟨x0, x1, x2⟩) (el' := ⟨y0, y1, y2⟩) rfl rz193 rfl rfl rfl rfl gv_len rfl hx hm1 (by decide) rfl rfl ?_
    refine wl_nil ?_
    refine nw 18 65535 (fun _ _ => trivial) fun z => ?_
    refine wt 16 18 131071 rfl z (ov_index (j := j) es88 rfl rfl (by omega)) ?_
    refine wa1 17 rfl ?_
    refine wl_storesRow (l := m.set (j + 1) ⟨y0, y1, y2⟩) (j := j) (r := 0) (el := ⟨y0, y1, y2⟩) (el' := ⟨x0, x1, x2⟩) rfl rz193 rfl rfl rfl rfl gv_len rfl (by rw [List.getElem?_set_ne (by omega)]; exact hy) (by rw [List.length_set]; exact hm1) (by decide) rfl rfl ?_
    refine wl_nil ?_
    refine nw 18 262143 (fun _ _ => trivial) fun z => ?_
    refine wa_done (by kernel_rfl) ?_
    refine nx_blk_nrm (nx_then (gw_region (mv_ rfl ?_)))
    refine wl_ov (ov_sub rfl rfl (by omega) (by omega)) rfl ?_
    refine wl_set 36 (v' := .int .i64 ((j : Nat) : Int)) rfl (congrArg (Value.int .i64) (by omega)) ?_
    refine sg_ rfl (wl_nil ?_)
    exact nx_round (j, (m.set (j + 1) ⟨y0, y1, y2⟩).set j ⟨x0, x1, x2⟩) ⟨by dsimp only; omega, by simp [hm1], hS2⟩ (by dsimp only; omega) ⟨rfl, rfl, rfl, rfl, rfl, (some_int (by omega)), trivial⟩ (fun _ hm => hm.pick [] [] [] rfl rfl)
   refine wl_ov (ov_elem (vs := [.string x0, .string x1, .int .i64 x2]) rz193 rfl (fun _ hm => (RowK.get hm.k gv_len hm1)) hx rfl rfl) rfl ?_
   refine wl_nil ?_
   refine nw 18 15871 (fun _ _ => trivial) fun z => ?_
   refine wa1 9 rfl ?_
   refine wl_ov (ov_elem (vs := [.string y0, .string y1, .int .i64 y2]) rz193 rfl (fun _ hm => (RowK.get hm.k gv_len hm1)) hy rfl rfl) rfl ?_
   refine wl_nil ?_
   refine nw 18 16383 (fun _ _ => trivial) fun z => ?_
   refine wt 14 18 32767 rfl z (ov_index (j := (j + 1)) es88 rfl rfl (by omega)) ?_
   refine wa1 15 rfl ?_
   refine wl_storesRow (l := m) (j := j + 1) (r := 0) (el := ⟨x0, x1, x2⟩) (el' := ⟨y0, y1, y2⟩) rfl rz193 rfl rfl rfl rfl gv_len rfl hx hm1 (by decide) rfl rfl ?_
   refine wl_nil ?_
   refine nw 18 65535 (fun _ _ => trivial) fun z => ?_
   refine wt 16 18 131071 rfl z (ov_index (j := j) es88 rfl rfl (by omega)) ?_
   refine wa1 17 rfl ?_
   refine wl_storesRow (l := m.set (j + 1) ⟨y0, y1, y2⟩) (j := j) (r := 0) (el := ⟨y0, y1, y2⟩) (el' := ⟨x0, x1, x2⟩) rfl rz193 rfl rfl rfl rfl gv_len rfl (by rw [List.getElem?_set_ne (by omega)]; exact hy) (by rw [List.length_set]; exact hm1) (by decide) rfl rfl ?_
   refine wl_nil ?_
   refine nw 18 262143 (fun _ _ => trivial) fun z => ?_
   refine wa_done (by kernel_rfl) ?_
   refine nx_blk_nrm (nx_then (gw_region (mv_ rfl ?_)))
   refine wl_ov (ov_sub rfl rfl (by omega) (by omega)) rfl ?_
   refine wl_set 36 (v' := .int .i64 ((j : Nat) : Int)) rfl (congrArg (Value.int .i64) (by omega)) ?_
   refine sg_ rfl (wl_nil ?_)
   exact nx_round (j, (m.set (j + 1) ⟨y0, y1, y2⟩).set j ⟨x0, x1, x2⟩) ⟨by dsimp only; omega, by simp [hm1], hS2⟩ (by dsimp only; omega) ⟨rfl, rfl, rfl, rfl, rfl, (some_int (by omega)), trivial⟩ (fun _ hm => hm.pick [] [] [] rfl rfl)
  have hlt : ¬ (cmpS x0 y0 < 0) := by simpa using hh
  clear hh
  refine gw_exit ?_
  refine nx_then_exit (nx_then_exit ?_)
  refine nx_blk_here ?_
  refine nx_blk_nrm (nx_then (gw_region ?_))
  have hlt2 : (gvLt) ⟨x0, x1, x2⟩ ⟨y0, y1, y2⟩ = false := decide_eq_false (show ¬ cmpS x0 y0 < 0 from hlt)
  have hS2 := (sink_no hx hy hlt2).symm.trans hS1
  refine mv_ rfl (ad_ rfl rfl (sg_ rfl (wl_nil ?_)))
  have hm2 : m = S := hS2
  exact nx_round (i + 1, m) ⟨⟨by dsimp only; omega, by dsimp only; omega⟩, by rw [hm2]; exact hSl, by rw [hm2]; exact hRi⟩ (by dsimp only; omega) ⟨rfl, rfl, rfl, rfl, (some_int (by omega)), trivial⟩ (fun _ hm => hm.pick [] [] [] rfl rfl)
 have hi : ¬ (((i : Nat) : Int) < ((n : Nat) : Int)) := by simpa using hh
 clear hh
 refine gw_exit ?_
 refine nx_then_exit (nx_then_exit ?_)
 refine nx_blk_here ?_
 obtain rfl : l = R := by rw [← hR1, show n - i = 0 by omega]; rfl
 refine nx_ret0 rfl fun wx hm => ?_
 exact ⟨rfl, fin_row hm.k hm.g⟩
theorem pdq_gw  (l0 : List Gv) (br n cap base : Nat) (lim : Int) (w : World) (h : w.ownsRow base 193 3 (.slice (some ⟨br, 0, none⟩) n cap) n (l0.flatMap gvEnc)) (hl0 : l0.length = n) (hn : n ≤ 12)  :
  Calls Tryz.prog 224 #[.slice (some ⟨br, 0, none⟩) n cap, .int .i64 0, .int .i64 ((n : Nat) : Int), .int .i64 lim, .func (.func 142) #[] #[]] w (fun e w' => e = .returned (.tuple #[]) ∧ w'.ownsRow base 193 3 (.slice (some ⟨br, 0, none⟩) n cap) n ((isort (gvLt) l0).flatMap gvEnc) ∧ w.grownBy w' (some br)) := by
 refine gw_enter ⟨148, w, (some br), []⟩ Tryz.func224 rfl Tryz.ntmps224 rfl (memR (X := []) h allF_nil allL_nil) ?_
 refine sr_ (sg_ rfl (nn_ (sr_ (sg_ rfl (nn_ (gw_block ?_))))))
 refine gw_rounds 1 ?_
 refine gr_next ?_
 refine gw_block (sr_ (mv_ rfl (mv_ rfl ?_)))
 refine wl_ov (ov_sub rfl rfl (by omega) (by omega)) rfl ?_
 refine sg_ rfl (nn_ (gw_seq (sr_ (mv_ rfl (wl_ov (ov_leq rfl rfl) rfl ?_)))))
 refine wl_set 25 (v' := .bool true) rfl (congrArg Value.bool (decide_eq_true (by omega))) ?_
 refine nn_ (ct_ rfl (sr_ (mv_ rfl (mv_ rfl (mv_ rfl (mv_ rfl ?_))))))
 refine wl_callK rfl rfl rfl cb269 rfl rfl (fun wx hm => (ins_gw  l0 br n cap base wx hm.k hl0 (by omega) )) ?_
 refine nn_ ?_
 refine gw_ret ?_
 refine nx_then_ret (nx_blk_ret (nx_then_ret (nx_blk_ret ?_)))
 refine nx_ret0' rfl fun wx hm => ?_
 exact ⟨rfl, fin_row hm.k hm.g⟩
theorem sort_gw  (l0 : List Gv) (br n cap base : Nat) (w : World) (h : w.ownsRow base 193 3 (.slice (some ⟨br, 0, none⟩) n cap) n (l0.flatMap gvEnc)) (hl0 : l0.length = n) (hn : n ≤ 12)  :
  Calls Tryz.prog 141 #[.slice (some ⟨br, 0, none⟩) n cap, .func (.func 142) #[] #[]] w (fun e w' => e = .returned (.tuple #[]) ∧ w'.ownsRow base 193 3 (.slice (some ⟨br, 0, none⟩) n cap) n ((isort (gvLt) l0).flatMap gvEnc) ∧ w.grownBy w' (some br)) := by
 refine gw_enter ⟨14, w, (some br), []⟩ Tryz.func141 rfl Tryz.ntmps141 rfl (memR (X := []) h allF_nil allL_nil) ?_
 refine sr_ (mv_ rfl (wl_ov (ov_len es88 rfl) rfl (sg_ rfl (nn_ (gw_region (mv_ rfl (mv_ rfl (mv_ rfl ?_))))))))
 refine wl_ov (ov_u64 (a := n) (by kernel_rfl) (by kernel_rfl) rfl (by omega)) rfl ?_
 refine wl_callx (γ := Int) (val := (fun g => .int .i64 g)) (φ := (fun g => True)) (Y := (fun g => fun _ => True)) rfl cb225 rfl rfl (fun wx hm => (bitsLen_any n wx (by omega)).mono fun _ _ ⟨v, he, hg⟩ => ⟨v, he, trivial, hg, trivial⟩) (fun _ => Lasts2.true_) ?_
 rintro lim hphi
 clear hphi
 refine mv_ rfl ?_
 refine wl_callK rfl rfl rfl cb224 rfl rfl (fun wx hm => (pdq_gw  l0 br n cap base _ wx hm.k hl0 hn )) ?_
 refine wl_nil ?_
 refine nx_ret0 rfl fun wx hm => ?_
 exact ⟨rfl, fin_row hm.k hm.g⟩
theorem ins0_gw  (A : Option Addr) (cap : Nat)  (w : World) : Calls Tryz.prog 269 #[.slice A 0 cap, .int .i64 0, .int .i64 0, .func (.func 142) #[] #[]] w (fun e w' => e = .returned (.tuple #[]) ∧ w.grownBy w' none) := by
 refine gw_enter ⟨53, w, none, []⟩ Tryz.func269 rfl Tryz.ntmps269 rfl (mem0 (X := []) allF_nil allL_nil) ?_
 refine sr_ (mv_ rfl (ad_ rfl rfl ?_))
 refine wl_set 11 (v' := .int .i64 1) rfl rfl ?_
 refine sg_ rfl (nn_ (gw_block ?_))
 refine gw_rounds 1 ?_
 refine gr_next ?_
 refine gw_seq (sr_ (mv_ rfl (mv_ rfl (wl_ov (ov_lss rfl rfl) rfl ?_))))
 refine wl_set 14 (v' := .bool false) rfl (congrArg Value.bool (by decide)) ?_
 refine nn_ (cf_ rfl ?_)
 refine gw_exit ?_
 refine nx_then_exit (nx_then_exit ?_)
 refine nx_blk_here ?_
 refine nx_ret0 rfl fun wx hm => ?_
 exact ⟨rfl, hm.g⟩
theorem pdq0_gw  (A : Option Addr) (cap : Nat) (lim : Int) (w : World) : Calls Tryz.prog 224 #[.slice A 0 cap, .int .i64 0, .int .i64 0, .int .i64 lim, .func (.func 142) #[] #[]] w (fun e w' => e = .returned (.tuple #[]) ∧ w.grownBy w' none) := by
 refine gw_enter ⟨148, w, none, []⟩ Tryz.func224 rfl Tryz.ntmps224 rfl (mem0 (X := []) allF_nil allL_nil) ?_
 refine sr_ (sg_ rfl (nn_ (sr_ (sg_ rfl (nn_ (gw_block ?_))))))
 refine gw_rounds 1 ?_
 refine gr_next ?_
 refine gw_block (sr_ (mv_ rfl (mv_ rfl ?_)))
 refine wl_ov (ov_sub rfl rfl (by omega) (by omega)) rfl ?_
 refine wl_set 23 (v' := .int .i64 0) rfl rfl ?_
 refine sg_ rfl (nn_ (gw_seq (sr_ (mv_ rfl (wl_ov (ov_leq rfl rfl) rfl ?_)))))
 refine wl_set 25 (v' := .bool true) rfl (congrArg Value.bool (by decide)) ?_
 refine nn_ (ct_ rfl (sr_ (mv_ rfl (mv_ rfl (mv_ rfl (mv_ rfl ?_))))))
 refine wl_callv rfl cb269 rfl rfl (fun wx hm => (ins0_gw  A cap  wx)) ?_
 refine nn_ ?_
 refine gw_ret ?_
 refine nx_then_ret (nx_blk_ret (nx_then_ret (nx_blk_ret ?_)))
 refine nx_ret0' rfl fun wx hm => ?_
 exact ⟨rfl, hm.g⟩
theorem sort0_gw  (A : Option Addr) (cap : Nat)  (w : World) : Calls Tryz.prog 141 #[.slice A 0 cap, .func (.func 142) #[] #[]] w (fun e w' => e = .returned (.tuple #[]) ∧ w.grownBy w' none) := by
 refine gw_enter ⟨14, w, none, []⟩ Tryz.func141 rfl Tryz.ntmps141 rfl (mem0 (X := []) allF_nil allL_nil) ?_
 refine sr_ (mv_ rfl (wl_ov (ov_len es88 rfl) rfl ?_))
 refine wl_set 6 (v' := .int .i64 0) rfl rfl ?_
 refine sg_ rfl (nn_ (gw_region (mv_ rfl (mv_ rfl (mv_ rfl ?_)))))
 refine wl_ov (ov_u64 (a := 0) (by kernel_rfl) (by kernel_rfl) rfl (by omega)) rfl ?_
 refine wl_callx (γ := Int) (val := (fun g => .int .i64 g)) (φ := (fun g => True)) (Y := (fun g => fun _ => True)) rfl cb225 rfl rfl (fun wx hm => (by have h := bitsLen_any 0 wx (by omega); exact h.mono fun _ _ ⟨v, he, hg⟩ => ⟨v, he, trivial, hg, trivial⟩)) (fun _ => Lasts2.true_) ?_
 rintro lim hphi
 clear hphi
 refine mv_ rfl ?_
 refine wl_callv rfl cb224 rfl rfl (fun wx hm => (pdq0_gw  A cap _ wx)) ?_
 refine wl_nil ?_
 refine nx_ret0 rfl fun wx hm => ?_
 exact ⟨rfl, hm.g⟩
theorem gGiven_any (cs : List Cs) (A0 : Option Addr) (n0 c0 : Nat) (sl : List Sk) (A1 : Option Addr) (n1 c1 : Nat) (l : List Bk) (A : Option Addr) (n c : Nat) (w : World) (B sb m : Nat) (hS : Strm 25 w B sb m) (hm : m ≤ 100000000) (hcs : SlT csEnc 2 170 w A0 n0 cs) (hco : ∀ x ∈ cs, CsOk x) (hn0 : n0 ≤ 30) (hs : SlT skEnc 2 254 w A1 n1 sl) (hso : ∀ x ∈ sl, SkOk x) (hn1 : n1 ≤ 1000) (hl : SlT bkEnc 6 199 w A n l) (hok : ∀ x ∈ l, BkOk x) (hn : n ≤ 9) :
  Calls Tryz.prog 48 #[.pointer (some ⟨sb, 0, none⟩), .slice A0 n0 c0, .slice A1 n1 c1, .slice A n c] w (fun e w' => ∃ (G : Option Addr) (gn gc : Nat) (g : List Gv), e = .returned (.slice G gn gc) ∧ SlT gvEnc 3 193 w' G gn g ∧ gn ≤ 12 ∧ gn ≤ gc ∧ Strm 25 w' B sb (m + 10) ∧ w.grownBy w' (some sb)) := by
 obtain ⟨_, _, _, _, hh, _⟩ := hS.pos
 have hcs0 := hcs.oldRow hh (by decide)
 have hs0 := hs.oldRow hh (by decide)
 have hl0 := hl.oldRow hh (by decide)
 refine gw_enter ⟨80, w, (some sb), [9]⟩ Tryz.func48 rfl Tryz.ntmps48 rfl (memS (X := [SlOld csEnc 2 170 w.heap.size (some sb) A0 n0 cs, SlOld skEnc 2 254 w.heap.size (some sb) A1 n1 sl, SlOld bkEnc 6 199 w.heap.size (some sb) A n l]) hS (allF_cons hcs0 (allF_cons hs0 (allF_cons hl0 allF_nil))) (allL_cons SlOld.lasts (allL_cons SlOld.lasts (allL_cons SlOld.lasts allL_nil)))) ?_
 refine sr_ ?_
 obtain ⟨SE, hSE⟩ : ∃ z, z = stockE cs sl := ⟨_, rfl⟩
 obtain ⟨KE, hKE⟩ : ∃ z, z = checkE cs l := ⟨_, rfl⟩
 refine sg_ rfl (nn_ (gw_seq (sr_ (mv_ rfl (mv_ rfl ?_)))))
 refine wl_callv (v := .int .i64 SE) rfl cb138 rfl rfl (fun wx hm => (by rw [hSE]; exact stockFault_any cs A0 n0 c0 sl A1 n1 c1 wx (hm.fact 0 rfl).1 hco (by omega) (hm.fact 1 rfl).1 hso hn1)) ?_
 refine wl_ov (ov_neq rfl rfl) rfl (mv_ rfl ?_)
 rcases Bool.eq_false_or_eq_true (!decide (SE = 0)) with h1 | h1
 ·refine wl_set 18 rfl (congrArg Value.bool h1) ?_
  refine goff rfl rfl rfl (goff rfl rfl rfl (goff rfl rfl rfl (goff rfl rfl rfl (pt_ rfl rfl (nn_ (ct_ rfl (sr_ (sg_ rfl (nn_ ?_)))))))))
  refine gw_ret ?_
  refine nx_then_ret ?_
  refine nx_ret1 rfl rfl fun wx hm => ?_
  exact ⟨none, 0, 0, [], rfl, SlT.nil_ _ _, by omega, by omega, hm.k.more (by omega), hm.g⟩
 refine wl_set 18 rfl (congrArg Value.bool h1) ?_
 refine wl_guard_on rfl rfl rfl (mv_ rfl (wl_guard_on rfl rfl rfl (mv_ rfl (wl_guard_on rfl rfl rfl ?_))))
 refine wl_callv (v := .int .i64 KE) rfl cb139 rfl rfl (fun wx hm => (by rw [hKE]; exact bookingsFault_any cs A0 n0 c0 l A n c wx (hm.fact 0 rfl).1 hco (by omega) (hm.fact 2 rfl).1 hok (by omega))) ?_
 refine wl_guard_on rfl rfl rfl (wl_ov (ov_neq rfl rfl) rfl (pf_ rfl rfl (nn_ ?_)))
 rcases Bool.eq_false_or_eq_true (!decide (KE = 0)) with h2 | h2
 ·refine gw_set 23 rfl (congrArg Value.bool h2) ?_
  refine ct_ rfl (sr_ (sg_ rfl (nn_ ?_)))
  refine gw_ret ?_
  refine nx_then_ret ?_
  refine nx_ret1 rfl rfl fun wx hm => ?_
  exact ⟨none, 0, 0, [], rfl, SlT.nil_ _ _, by omega, by omega, hm.k.more (by omega), hm.g⟩
 refine gw_set 23 rfl (congrArg Value.bool h2) ?_
 have hst0 : stockE cs sl = 0 := by rw [← hSE]; simpa using h1
 have hck0 : checkE cs l = 0 := by rw [← hKE]; simpa using h2
 have hmany := many_leG hst0
 obtain ⟨hce, hfm, _⟩ := right_all (cs := cs) (sl := sl) (l := l) (by rw [hst0, hck0]; rfl)
 obtain ⟨h30, hcl, hlo⟩ := classesE_ok hce
 refine cf_ rfl (gw_skip (nx_then (sr_ (mv_ rfl (mv_ rfl (mv_ rfl ?_))))))
 refine wl_callG (γ := Option Addr × Nat × Nat × Option Addr × Nat × Nat) (val := fun g => .tuple #[.slice g.1 g.2.1 g.2.2.1, .slice g.2.2.2.1 g.2.2.2.2.1 g.2.2.2.2.2]) (φ := fun g => (givenE cs sl l).length = g.2.1 ∧ g.2.1 ≤ n ∧ g.2.1 + g.2.2.2.2.1 ≤ n) (K' := fun _ => fun w => Strm 25 w B sb (m)) (L' := fun _ => []) (O' := fun g => [⟨.slice g.1 g.2.1 g.2.2.1, 193, 3, g.2.1, (givenE cs sl l).flatMap gvEnc⟩]) (X' := fun g => [fun wy => SlT sgEnc 1 9 wy g.2.2.2.1 g.2.2.2.2.1 (waitE cs sl l), SlOld csEnc 2 170 w.heap.size (some sb) A0 n0 cs, SlOld skEnc 2 254 w.heap.size (some sb) A1 n1 sl, SlOld bkEnc 6 199 w.heap.size (some sb) A n l]) rfl cb140 rfl rfl (fun wx hm => (greedyOf_own cs A0 n0 c0 sl A1 n1 c1 l A n c wx (hm.fact 0 rfl).1 hco hn0 hcl hlo (hm.fact 1 rfl).1 hso hn1 hmany (hm.fact 2 rfl).1 (by omega) hfm).mono fun _ _ ⟨Ag, k, cg, Al, q, cw, he, ho, hgl, h2, hk, hq, hg⟩ => ⟨(Ag, k, cg, Al, q, cw), he, ⟨hgl, hk, hq⟩, (hm.newOwn hg ho).also (SlT.lasts2 rfl) h2⟩) ?_
 rintro ⟨G, k, cg, Al, q, cw⟩ ⟨hgl, hkn, hqn⟩
 dsimp only at hgl hkn hqn ⊢
 refine wl_look (R := (waitE cs sl l).length = q) (fun wx hm => SlT.len (hm.fact 0 rfl)) ?_
 intro hwl
 refine mv_ rfl (wl_ov (ov_extract rfl rfl) rfl (wl_ov (ov_extract rfl rfl) rfl (sg_ rfl (sg_ rfl (nn_ (gw_seq (sr_ (mv_ rfl (wl_ov (ov_len es112 rfl) rfl (mv_ rfl (wl_nil ?_)))))))))))
 refine nx_then (gw_block ?_)
 refine gw_loop (γ := Nat × List Gv × Value) (fun g => g.1 ≤ q ∧ g.2.1.length = k + g.1) (fun g => [(0, .pointer (some ⟨sb, 0, none⟩)), (8, .slice none 0 0), (9, g.2.2), (31, .slice Al q cw), (32, .int .i64 ((q : Nat) : Int)), (33, .int .i64 ((g.1 : Nat) : Int))]) (fun g => fun w => Strm 25 w B sb (m)) (fun g => []) (fun g => [⟨g.2.2, 193, 3, (k + g.1), g.2.1.flatMap gvEnc⟩]) (fun g => [fun wy => SlT sgEnc 1 9 wy Al q (waitE cs sl l), SlOld csEnc 2 170 w.heap.size (some sb) A0 n0 cs, SlOld skEnc 2 254 w.heap.size (some sb) A1 n1 sl, SlOld bkEnc 6 199 w.heap.size (some sb) A n l]) (fun g => q - g.1) (0, (givenE cs sl l), .slice G k cg) ⟨Nat.zero_le _, hgl⟩ ⟨rfl, rfl, rfl, rfl, rfl, rfl, trivial⟩ (fun _ hm => hm.pick [] [0] [0, 1, 2, 3] rfl rfl) ?_
 rintro ⟨i, gl, v⟩ hinv
 replace hinv : i ≤ q ∧ gl.length = k + i := hinv
 dsimp only
 refine sr_ ?_
 obtain ⟨hi0, hgll⟩ := hinv
 refine wl_ov (ov_lss rfl rfl) rfl (nn_ (gw_seq ?_))
 refine gw_cond rfl (fun hh => ?_) (fun hh => ?_)
 ·have hi : ((i : Nat) : Int) < ((q : Nat) : Int) := by simpa using hh
  clear hh
  refine gw_skip (nx_then (gw_seq (gw_block (sr_ ?_))))
  refine wl_look (R := ∃ b o, Al = some ⟨b, o, none⟩) (fun wx hm => by obtain ⟨b, off, hA, _, _⟩ := SlT.get (hm.fact 0 rfl) (by omega); exact ⟨b, off, hA⟩) ?_
  rintro ⟨lb, lo_, rfl⟩
  obtain ⟨x, hx⟩ : ∃ x, (waitE cs sl l)[i]? = some x := ⟨_, List.getElem?_eq_getElem (by omega)⟩
  refine wl_look (R := ∃ A cc, v = .slice A (k + i) cc) (fun wx hm => own_slice (hm.ownI 0 rfl)) ?_
  rintro ⟨G2, gc2, rfl⟩
  refine wl_ov (ov_index (j := i) es112 rfl rfl (by omega)) rfl ?_
  refine wl_ov (ov_elem1 (k := 0) (v := .string x) sc9 rfl (fun _ hm => (hm.fact 0 rfl)) hx rfl rfl) rfl ?_
  refine sg_ rfl (nn_ (gw_region (mv_ rfl (mv_ rfl ?_))))
  refine wl_ov (ov_build (cs := [.string x, .string ⟨#[109, 105, 110, 105]⟩, .int .i64 1]) rfl (by kernel_rfl)) rfl ?_
  refine wl_buildSlice (e := 193) (cs := [.string x, .string ⟨#[109, 105, 110, 105]⟩, .int .i64 1]) rfl (by kernel_rfl) rfl fun g1 => ?_
  refine wl_append (news := [.string x, .string ⟨#[109, 105, 110, 105]⟩, .int .i64 1]) 0 0 ap88 rfl rfl rfl rfl rfl rfl rfl (by omega) (by unfold maxLen; omega) rfl rfl fun v2 hv2 => ?_
  rw [show gl.flatMap gvEnc ++ ([.string x, .string ⟨#[109, 105, 110, 105]⟩, .int .i64 1] : List Value) = (gl ++ [(⟨x, ⟨#[109, 105, 110, 105]⟩, 1⟩ : Gv)]).flatMap gvEnc from by simp [gvEnc]]
  refine sg_ rfl (wl_nil (nx_blk_nrm (nx_then (gw_region (ad_ rfl rfl (mv_ rfl (wl_nil ?_)))))))
  exact nx_round (i + 1, gl ++ [(⟨x, ⟨#[109, 105, 110, 105]⟩, 1⟩ : Gv)], v2) ⟨by dsimp only; omega, by dsimp only; rw [List.length_append, hgll]; rfl⟩ (by dsimp only; omega) ⟨rfl, rfl, rfl, rfl, rfl, (some_int (by omega)), trivial⟩ (fun _ hm => hm.pick [] [0] [0, 1, 2, 3] rfl rfl)
 have hi : ¬ (((i : Nat) : Int) < ((q : Nat) : Int)) := by simpa using hh
 clear hh
 refine gw_exit ?_
 refine nx_then_exit (nx_then_exit ?_)
 refine nx_blk_here ?_
 refine nx_then (sr_ ?_)
 obtain ⟨N, hN⟩ : ∃ N, N = k + i := ⟨_, rfl⟩
 have hN12 : N ≤ 12 := by omega
 rw [← hN] at hgll ⊢
 refine wl_look (R := ∃ A cc, v = .slice A N cc) (fun wx hm => own_slice (hm.ownI 0 rfl)) ?_
 rintro ⟨G2, gc2, rfl⟩
 refine mv_ rfl ?_
 by_cases h0 : N = 0
 ·subst h0
  refine wl_callv rfl cb141 rfl rfl (fun wx hm => (sort0_gw G2 gc2 wx)) ?_
  have hnil : gl = [] := List.length_eq_zero_iff.1 hgll
  refine nn_ (gw_seq (sr_ (mv_ rfl (wl_ov (ov_len es88 rfl) rfl ?_))))
  refine wl_set 46 (v' := .int .i64 0) rfl rfl ?_
  refine wl_ov (ov_gtr rfl rfl) rfl ?_
  refine wl_set 47 (v' := .bool false) rfl (congrArg Value.bool (by decide)) ?_
  refine mv_ rfl (goff rfl rfl rfl (goff rfl rfl rfl (pf_ rfl rfl (nn_ (cf_ rfl (gw_skip (nx_then (sr_ (mv_ rfl (sg_ rfl (wl_nil ?_)))))))))))
  refine nx_then ?_
  refine gw_ret ?_
  refine nx_ret1 rfl rfl fun wx hm => ?_
  exact ⟨G2, 0, gc2, [], rfl, SlT.nil_ _ _, by omega, by omega, hm.k.more (by omega), hm.g⟩
 refine wl_look (R := ∃ g, G2 = some ⟨g, 0, none⟩) (fun wx hm => own_addr (hm.ownI 0 rfl) (by omega)) ?_
 rintro ⟨g5, rfl⟩
 obtain ⟨us, hus⟩ : ∃ z, z = isort gvLt gl := ⟨_, rfl⟩
 have hul : us.length = N := by rw [hus, isort_len]; exact hgll
 refine wl_callr (v := .tuple #[]) (xs' := us.flatMap gvEnc) 0 rfl rfl rfl cb141 rfl rfl (fun wx hm => (by have h := sort_gw gl g5 N gc2 _ wx (hm.ownI 0 rfl) hgll (by omega); rw [← hus] at h; exact h)) ?_
 refine wl_look (R := N ≤ gc2) (fun wx hm => own_cap (hm.ownI 0 rfl)) ?_
 intro hcap
 refine nn_ (gw_seq (sr_ (mv_ rfl (wl_ov (ov_len es88 rfl) rfl ?_))))
 refine wl_ov (ov_gtr rfl rfl) rfl ?_
 refine mv_ rfl ?_
 refine wl_set 48 (v' := .bool true) rfl (congrArg Value.bool (decide_eq_true (by omega))) ?_
 refine wl_guard_on rfl rfl rfl (mv_ rfl (wl_guard_on rfl rfl rfl ?_))
 refine wl_got (γ := Bool) (val := fun v => .bool v) (φ := fun v => True) rfl cb25 rfl rfl rfl rfl (fun wx hm => ((flip_any _ wx B sb _ hm.k (by omega) (by omega) (by omega)).mono fun _ _ ⟨v, he, hS, hg⟩ => ⟨v, trivial, he, hS, hg⟩)) fun f1 _ => ?_
 refine pt_ rfl rfl (nn_ ?_)
 refine gw_cond rfl (fun hh => ?_) (fun hh => ?_)
 ·have hf : f1 = true := by simpa using hh
  clear hh
  refine sr_ (mv_ rfl (mv_ rfl (mv_ rfl (wl_ov (ov_len es88 rfl) rfl ?_))))
  refine wl_got (γ := Int) (val := fun v => .int .i64 v) (φ := fun v => IsBelow ((N : Nat) : Int) v) rfl cb56 rfl rfl rfl rfl (fun wx hm => (next_any _ wx B sb _ hm.k (by omega) (by omega) (by omega))) fun vj hvj => ?_
  have hj := isBelow_lt hvj (by omega)
  obtain ⟨j, rfl⟩ := Int.eq_ofNat_of_zero_le hj.1
  have hjN : j < N := by omega
  obtain ⟨z, hz⟩ : ∃ z, us[j]? = some z := ⟨_, List.getElem?_eq_getElem (by omega)⟩
  obtain ⟨z0, z1, z2⟩ := z
  refine wl_ov (ov_index (j := j) es88 rfl rfl (by omega)) rfl ?_
  refine sg_ rfl (nn_ (sr_ (mv_ rfl (mv_ rfl (mv_ rfl (mv_ rfl (wl_ov (ov_nilcheck rfl) rfl (fd_ fo193_1 rfl rfl ?_))))))))
  refine wl_ov (ov_elem1 (k := 1) (v := .string z1) sc9 rfl (fun _ hm => (SlT.ofOwn gv_len (hm.ownI 0 rfl) hul)) hz rfl rfl) rfl ?_
  refine wl_buildSlice (e := 9) (cs := [.string z1, .string ⟨#[98, 105, 103]⟩, .string ⟨#[109, 105, 110, 105]⟩, .string ⟨#[110, 111, 110, 101]⟩]) rfl (by kernel_rfl) rfl fun g2 => ?_
  refine wl_got (γ := ByteArray) (val := fun v => .string v) (φ := fun v => v ∈ ([z1, ⟨#[98, 105, 103]⟩, ⟨#[109, 105, 110, 105]⟩, ⟨#[110, 111, 110, 101]⟩] : List ByteArray)) rfl cb57 rfl rfl rfl rfl (fun wx hm => (some_any [z1, ⟨#[98, 105, 103]⟩, ⟨#[109, 105, 110, 105]⟩, ⟨#[110, 111, 110, 101]⟩] _ _ _ wx B sb _ hm.k (by omega) (by simp) (by simp) (hm.blkI 0 rfl) (hm.neRow 0 rfl rfl))) fun sv hsv => ?_
  refine mv_ rfl ?_
  refine wl_buildSlice (e := 3) (cs := [.int .i64 0, .int .i64 1, .int .i64 1, .int .i64 2, .int .i64 9]) rfl (by kernel_rfl) rfl fun g3 => ?_
  refine wl_got (γ := Int) (val := fun v => .int .i64 v) (φ := fun v => v ∈ ([0, 1, 1, 2, 9] : List Int)) rfl cb34 rfl rfl rfl rfl (fun wx hm => (pick_any [0, 1, 1, 2, 9] _ _ _ wx B sb _ hm.k (by omega) (by simp) (by simp) (hm.blkI 0 rfl) (hm.neRow 0 rfl rfl))) fun pv hpv => ?_
  have bpv : 0 ≤ pv ∧ pv ≤ 9 := mem_rng hpv (by decide)
  have bpv0 := bpv.1
  have bpv1 := bpv.2
  clear bpv
  refine wl_ov (ov_nilcheck rfl) rfl (fd_ fo193_1 rfl rfl ?_)
  refine wl_storeE (l := us) (j := j) (r := 1) (el := ⟨z0, z1, z2⟩) (el' := ⟨z0, sv, z2⟩) 0 sc9 rfl rfl rfl rfl gv_len rfl hz hul (show 1 < 3 by decide) rfl rfl ?_
  obtain ⟨us3, hus3⟩ : ∃ z, z = us.set j (⟨z0, sv, z2⟩ : Gv) := ⟨_, rfl⟩
  have hlus3 : us3.length = N := by rw [hus3, List.length_set]; exact hul
  have hzus3 : us3[j]? = some ⟨z0, sv, z2⟩ := by rw [hus3, List.getElem?_set_self (by omega)]
  rw [← hus3]
  refine wl_ov (ov_nilcheck rfl) rfl (fd_ fo193_2 rfl rfl ?_)
  refine wl_storeE (l := us3) (j := j) (r := 2) (el := ⟨z0, sv, z2⟩) (el' := ⟨z0, sv, pv⟩) 0 sc3 rfl rfl rfl rfl gv_len rfl hzus3 hlus3 (show 2 < 3 by decide) rfl rfl ?_
  obtain ⟨us4, hus4⟩ : ∃ z, z = us3.set j (⟨z0, sv, pv⟩ : Gv) := ⟨_, rfl⟩
  have hlus4 : us4.length = N := by rw [hus4, List.length_set]; exact hlus3
  have hzus4 : us4[j]? = some ⟨z0, sv, pv⟩ := by rw [hus4, List.getElem?_set_self (by omega)]
  rw [← hus4]
  refine nn_ (sr_ (mv_ rfl ?_))
  refine wl_got (γ := Bool) (val := fun v => .bool v) (φ := fun v => True) rfl cb25 rfl rfl rfl rfl (fun wx hm => ((flip_any _ wx B sb _ hm.k (by omega) (by omega) (by omega)).mono fun _ _ ⟨v, he, hS, hg⟩ => ⟨v, trivial, he, hS, hg⟩)) fun f2 _ => ?_
  refine nn_ ?_
  refine gw_cond rfl (fun hh => ?_) (fun hh => ?_)
  ·have hf2 : f2 = true := by simpa using hh
   clear hh
   refine gw_region (mv_ rfl (wl_ov (ov_nilcheck rfl) rfl (fd_ fo193_0 rfl rfl ?_)))
   refine wl_storeE (l := us4) (j := j) (r := 0) (el := ⟨z0, sv, pv⟩) (el' := ⟨⟨#[122, 122]⟩, sv, pv⟩) 0 sc9 rfl rfl rfl rfl gv_len rfl hzus4 hlus4 (show 0 < 3 by decide) rfl rfl ?_
   obtain ⟨us2, hus2⟩ : ∃ z, z = us4.set j (⟨⟨#[122, 122]⟩, sv, pv⟩ : Gv) := ⟨_, rfl⟩
   have hlus2 : us2.length = N := by rw [hus2, List.length_set]; exact hlus4
   have hzus2 : us2[j]? = some ⟨⟨#[122, 122]⟩, sv, pv⟩ := by rw [hus2, List.getElem?_set_self (by omega)]
   rw [← hus2]
   refine nn_ (sr_ (mv_ rfl (sg_ rfl (nn_ ?_))))
   refine gw_ret ?_
   refine nx_ret1 rfl rfl fun wx hm => ?_
   exact ⟨_, N, gc2, us2, rfl, SlT.ofOwn gv_len (hm.ownI 0 rfl) hlus2, by omega, by omega, hm.k.more (by omega), hm.g⟩
  have hf2 : f2 = false := by simpa using hh
  clear hh
  refine gw_skip (nx_then (sr_ (mv_ rfl (sg_ rfl (nn_ ?_)))))
  refine gw_ret ?_
  refine nx_ret1 rfl rfl fun wx hm => ?_
  exact ⟨_, N, gc2, us4, rfl, SlT.ofOwn gv_len (hm.ownI 0 rfl) hlus4, by omega, by omega, hm.k.more (by omega), hm.g⟩
 have hf : f1 = false := by simpa using hh
 clear hh
 refine gw_skip (nx_then (sr_ (mv_ rfl (sg_ rfl (nn_ ?_)))))
 refine gw_ret ?_
 refine nx_ret1 rfl rfl fun wx hm => ?_
 exact ⟨_, N, gc2, us, rfl, SlT.ofOwn gv_len (hm.ownI 0 rfl) hul, by omega, by omega, hm.k.more (by omega), hm.g⟩
end Go.Proofs.YtnpcbfllnkiopaaGreatDoor
namespace Go.Proofs.YtnpcbfllnkiopaaGreatDoor
open Go.RowKit
theorem givenChecks_walk (a0 : Option Addr) (len0 cap0 : Nat) (z0 : List Int) (w : World) (hR : RowIn w a0 len0 cap0 z0) :
  Calls Tryz.prog 7 #[.slice a0 len0 cap0] w fun e w' => e = .returned (.bool true) ∧ Below w.heap.size w w' := by
 refine gw_enter ⟨79, w, none, []⟩ Tryz.func7 rfl Tryz.ntmps7 rfl (mem0 (X := []) allF_nil allL_nil) ?_
 refine sr_ (sg_ rfl (nn_ (sr_ (mv_ rfl ?_))))
 refine wl_ov (ov_build (cs := [.slice a0 len0 cap0, .int .i64 0]) rfl (by kernel_rfl)) rfl ?_
 refine wl_box rfl rfl rfl fun sb => ?_
 refine sg_ rfl (nn_ (sr_ (mv_ rfl (mv_ rfl ?_))))
 refine wl_law [170, 254, 199, 193] hR 0 rfl fun w1 B hg1 hsb => ?_
 refine wl_got (γ := Int) (val := fun v => .int .i64 v) (φ := fun v => 0 ≤ v ∧ (v ≤ 6 ∨ v = 0)) rfl cb31 rfl rfl rfl rfl (fun wx hm => (range_any _ _ wx B sb _ hm.k (by omega) (by omega) (by omega) (by omega) (by omega))) fun v1 hv1 => ?_
 obtain ⟨q, rfl⟩ := Int.eq_ofNat_of_zero_le (show 0 ≤ v1 by omega)
 have hq9 : q ≤ 9 := by omega
 refine wl_calls (γ := Option Addr × Nat × List Cs × Option Addr × Nat × Nat × List Sk × Option Addr × Nat × Nat × List Bk) (val := (fun g => .agg #[.slice g.1 4 g.2.1, .slice g.2.2.2.1 g.2.2.2.2.1 g.2.2.2.2.2.1, .slice g.2.2.2.2.2.2.2.1 g.2.2.2.2.2.2.2.2.1 g.2.2.2.2.2.2.2.2.2.1, .int .i64 (stockE g.2.2.1 g.2.2.2.2.2.2.1), .int .i64 (checkE g.2.2.1 g.2.2.2.2.2.2.2.2.2.2)])) (φ := (fun g => (∀ x ∈ g.2.2.1, CsOk x) ∧ (∀ x ∈ g.2.2.2.2.2.2.1, SkOk x) ∧ (∀ x ∈ g.2.2.2.2.2.2.2.2.2.2, BkOk x) ∧ g.2.2.2.2.1 ≤ 5 ∧ g.2.2.2.2.2.2.2.2.1 ≤ 9)) (Y := (fun g => fun wy => SlT csEnc 2 170 wy g.1 4 g.2.2.1 ∧ SlT skEnc 2 254 wy g.2.2.2.1 g.2.2.2.2.1 g.2.2.2.2.2.2.1 ∧ SlT bkEnc 6 199 wy g.2.2.2.2.2.2.2.1 g.2.2.2.2.2.2.2.2.1 g.2.2.2.2.2.2.2.2.2.2)) (m' := 0 + 1 + 2000) rfl cb47 rfl rfl rfl rfl (fun wx hm => (counterOf_any q wx B sb _ hm.k (by omega) hq9).mono fun _ _ ⟨A0, c0, cs, A1, n1, c1, sl, A, n, c, l, he, h0, h1, h2, hco, hso, hok, hn1, hn, hS, hg⟩ => ⟨(A0, c0, cs, A1, n1, c1, sl, A, n, c, l), he, ⟨hco, hso, hok, hn1, hn⟩, hS, hg, ⟨h0, h1, h2⟩⟩) (fun _ => (SlT.lasts2 rfl).and_ ((SlT.lasts2 rfl).and_ (SlT.lasts2 rfl))) ?_
 rintro ⟨A0, c0, cs, A1, n1, c1, sl, A, n, c, l⟩ hH
 dsimp only at hH ⊢
 obtain ⟨hco, hso, hok, hn5, hn9⟩ := hH
 refine wl_alloc zc86 rfl fun g2 => ?_
 refine wl_stores (cs' := [.slice A0 4 c0, .slice A1 n1 c1, .slice A n c, .int .i64 (stockE cs sl), .int .i64 (checkE cs l)]) 0 rz86 rfl rfl rfl rfl rfl rfl rfl rfl ?_
 refine nn_ (sr_ (mv_ rfl (fd_ fo86_0 rfl rfl (lk_ sc62 0 rfl rfl rfl (fd_ fo86_1 rfl rfl (lk_ sc83 0 rfl rfl rfl (fd_ fo86_2 rfl rfl (lk_ sc84 0 rfl rfl rfl ?_))))))))
 refine wl_calls (γ := Option Addr × Nat × Nat × List Gv) (val := (fun g => .slice g.1 g.2.1 g.2.2.1)) (φ := (fun g => g.2.1 ≤ 12 ∧ g.2.1 ≤ g.2.2.1)) (Y := (fun g => fun wy => SlT gvEnc 3 193 wy g.1 g.2.1 g.2.2.2)) (m' := 0 + 1 + 2000 + 10) rfl cb48 rfl rfl rfl rfl (fun wx hm => (gGiven_any cs A0 4 c0 sl A1 n1 c1 l A n c wx B sb _ hm.k (by omega) (hm.fact 0 rfl).1 hco (by omega) (hm.fact 0 rfl).2.1 hso (by omega) (hm.fact 0 rfl).2.2 hok hn9).mono fun _ _ ⟨G, gn, gc, g, he, h1, h2, h3, hS, hg⟩ => ⟨(G, gn, gc, g), he, ⟨h2, h3⟩, hS, hg, h1⟩) (fun _ => SlT.lasts2 rfl) ?_
 rintro ⟨G, gn, gc, g⟩ hgg
 dsimp only at hgg ⊢
 obtain ⟨hgn12, hgc⟩ := hgg
 refine sg_ rfl (nn_ (sr_ (fd_ fo86_0 rfl rfl (lk_ sc62 0 rfl rfl rfl (fd_ fo86_1 rfl rfl (lk_ sc83 0 rfl rfl rfl (fd_ fo86_2 rfl rfl (lk_ sc84 0 rfl rfl rfl (mv_ rfl ?_)))))))))
 refine wl_nest none [] fun w2 hm_w2 => ⟨_, _, _, _, mem0 (X := [BlkOld w2.heap.size none g2 86 [.slice A0 4 c0, .slice A1 n1 c1, .slice A n c, .int .i64 (stockE cs sl), .int .i64 (checkE cs l)], SlOld csEnc 2 170 w2.heap.size none A0 4 cs, SlOld skEnc 2 254 w2.heap.size none A1 n1 sl, SlOld bkEnc 6 199 w2.heap.size none A n l, SlOld gvEnc 3 193 w2.heap.size none G gn g]) (allF_cons (hm_w2.blkI 0 rfl).old (allF_cons (SlT.old (hm_w2.fact 1 rfl).1) (allF_cons (SlT.old (hm_w2.fact 1 rfl).2.1) (allF_cons (SlT.old (hm_w2.fact 1 rfl).2.2) (allF_cons (SlT.old (hm_w2.fact 0 rfl)) allF_nil))))) (allL_cons BlkOld.lasts (allL_cons SlOld.lasts (allL_cons SlOld.lasts (allL_cons SlOld.lasts (allL_cons SlOld.lasts allL_nil))))), ?_⟩
 obtain ⟨AE, hAE⟩ : ∃ z, z = firstE [stockE cs sl, checkE cs l] := ⟨_, rfl⟩
 obtain ⟨GE, hGE⟩ : ∃ z, z = gchE cs sl l g := ⟨_, rfl⟩
 have hge := hGE
 unfold gchE at hge
 rw [← hAE] at hge
 by_cases hAE0 : AE = 0
 ·subst hAE0
  rw [if_pos rfl] at hge
  have hgv := hge
  obtain ⟨hce, _, hcl2⟩ := right_all hAE.symm
  have hcz := classesE_ok hce
  by_cases hGE0 : GE = 0
  ·subst hGE0
   have hle := (giv_right hgv.symm).1
   refine wl_callv (v := .tuple #[.int .i64 (upV cs (l.zip g)), .int .i64 0]) rfl cb49 rfl rfl (fun wx hm => (by have h := upgrades_any cs A0 4 c0 sl A1 n1 c1 l A n c g G gn gc wx (hm.fact 1 rfl).1 hco (by omega) (hm.fact 2 rfl).1 hso (by omega) (hm.fact 3 rfl).1 hok (by omega) (hm.fact 4 rfl).1 (by omega) hgc; rw [← hGE, if_pos rfl] at h; exact h)) ?_
   refine mv_ rfl (wl_ov (ov_extract rfl rfl) rfl (wl_ov (ov_extract rfl rfl) rfl (sg_ rfl (sg_ rfl (nn_ (sr_ ?_))))))
   refine wl_ov (ov_loads (vs := [.slice A0 4 c0, .slice A1 n1 c1, .slice A n c, .int .i64 (stockE cs sl), .int .i64 (checkE cs l)]) rz86 rfl (fun _ hm => (hm.fact 0 rfl).2) rfl rfl) rfl ?_
   refine wl_callv (v := .int .i64 0) rfl cb50 rfl rfl (fun wx hm => (by have h := call_any A0 A1 A 4 c0 n1 c1 n c (stockE cs sl) (checkE cs l) wx; rw [← hAE] at h; exact h)) ?_
   refine sg_ rfl (sg_ rfl (nn_ (gw_seq (sr_ (mv_ rfl (wl_ov (ov_eql rfl rfl) rfl ?_))))))
   refine wl_set 39 (v' := .bool true) rfl (congrArg Value.bool (by decide)) ?_
   refine nn_ (ct_ rfl (gw_region (fd_ fo86_0 rfl rfl ?_)))
   refine wl_ov (ov_load (v := .slice A0 4 c0) sc62 rfl (fun _ hm => (hm.fact 0 rfl).2) rfl) rfl ?_
   refine fd_ fo86_1 rfl rfl ?_
   refine wl_ov (ov_load (v := .slice A1 n1 c1) sc83 rfl (fun _ hm => (hm.fact 0 rfl).2) rfl) rfl ?_
   refine fd_ fo86_2 rfl rfl ?_
   refine wl_ov (ov_load (v := .slice A n c) sc84 rfl (fun _ hm => (hm.fact 0 rfl).2) rfl) rfl ?_
   refine mv_ rfl ?_
   refine wl_callv (v := .int .i64 0) rfl cb51 rfl rfl (fun wx hm => (by have h := givenFault_any cs A0 4 c0 sl A1 n1 c1 l A n c g G gn gc wx (hm.fact 1 rfl).1 hco (by omega) (hm.fact 2 rfl).1 hso (by omega) (hm.fact 3 rfl).1 hok (by omega) (hm.fact 4 rfl).1 (by omega) hgc hAE.symm; rw [← hgv] at h; exact h)) ?_
   refine sg_ rfl (nn_ (gw_seq (sr_ (mv_ rfl (wl_ov (ov_eql rfl rfl) rfl ?_)))))
   refine wl_set 49 (v' := .bool true) rfl (congrArg Value.bool (by decide)) ?_
   refine nn_ (ct_ rfl (gw_region (fd_ fo86_0 rfl rfl ?_)))
   refine wl_ov (ov_load (v := .slice A0 4 c0) sc62 rfl (fun _ hm => (hm.fact 0 rfl).2) rfl) rfl ?_
   refine fd_ fo86_2 rfl rfl ?_
   refine wl_ov (ov_load (v := .slice A n c) sc84 rfl (fun _ hm => (hm.fact 0 rfl).2) rfl) rfl ?_
   refine mv_ rfl ?_
   refine wl_callv rfl cb52 rfl rfl (fun wx hm => (upgradesOf_any cs A0 4 c0 l A n c g G gn gc wx (hm.fact 1 rfl).1 hco (by omega) (hm.fact 3 rfl).1 (by omega) (hm.fact 4 rfl).1 (by omega) hcz hle hcl2)) ?_
   refine sg_ rfl (nn_ (sr_ (fd_ fo86_0 rfl rfl ?_)))
   refine wl_ov (ov_load (v := .slice A0 4 c0) sc62 rfl (fun _ hm => (hm.fact 0 rfl).2) rfl) rfl ?_
   refine fd_ fo86_1 rfl rfl ?_
   refine wl_ov (ov_load (v := .slice A1 n1 c1) sc83 rfl (fun _ hm => (hm.fact 0 rfl).2) rfl) rfl ?_
   refine fd_ fo86_2 rfl rfl ?_
   refine wl_ov (ov_load (v := .slice A n c) sc84 rfl (fun _ hm => (hm.fact 0 rfl).2) rfl) rfl ?_
   refine mv_ rfl ?_
   refine wl_callv (v := .int .i64 0) rfl cb53 rfl rfl (fun wx hm => (by have h := checkGiven_any cs A0 4 c0 sl A1 n1 c1 l A n c g G gn gc wx (hm.fact 1 rfl).1 hco (by omega) (hm.fact 2 rfl).1 hso (by omega) (hm.fact 3 rfl).1 hok (by omega) (hm.fact 4 rfl).1 (by omega) hgc; rw [← hGE] at h; exact h)) ?_
   refine mv_ rfl (wl_ov (ov_eql rfl rfl) rfl ?_)
   refine wl_set 65 (v' := .bool true) rfl (congrArg Value.bool (by decide)) ?_
   refine mv_ rfl (wl_guard_on rfl rfl rfl (mv_ rfl (wl_guard_on rfl rfl rfl (mv_ rfl (wl_guard_on rfl rfl rfl (wl_ov (ov_eql rfl rfl) rfl ?_))))))
   refine wl_set 69 (v' := .bool true) rfl (congrArg Value.bool (by decide)) ?_
   refine pt_ rfl rfl (mv_ rfl (wl_guard_on rfl rfl rfl (mv_ rfl (wl_guard_on rfl rfl rfl (mv_ rfl (wl_guard_on rfl rfl rfl (wl_ov (ov_eql rfl rfl) rfl ?_)))))))
   refine wl_set 74 (v' := .bool true) rfl (congrArg Value.bool (by simp)) ?_
   refine pt_ rfl rfl (mv_ rfl (wl_guard_on rfl rfl rfl ?_))
   refine wl_callv rfl cb54 rfl rfl (fun wx hm => (booked_any wx)) ?_
   refine pt_ rfl rfl (sg_ rfl (nn_ ?_))
   refine gw_ret ?_
   refine nx_ret1 rfl rfl fun wx hm => ?_
   exact ⟨rfl, law_end hg1 hsb (grow_trans hm_w2.g (grow_weak hm.g))⟩
  refine wl_callv (v := .tuple #[.int .i64 0, .int .i64 GE]) rfl cb49 rfl rfl (fun wx hm => (by have h := upgrades_any cs A0 4 c0 sl A1 n1 c1 l A n c g G gn gc wx (hm.fact 1 rfl).1 hco (by omega) (hm.fact 2 rfl).1 hso (by omega) (hm.fact 3 rfl).1 hok (by omega) (hm.fact 4 rfl).1 (by omega) hgc; rw [← hGE, if_neg hGE0] at h; exact h)) ?_
  refine mv_ rfl (wl_ov (ov_extract rfl rfl) rfl (wl_ov (ov_extract rfl rfl) rfl (sg_ rfl (sg_ rfl (nn_ (sr_ ?_))))))
  refine wl_ov (ov_loads (vs := [.slice A0 4 c0, .slice A1 n1 c1, .slice A n c, .int .i64 (stockE cs sl), .int .i64 (checkE cs l)]) rz86 rfl (fun _ hm => (hm.fact 0 rfl).2) rfl rfl) rfl ?_
  refine wl_callv (v := .int .i64 0) rfl cb50 rfl rfl (fun wx hm => (by have h := call_any A0 A1 A 4 c0 n1 c1 n c (stockE cs sl) (checkE cs l) wx; rw [← hAE] at h; exact h)) ?_
  refine sg_ rfl (sg_ rfl (nn_ (gw_seq (sr_ (mv_ rfl (wl_ov (ov_eql rfl rfl) rfl ?_))))))
  refine wl_set 39 (v' := .bool true) rfl (congrArg Value.bool (by decide)) ?_
  refine nn_ (ct_ rfl (gw_region (fd_ fo86_0 rfl rfl ?_)))
  refine wl_ov (ov_load (v := .slice A0 4 c0) sc62 rfl (fun _ hm => (hm.fact 0 rfl).2) rfl) rfl ?_
  refine fd_ fo86_1 rfl rfl ?_
  refine wl_ov (ov_load (v := .slice A1 n1 c1) sc83 rfl (fun _ hm => (hm.fact 0 rfl).2) rfl) rfl ?_
  refine fd_ fo86_2 rfl rfl ?_
  refine wl_ov (ov_load (v := .slice A n c) sc84 rfl (fun _ hm => (hm.fact 0 rfl).2) rfl) rfl ?_
  refine mv_ rfl ?_
  refine wl_callv (v := .int .i64 GE) rfl cb51 rfl rfl (fun wx hm => (by have h := givenFault_any cs A0 4 c0 sl A1 n1 c1 l A n c g G gn gc wx (hm.fact 1 rfl).1 hco (by omega) (hm.fact 2 rfl).1 hso (by omega) (hm.fact 3 rfl).1 hok (by omega) (hm.fact 4 rfl).1 (by omega) hgc hAE.symm; rw [← hgv] at h; exact h)) ?_
  refine sg_ rfl (nn_ (gw_seq (sr_ (mv_ rfl (wl_ov (ov_eql rfl rfl) rfl (nn_ ?_))))))
  refine gw_set 49 (v' := .bool false) rfl (congrArg Value.bool (decide_eq_false hGE0)) ?_
  refine cf_ rfl (gw_skip (nx_then (sr_ (fd_ fo86_0 rfl rfl ?_))))
  refine wl_ov (ov_load (v := .slice A0 4 c0) sc62 rfl (fun _ hm => (hm.fact 0 rfl).2) rfl) rfl ?_
  refine fd_ fo86_1 rfl rfl ?_
  refine wl_ov (ov_load (v := .slice A1 n1 c1) sc83 rfl (fun _ hm => (hm.fact 0 rfl).2) rfl) rfl ?_
  refine fd_ fo86_2 rfl rfl ?_
  refine wl_ov (ov_load (v := .slice A n c) sc84 rfl (fun _ hm => (hm.fact 0 rfl).2) rfl) rfl ?_
  refine mv_ rfl ?_
  refine wl_callv (v := .int .i64 GE) rfl cb53 rfl rfl (fun wx hm => (by have h := checkGiven_any cs A0 4 c0 sl A1 n1 c1 l A n c g G gn gc wx (hm.fact 1 rfl).1 hco (by omega) (hm.fact 2 rfl).1 hso (by omega) (hm.fact 3 rfl).1 hok (by omega) (hm.fact 4 rfl).1 (by omega) hgc; rw [← hGE] at h; exact h)) ?_
  refine mv_ rfl (wl_ov (ov_eql rfl rfl) rfl ?_)
  refine wl_set 65 (v' := .bool true) rfl (congrArg Value.bool (by simp)) ?_
  refine mv_ rfl (wl_guard_on rfl rfl rfl (mv_ rfl (wl_guard_on rfl rfl rfl (mv_ rfl (wl_guard_on rfl rfl rfl (wl_ov (ov_eql rfl rfl) rfl ?_))))))
  refine wl_set 69 (v' := .bool true) rfl (congrArg Value.bool (by simp)) ?_
  refine pt_ rfl rfl (mv_ rfl (wl_guard_on rfl rfl rfl (mv_ rfl (wl_guard_on rfl rfl rfl (mv_ rfl (wl_guard_on rfl rfl rfl (wl_ov (ov_eql rfl rfl) rfl ?_)))))))
  refine wl_set 74 (v' := .bool true) rfl (congrArg Value.bool (by decide)) ?_
  refine pt_ rfl rfl (mv_ rfl (wl_guard_on rfl rfl rfl ?_))
  refine wl_callv rfl cb54 rfl rfl (fun wx hm => (booked_any wx)) ?_
  refine pt_ rfl rfl (sg_ rfl (nn_ ?_))
  refine gw_ret ?_
  refine nx_ret1 rfl rfl fun wx hm => ?_
  exact ⟨rfl, law_end hg1 hsb (grow_trans hm_w2.g (grow_weak hm.g))⟩
 rw [if_neg hAE0] at hge
 subst hge
 have hGE0 := hAE0
 refine wl_callv (v := .tuple #[.int .i64 0, .int .i64 GE]) rfl cb49 rfl rfl (fun wx hm => (by have h := upgrades_any cs A0 4 c0 sl A1 n1 c1 l A n c g G gn gc wx (hm.fact 1 rfl).1 hco (by omega) (hm.fact 2 rfl).1 hso (by omega) (hm.fact 3 rfl).1 hok (by omega) (hm.fact 4 rfl).1 (by omega) hgc; rw [← hGE, if_neg hGE0] at h; exact h)) ?_
 refine mv_ rfl (wl_ov (ov_extract rfl rfl) rfl (wl_ov (ov_extract rfl rfl) rfl (sg_ rfl (sg_ rfl (nn_ (sr_ ?_))))))
 refine wl_ov (ov_loads (vs := [.slice A0 4 c0, .slice A1 n1 c1, .slice A n c, .int .i64 (stockE cs sl), .int .i64 (checkE cs l)]) rz86 rfl (fun _ hm => (hm.fact 0 rfl).2) rfl rfl) rfl ?_
 refine wl_callv (v := .int .i64 GE) rfl cb50 rfl rfl (fun wx hm => (by have h := call_any A0 A1 A 4 c0 n1 c1 n c (stockE cs sl) (checkE cs l) wx; rw [← hAE] at h; exact h)) ?_
 refine sg_ rfl (sg_ rfl (nn_ (gw_seq (sr_ (mv_ rfl (wl_ov (ov_eql rfl rfl) rfl (nn_ ?_)))))))
 refine gw_set 39 (v' := .bool false) rfl (congrArg Value.bool (decide_eq_false hGE0)) ?_
 refine cf_ rfl (gw_skip (nx_then (gw_seq (sr_ (mv_ rfl (wl_ov (ov_eql rfl rfl) rfl (nn_ ?_)))))))
 refine gw_set 49 (v' := .bool false) rfl (congrArg Value.bool (decide_eq_false hGE0)) ?_
 refine cf_ rfl (gw_skip (nx_then (sr_ (fd_ fo86_0 rfl rfl ?_))))
 refine wl_ov (ov_load (v := .slice A0 4 c0) sc62 rfl (fun _ hm => (hm.fact 0 rfl).2) rfl) rfl ?_
 refine fd_ fo86_1 rfl rfl ?_
 refine wl_ov (ov_load (v := .slice A1 n1 c1) sc83 rfl (fun _ hm => (hm.fact 0 rfl).2) rfl) rfl ?_
 refine fd_ fo86_2 rfl rfl ?_
 refine wl_ov (ov_load (v := .slice A n c) sc84 rfl (fun _ hm => (hm.fact 0 rfl).2) rfl) rfl ?_
 refine mv_ rfl ?_
 refine wl_callv (v := .int .i64 GE) rfl cb53 rfl rfl (fun wx hm => (by have h := checkGiven_any cs A0 4 c0 sl A1 n1 c1 l A n c g G gn gc wx (hm.fact 1 rfl).1 hco (by omega) (hm.fact 2 rfl).1 hso (by omega) (hm.fact 3 rfl).1 hok (by omega) (hm.fact 4 rfl).1 (by omega) hgc; rw [← hGE] at h; exact h)) ?_
 refine mv_ rfl (wl_ov (ov_eql rfl rfl) rfl ?_)
 refine wl_set 65 (v' := .bool true) rfl (congrArg Value.bool (by simp)) ?_
 refine mv_ rfl (wl_guard_on rfl rfl rfl (mv_ rfl (wl_guard_on rfl rfl rfl (mv_ rfl (wl_guard_on rfl rfl rfl (wl_ov (ov_eql rfl rfl) rfl ?_))))))
 refine wl_set 69 (v' := .bool true) rfl (congrArg Value.bool (by simp)) ?_
 refine pt_ rfl rfl (mv_ rfl (wl_guard_on rfl rfl rfl (mv_ rfl (wl_guard_on rfl rfl rfl (mv_ rfl (wl_guard_on rfl rfl rfl (wl_ov (ov_eql rfl rfl) rfl ?_)))))))
 refine wl_set 74 (v' := .bool true) rfl (congrArg Value.bool (by decide)) ?_
 refine pt_ rfl rfl (mv_ rfl (wl_guard_on rfl rfl rfl ?_))
 refine wl_callv rfl cb54 rfl rfl (fun wx hm => (booked_any wx)) ?_
 refine pt_ rfl rfl (sg_ rfl (nn_ ?_))
 refine gw_ret ?_
 refine nx_ret1 rfl rfl fun wx hm => ?_
 exact ⟨rfl, law_end hg1 hsb (grow_trans hm_w2.g (grow_weak hm.g))⟩
end Go.Proofs.YtnpcbfllnkiopaaGreatDoor
