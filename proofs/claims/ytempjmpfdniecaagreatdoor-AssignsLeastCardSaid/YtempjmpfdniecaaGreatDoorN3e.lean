/- Several texts as one: Dea Deb Sp Bd Bx Asl -/
import Derived.Test.YtempjmpfdniecaaGreatDoorN3c
import Derived.Test.YtempjmpfdniecaaGreatDoorN3d
import Derived.Test.YtempjmpfdniecaaGreatDoorN3b
import Derived.Test.YtempjmpfdniecaaGreatDoorN3a
set_option maxRecDepth 100000
set_option maxHeartbeats 4000000
namespace Go.Proofs.YtempjmpfdniecaaGreatDoor
open Go.RowKit
theorem gvO_nil (l : List Bk) : gvO l [] = [] := by unfold gvO; simp
def gvQ (c : ByteArray) (u : Int) (z : Gv) : Bool := z.cls.toList == c.toList && decide (z.unit = u)
theorem gv_used {c : ByteArray} {u : Nat} : ∀ (l : List Bk) (st : List (ByteArray × Nat)), st.length ≤ l.length → ((gvO l st).any (gvQ c (u : Int)) = true ↔ (c, u) ∈ st)
  | l, [], _ => by rw [gvO_nil]; simp
  | [], _ :: _, h => absurd h (Nat.not_succ_le_zero _)
  | x :: l, p :: st, h => by
    have ih := gv_used (c := c) (u := u) l st (by simpa using h)
    have e : gvO (x :: l) (p :: st) = ⟨x.key, p.1, (p.2 : Int)⟩ :: gvO l st := rfl
    rw [e, List.any_cons, Bool.or_eq_true, ih, List.mem_cons]
    obtain ⟨p1, p2⟩ := p
    unfold gvQ
    dsimp only
    rw [Bool.and_eq_true, beq_iff_eq, decide_eq_true_eq, Prod.mk.injEq]
    constructor
    · rintro (⟨h1, h2⟩ | h1)
      · exact .inl ⟨(ba_ext h1).symm, by omega⟩
      · exact .inr h1
    · rintro (⟨h1, h2⟩ | h1)
      · exact .inl ⟨by rw [h1], by omega⟩
      · exact .inr h1
theorem fPut_iff {F : ByteArray → Option Bool} {fr fr2 : List ByteArray} {c : ByteArray} {b : Bool} (h : ∀ k, (F k).getD false = true ↔ k ∈ fr) (hc : b = true ↔ c ∈ fr2) (h2 : ∀ k, k ≠ c → (k ∈ fr2 ↔ k ∈ fr)) : ∀ k, (fPut F c b k).getD false = true ↔ k ∈ fr2 := fun k => by
  by_cases e : k = c
  · rw [e, fPut_same]; exact hc
  · rw [fPut_other _ _ e, h2 k e]; exact h k
section
variable {P : Program} {c : Cx} {ops : Array Oper} {Q : Exit → Act → World → Prop} {rest : List Oper} {S : List (Nat × Value)} {K : World → Prop} {L : List (Nat × TypeId × List Value)} {O : List Own} {X : List (World → Prop)} {d : Nat} {ty : TypeId} {pos : String} {aft : Array Edge}
/-- append of nil. -/
theorem wl_appendN {t e : TypeId} {sz by_ : Nat} {x y : Operand} {n : Nat} {v : Value} {xs : List Value} (i : Nat) (ht : appB P t = some (e, sz, by_)) (hx : rd S x = some v) (hO : O[i]? = some ⟨v, e, sz, n, xs⟩) (hy : rd S y = some (.slice none 0 0)) (hd : Nat.ble (d + 1) c.n = true) (h : WL P c ops Q rest ((d, v) :: S) K L O X) : WL P c ops Q (⟨some d, .call ⟨.builtin .append, #[x, y], #[t, t]⟩, ty, pos, aft, none⟩ :: rest) S K L O X := by
  intro a w ha hm
  unfold appB at ht
  split at ht
  · rename_i e' hu
    split at ht
    · rename_i inf hi
      split at ht
      · rename_i z hz
        split at ht
        · simp only [Option.some.injEq, Prod.mk.injEq] at ht
          obtain ⟨rfl, rfl, rfl⟩ := ht
          exact wpList_append_own_none rfl x y t rfl c.w0.heap.size e' inf inf.size hu hi v n xs (ha.eval hx) (hm.o _ (List.mem_of_getElem? hO)) (ha.eval hy) (h _ _ (ha.put hd _) hm)
        · cases ht
      · cases ht
    · cases ht
  · cases ht
end
/-- A row that is not empty is a slice of a block. -/
theorem own_some {P : List (ByteArray × Nat) → Prop} {st : List (ByteArray × Nat)} {l : List Bk} {w' : World} {N n : Nat} {e : TypeId} {v : Value} (h : P st) (hn : 0 < n) (ho : w'.ownsRow N e 3 v (0 + n) ([] ++ (gvO l st).flatMap gvEnc)) {E : Prop} : (E ∨ ∃ (o : List (ByteArray × Nat)) (g' c' : Nat), P o ∧ Ending.returned v = .returned (.slice (some ⟨g', 0, none⟩) n c') ∧ w'.ownsRow N e 3 (.slice (some ⟨g', 0, none⟩) n c') n ((gvO l o).flatMap gvEnc)) := by
  rw [Nat.zero_add, List.nil_append] at ho
  have ho2 := ho
  rcases ho2.2 with ⟨_, h0⟩ | ⟨g, cap, cur, rfl, _⟩
  · omega
  · exact .inr ⟨st, g, cap, h, rfl, ho⟩
theorem agGiven1_any (y0 y1 : ByteArray) (y2 : Int) (gk : Nat) (k0 c : ByteArray) (u : Int) (w : World) (hk : Blk w gk 90 [.string k0, .string c, .int .i64 u]) :
  Calls Tryz.prog 130 #[.agg #[.string y0, .string y1, .int .i64 y2], .pointer (some ⟨gk, 0, none⟩)] w (fun e w' => e = .returned (.bool (gvQ c u ⟨y0, y1, y2⟩)) ∧ w.grownBy w' none) := by
 refine gw_enter ⟨16, w, none, []⟩ Tryz.func130 rfl Tryz.ntmps130 rfl (mem0 (X := [BlkOld w.heap.size none gk 90 [.string k0, .string c, .int .i64 u]]) (allF_cons hk.old allF_nil) (allL_cons BlkOld.lasts allL_nil)) ?_
 refine sr_ ?_
 refine wl_box rfl rfl rfl fun g1 => ?_
 refine sg_ rfl (nn_ (sr_ (fd_ fo90_1 rfl rfl (lk_ sc9 0 rfl rfl rfl (fd_ fo90_1 rfl rfl ?_)))))
 refine wl_ov (ov_load (v := .string c) sc9 rfl (fun _ hm => (hm.fact 0 rfl).2) rfl) rfl ?_
 refine wl_ov (ov_seql rfl rfl) rfl (mv_ rfl ?_)
 rcases Bool.eq_false_or_eq_true (y1.toList == c.toList) with hb2 | hb2
 ·refine wl_set 9 rfl (congrArg Value.bool hb2) ?_
  refine wl_guard_on rfl rfl rfl (fd_ fo90_2 rfl rfl (wl_guard_on rfl rfl rfl (lk_ sc3 0 rfl rfl rfl (wl_guard_on rfl rfl rfl (fd_ fo90_2 rfl rfl (wl_guard_on rfl rfl rfl ?_))))))
  refine wl_ov (ov_load (v := .int .i64 u) sc3 rfl (fun _ hm => (hm.fact 0 rfl).2) rfl) rfl ?_
  refine wl_guard_on rfl rfl rfl (wl_ov (ov_eql rfl rfl) rfl (pt_ rfl rfl (sg_ rfl (nn_ ?_))))
  refine gw_ret ?_
  refine nx_ret1 rfl rfl fun wx hm => ?_
  exact ⟨by unfold gvQ; simp [hb2], hm.g⟩
 refine wl_set 9 rfl (congrArg Value.bool hb2) ?_
 refine goff rfl rfl rfl (goff rfl rfl rfl (goff rfl rfl rfl (goff rfl rfl rfl (goff rfl rfl rfl (pf_ rfl rfl (sg_ rfl (nn_ ?_)))))))
 refine gw_ret ?_
 refine nx_ret1 rfl rfl fun wx hm => ?_
 exact ⟨by unfold gvQ; simp [hb2], hm.g⟩
theorem ixGiven_any (zs : List Gv) (Z : Option Addr) (n c0 gk : Nat) (k0 c : ByteArray) (u : Int) (w : World) (hz : SlT gvEnc 3 90 w Z n zs) (hn : n ≤ 1000000) (hk : Blk w gk 90 [.string k0, .string c, .int .i64 u]) :
  Calls Tryz.prog 225 #[.slice Z n c0, .func (.func 130) #[] #[.pointer (some ⟨gk, 0, none⟩)]] w (GotE w (ixP (gvQ c u) zs 0)) := by
 refine gw_enter ⟨19, w, none, []⟩ Tryz.func225 rfl Tryz.ntmps225 rfl (mem0 (X := [SlOld gvEnc 3 90 w.heap.size none Z n zs, BlkOld w.heap.size none gk 90 [.string k0, .string c, .int .i64 u]]) (allF_cons hz.old (allF_cons hk.old allF_nil)) (allL_cons SlOld.lasts (allL_cons BlkOld.lasts allL_nil))) ?_
 refine sr_ ?_
 have hlen := hz.len
 refine sg_ rfl (nn_ (gw_seq (sr_ (mv_ rfl (wl_ov (ov_len es80 rfl) rfl (mv_ rfl (nn_ (gw_block ?_))))))))
 refine gw_loop (γ := Nat) (fun (j : Nat) => j ≤ n ∧ ixP (gvQ c u) zs 0 = ixP (gvQ c u) (zs.drop j) j) (fun (j : Nat) => [(0, .slice Z n c0), (1, .func (.func 130) #[] #[.pointer (some ⟨gk, 0, none⟩)]), (7, .int .i64 ((n : Nat) : Int)), (8, .int .i64 ((j : Nat) : Int))]) (fun (j : Nat) => fun _ => True) (fun (j : Nat) => []) (fun (j : Nat) => []) (fun (j : Nat) => [SlOld gvEnc 3 90 w.heap.size none Z n zs, BlkOld w.heap.size none gk 90 [.string k0, .string c, .int .i64 u]]) (fun (j : Nat) => n - j) 0 ⟨Nat.zero_le _, rfl⟩ ⟨rfl, rfl, rfl, rfl, trivial⟩ (fun _ hm => hm.pick [] [] [0, 1] rfl rfl) ?_
 intro j hinv
 replace hinv : j ≤ n ∧ ixP (gvQ c u) zs 0 = ixP (gvQ c u) (zs.drop j) j := hinv
 refine sr_ (wl_ov (ov_lss rfl rfl) rfl (nn_ (gw_seq ?_)))
 refine gw_cond rfl (fun hh => ?_) (fun hh => ?_)
 ·have hj : ((j : Nat) : Int) < ((n : Nat) : Int) := by simpa using hh
  clear hh
  refine gw_skip (nx_then (gw_seq (gw_block (sr_ ?_))))
  obtain ⟨b, off, hA, _, _⟩ := hz.get (by omega)
  subst hA
  obtain ⟨x, hx⟩ : ∃ x, zs[j]? = some x := ⟨_, List.getElem?_eq_getElem (by omega)⟩
  obtain ⟨y0, y1, y2⟩ := x
  have hat := ixP_at (p := gvQ c u) hx
  refine mv_ rfl (sg_ rfl (nn_ (sr_ (mv_ rfl (mv_ rfl (mv_ rfl ?_))))))
  refine wl_ov (ov_index (j := j) es80 rfl rfl (by omega)) rfl ?_
  refine wl_ov (ov_elem (vs := [.string y0, .string y1, .int .i64 y2]) rz90 rfl (fun _ hm => (hm.fact 0 rfl).1) hx rfl rfl) rfl ?_
  refine wl_callv rfl cb130 rfl rfl (fun wx hm => (agGiven1_any y0 y1 y2 gk k0 c u wx (hm.fact 1 rfl).2)) ?_
  refine nn_ ?_
  refine gw_cond rfl (fun hh => ?_) (fun hh => ?_)
  ·have hq : (gvQ c u ⟨y0, y1, y2⟩) = true := by simpa using hh
   clear hh
   refine sr_ (mv_ rfl (sg_ rfl (nn_ ?_)))
   refine gw_ret ?_
   refine nx_blk_ret (nx_then_ret (nx_then_ret (nx_blk_ret (nx_then_ret ?_))))
   refine nx_ret1 rfl rfl fun wx hm => ?_
   exact ⟨ret_int (by rw [hinv.2, hat, if_pos hq]), hm.g⟩
  have hq : (gvQ c u ⟨y0, y1, y2⟩) = false := by simpa using hh
  clear hh
  refine gw_skip (nx_blk_nrm (nx_then (gw_region (ad_ rfl rfl (mv_ rfl (wl_nil ?_))))))
  exact nx_round (j + 1) ⟨by omega, by rw [hinv.2, hat, if_neg (by rw [hq]; decide)]⟩ (by omega) ⟨rfl, rfl, rfl, (some_int (by omega)), trivial⟩ (fun _ hm => hm.pick [] [] [0, 1] rfl rfl)
 have hj : ¬ (((j : Nat) : Int) < ((n : Nat) : Int)) := by simpa using hh
 clear hh
 refine gw_exit ?_
 refine nx_then_exit (nx_then_exit ?_)
 refine nx_blk_here ?_
 refine nx_then (sr_ (sg_ rfl ?_))
 refine wl_set 4 (v' := .int .i64 (-1)) rfl rfl ?_
 refine nn_ ?_
 refine gw_ret ?_
 refine nx_ret1 rfl rfl fun wx hm => ?_
 exact ⟨ret_int (by rw [hinv.2, List.drop_eq_nil_of_le (by omega)]; rfl), hm.g⟩
theorem hasGiven_any (zs : List Gv) (Z : Option Addr) (n c0 gk : Nat) (k0 c : ByteArray) (u : Int) (w : World) (hz : SlT gvEnc 3 90 w Z n zs) (hn : n ≤ 1000000) (hk : Blk w gk 90 [.string k0, .string c, .int .i64 u]) :
  Calls Tryz.prog 129 #[.slice Z n c0, .func (.func 130) #[] #[.pointer (some ⟨gk, 0, none⟩)]] w (fun e w' => e = .returned (.bool (zs.any (gvQ c u))) ∧ w.grownBy w' none) := by
 refine gw_enter ⟨9, w, none, []⟩ Tryz.func129 rfl Tryz.ntmps129 rfl (mem0 (X := [SlOld gvEnc 3 90 w.heap.size none Z n zs, BlkOld w.heap.size none gk 90 [.string k0, .string c, .int .i64 u]]) (allF_cons hz.old (allF_cons hk.old allF_nil)) (allL_cons SlOld.lasts (allL_cons BlkOld.lasts allL_nil))) ?_
 refine sr_ (sg_ rfl (nn_ (sr_ (mv_ rfl (mv_ rfl ?_)))))
 refine wl_callv rfl cb225 rfl rfl (fun wx hm => (ixGiven_any zs Z n c0 gk k0 c u wx (hm.fact 0 rfl).1 hn (hm.fact 1 rfl).2)) ?_
 refine wl_ov (ov_geq rfl rfl) rfl ?_
 refine sg_ rfl (nn_ ?_)
 refine gw_ret ?_
 refine nx_ret1 rfl rfl fun wx hm => ?_
 exact ⟨by rw [← ix_dec], hm.g⟩
/-- What the document's fill does, with so many given. -/
def FlSpec (cs : List Cs) (A0 : Option Addr) (n0 c0 : Nat) (sl : List Sk) (A1 : Option Addr) (n1 c1 : Nat) (l : List Bk) (A : Option Addr) (n cb gl gc gs gf : Nat) (gn : Nat) : Prop := ∀ (st : List (ByteArray × Nat)) (left : Nat) (G : Option Addr) (gq : Nat) (w : World), st.length = gn → left ≤ 1000000 → (gn = 0 → G = none ∧ gq = 0) → SlT csEnc 2 158 w A0 n0 cs → SlT skEnc 2 211 w A1 n1 sl → SlT bkEnc 6 92 w A n l → Blk w gl 76 [.slice A n cb] → Blk w gc 58 [.slice A0 n0 c0] → Blk w gs 75 [.slice A1 n1 c1] → Blk w gf 187 [.func (.func 126) #[] #[.pointer (some ⟨gl, 0, none⟩), .pointer (some ⟨gc, 0, none⟩), .pointer (some ⟨gs, 0, none⟩), .pointer (some ⟨gf, 0, none⟩)]] → SlT gvEnc 3 90 w G gn (gvO l st) →
    Calls Tryz.prog 126 #[.slice G gn gq, .int .i64 ((left : Nat) : Int), .pointer (some ⟨gl, 0, none⟩), .pointer (some ⟨gc, 0, none⟩), .pointer (some ⟨gs, 0, none⟩), .pointer (some ⟨gf, 0, none⟩)] w (fun e w' => ((asgD cs sl l st left = none ∧ e = .returned (.slice none 0 0)) ∨ ∃ (o : List (ByteArray × Nat)) (g' c' : Nat), asgD cs sl l st left = some o ∧ e = .returned (.slice (some ⟨g', 0, none⟩) n c') ∧ w'.ownsRow w.heap.size 90 3 (.slice (some ⟨g', 0, none⟩) n c') n ((gvO l o).flatMap gvEnc)) ∧ w.grownBy w' none)
theorem fl_step (cs : List Cs) (A0 : Option Addr) (n0 c0 : Nat) (sl : List Sk) (A1 : Option Addr) (n1 c1 : Nat) (l : List Bk) (A : Option Addr) (n cb gl gc gs gf : Nat) (gn : Nat) (ih : gn < n → FlSpec cs A0 n0 c0 sl A1 n1 c1 l A n cb gl gc gs gf (gn + 1)) (hgnn : gn ≤ n) (hco : ∀ x ∈ cs, CsOk x) (hn0 : n0 ≤ 30) (hcl : Closed cs) (hlo : loopB cs cs.length = false) (hso : ∀ x ∈ sl, SkOk x) (hn1 : n1 ≤ 1000) (hmany : ∀ k, manyV sl k ≤ 100) (hix : ∀ b ∈ l, 0 ≤ ixP (csP b.cls) cs 0) (htm : BkTim l) (hn : n ≤ 12) : FlSpec cs A0 n0 c0 sl A1 n1 c1 l A n cb gl gc gs gf gn := by
 intro st left G gq w hss hleft hGn hcs hs hl hgl hgc hgs hgf hg
 refine gw_enter ⟨94, w, none, []⟩ Tryz.func126 rfl Tryz.ntmps126 rfl (mem0 (X := [SlOld csEnc 2 158 w.heap.size none A0 n0 cs, SlOld skEnc 2 211 w.heap.size none A1 n1 sl, SlOld bkEnc 6 92 w.heap.size none A n l, BlkOld w.heap.size none gl 76 [.slice A n cb], BlkOld w.heap.size none gc 58 [.slice A0 n0 c0], BlkOld w.heap.size none gs 75 [.slice A1 n1 c1], BlkOld w.heap.size none gf 187 [.func (.func 126) #[] #[.pointer (some ⟨gl, 0, none⟩), .pointer (some ⟨gc, 0, none⟩), .pointer (some ⟨gs, 0, none⟩), .pointer (some ⟨gf, 0, none⟩)]], SlOld gvEnc 3 90 w.heap.size none G gn (gvO l st)]) (allF_cons hcs.old (allF_cons hs.old (allF_cons hl.old (allF_cons hgl.old (allF_cons hgc.old (allF_cons hgs.old (allF_cons hgf.old (allF_cons hg.old allF_nil)))))))) (allL_cons SlOld.lasts (allL_cons SlOld.lasts (allL_cons SlOld.lasts (allL_cons BlkOld.lasts (allL_cons BlkOld.lasts (allL_cons BlkOld.lasts (allL_cons BlkOld.lasts (allL_cons SlOld.lasts allL_nil))))))))) ?_
 refine sr_ ?_
 have hlen := hl.len
 have hlen0 := hcs.len
 obtain ⟨RR, hRR⟩ : ∃ z, z = asgD cs sl l st left := ⟨_, rfl⟩
 rw [← hRR]
 refine sg_ rfl (nn_ (gw_seq (sr_ (mv_ rfl (wl_ov (ov_len es80 rfl) rfl ?_)))))
 refine wl_ov (ov_load (v := .slice A n cb) sc76 rfl (fun _ hm => (hm.fact 3 rfl).2) rfl) rfl ?_
 refine wl_ov (ov_len es76 rfl) rfl (wl_ov (ov_eql rfl rfl) rfl (nn_ ?_))
 refine gw_cond rfl (fun hh => ?_) (fun hh => ?_)
 ·have he : ((gn : Nat) : Int) = ((n : Nat) : Int) := by simpa using hh
  clear hh
  refine gw_seq (sr_ (mv_ rfl (wl_ov (ov_eql rfl rfl) rfl (nn_ ?_))))
  refine gw_cond rfl (fun hh => ?_) (fun hh => ?_)
  ·have hl0 : ((left : Nat) : Int) = 0 := by simpa using hh
   clear hh
   refine sr_ ?_
   have hRs : RR = some st := by rw [hRR, asgD_end (by omega), if_pos (by omega)]
   refine wl_buildSlice0 (e := 90) (sz := 3) (by kernel_rfl) (by kernel_rfl) rfl fun g1 => ?_
   refine mv_ rfl ?_
   refine wl_toOwn (sz := 3) (n := 0) 0 [] rfl rfl rfl (by unfold maxLen; omega) ?_
   have hng : n = gn := by omega
   subst hng
   by_cases hn00 : n = 0
   ·obtain ⟨hG1, hG2⟩ := hGn hn00
    subst hn00
    subst hG1
    subst hG2
    refine wl_appendN 0 ap80 rfl rfl rfl rfl ?_
    refine sg_ rfl (nn_ ?_)
    refine gw_ret ?_
    refine nx_then_ret (nx_then_ret ?_)
    refine nx_ret1 rfl rfl fun wx hm => ?_
    exact ⟨.inr ⟨st, g1, 0, hRs, rfl, by have hz : st = [] := List.length_eq_zero_iff.1 hss; rw [hz, gvO_nil]; exact (hm.ownI 0 rfl)⟩, hm.g⟩
   refine wl_appendS (T := 90) (l := gvO l st) 0 ap80 rfl rfl rfl (fun _ hm => (hm.fact 7 rfl).1) (fun h => absurd h hn00) gv_len gv_one (by omega) (by unfold maxLen; omega) rfl rfl fun v1 => ?_
   refine sg_ rfl (nn_ ?_)
   refine gw_ret ?_
   refine nx_then_ret (nx_then_ret ?_)
   refine nx_ret1 rfl rfl fun wx hm => ?_
   exact ⟨own_some (P := fun o => RR = some o) hRs (by omega) (hm.ownI 0 rfl), hm.g⟩
  have hl0 : ¬ (((left : Nat) : Int) = 0) := by simpa using hh
  clear hh
  refine gw_skip (nx_then (sr_ ?_))
  have hRs : RR = none := by rw [hRR, asgD_end (by omega), if_neg (by omega)]
  refine sg_ rfl (nn_ ?_)
  refine gw_ret ?_
  refine nx_then_ret ?_
  refine nx_ret1 rfl rfl fun wx hm => ?_
  exact ⟨.inl ⟨hRs, rfl⟩, hm.g⟩
 have he : ¬ (((gn : Nat) : Int) = ((n : Nat) : Int)) := by simpa using hh
 clear hh
 refine gw_skip (nx_then (sr_ ?_))
 have hgn : gn < n := by omega
 obtain ⟨b, off, hA, _, _⟩ := hl.get (by omega)
 subst hA
 obtain ⟨x, hx⟩ : ∃ x, l[gn]? = some x := ⟨_, List.getElem?_eq_getElem (by omega)⟩
 obtain ⟨x0, x1, x2, x3, x4, x5⟩ := x
 have hbm := List.mem_of_getElem? hx
 have hti := htm _ hbm
 have hixb := hix _ hbm
 dsimp only at hti hixb
 rw [← hss] at hx
 have hRa := asgD_at (cs := cs) (sl := sl) (left := left) hx
 rw [← hRR] at hRa
 have hsn := fun k => gvO_snoc (k := k) hx
 rw [hss] at hx
 obtain ⟨DL, hDL⟩ : ∃ z, z = dnB cs sl l st (⟨x0, x1, x2, x3, x4, x5⟩ : Bk) := ⟨_, rfl⟩
 have hch := dn_ch (cs := cs) (sl := sl) (l := l) (st := st) (b := (⟨x0, x1, x2, x3, x4, x5⟩ : Bk))
 rw [← hDL] at hRa hch
 have hdm : ∀ k ∈ DL, stepsV cs x1 k.1 = (k.2.1 : Int) ∧ k.2.1 ≤ cs.length ∧ 1 ≤ k.2.2 ∧ k.2.2 ≤ capB sl k.1 := fun k hk => dn_mem hcl hlo hixb (by rw [hDL] at hk; exact hk)
 refine wl_ov (ov_load (v := .slice (some ⟨b, off, none⟩) n cb) sc76 rfl (fun _ hm => (hm.fact 3 rfl).2) rfl) rfl ?_
 refine mv_ rfl (wl_ov (ov_len es80 rfl) rfl ?_)
 refine wl_ov (ov_index (j := gn) es76 rfl rfl (by omega)) rfl ?_
 refine wl_ov (ov_elem (vs := [.string x0, .string x1, .int .i64 x2, .int .i64 x3, .int .i64 x4, .int .i64 x5]) rz92 rfl (fun _ hm => (hm.fact 2 rfl).1) hx rfl rfl) rfl ?_
 refine wl_alloc zc92 rfl fun g2 => ?_
 refine wl_stores (cs' := [.string x0, .string x1, .int .i64 x2, .int .i64 x3, .int .i64 x4, .int .i64 x5]) 0 rz92 rfl rfl rfl rfl rfl rfl rfl rfl ?_
 refine nn_ (sr_ ?_)
 refine wl_makeMapF (enc := Value.bool) rfl fun g3 => ?_
 refine sg_ rfl (nn_ (gw_seq (sr_ ?_)))
 refine wl_ov (ov_load (v := .slice A0 n0 c0) sc58 rfl (fun _ hm => (hm.fact 5 rfl).2) rfl) rfl ?_
 refine wl_ov (ov_load (v := .slice A1 n1 c1) sc75 rfl (fun _ hm => (hm.fact 6 rfl).2) rfl) rfl ?_
 refine wl_ov (ov_load (v := .slice (some ⟨b, off, none⟩) n cb) sc76 rfl (fun _ hm => (hm.fact 4 rfl).2) rfl) rfl ?_
 refine mv_ rfl ?_
 refine wl_ov (ov_loads rz92 rfl (fun _ hm => hm.blkI 0 rfl) rfl rfl) rfl ?_
 refine wl_callgo (γ := Option Addr × Nat × Nat) (val := (fun g => .slice g.1 g.2.1 g.2.2)) (φ := (fun g => DL.length = g.2.1 ∧ g.2.1 ≤ 3100)) (fun g => ⟨.slice g.1 g.2.1 g.2.2, 90, 3, g.2.1, (DL.map (dcG (⟨x0, x1, x2, x3, x4, x5⟩ : Bk))).flatMap gvEnc⟩) rfl cb127 rfl rfl (fun wx hm => (by have h := choicesW_any cs A0 n0 c0 sl A1 n1 c1 l (gvO l st) (some ⟨b, off, none⟩) G n gn cb gq x0 x1 x2 x3 x4 x5 wx (hm.fact 1 rfl).1 hco hn0 hcl hlo (hm.fact 2 rfl).1 hso hn1 hmany (hm.fact 3 rfl).1 (hm.fact 8 rfl).1 (by omega) (by omega) (fun q hq => (htm q hq).2.1) hti.2.1; rw [hch] at h; exact h.mono fun _ _ ⟨A8, k2, c8, he, ho, hln, hk3, hg⟩ => ⟨(A8, k2, c8), he, ⟨by rw [List.length_map] at hln; exact hln, hk3⟩, ho, hg⟩)) ?_
 rintro ⟨A5, n5, c5⟩ hch5
 dsimp only at hch5 ⊢
 obtain ⟨hn5, h5b⟩ := hch5
 refine wl_ov (ov_len es80 rfl) rfl (mv_ rfl (nn_ (gw_block ?_)))
 refine gw_loop (γ := Nat × (ByteArray → Option Bool) × List ByteArray) (fun gg => gg.1 ≤ n5 ∧ (∀ k, (gg.2.1 k).getD false = true ↔ k ∈ gg.2.2) ∧ RR = docS st left (fun k => asgD cs sl l (st ++ [(k.1, k.2.2)]) (left - k.2.1)) (DL.drop (gg.1)) (gg.2.2)) (fun gg => [(0, .slice G gn gq), (1, .int .i64 ((left : Nat) : Int)), (3, .pointer (some ⟨gc, 0, none⟩)), (5, .pointer (some ⟨gf, 0, none⟩)), (9, .pointer (some ⟨g2, 0, none⟩)), (10, .map (some g3)), (38, .slice A5 n5 c5), (39, .int .i64 ((n5 : Nat) : Int)), (40, .int .i64 ((gg.1 : Nat) : Int))]) (fun gg => fun _ => True) (fun gg => [(g2, 92, [.string x0, .string x1, .int .i64 x2, .int .i64 x3, .int .i64 x4, .int .i64 x5])]) (fun gg => [⟨.slice A5 n5 c5, 90, 3, n5, (DL.map (dcG (⟨x0, x1, x2, x3, x4, x5⟩ : Bk))).flatMap gvEnc⟩]) (fun gg => [MapF Value.bool w.heap.size g3 (gg.2.1), SlOld csEnc 2 158 w.heap.size none A0 n0 cs, SlOld skEnc 2 211 w.heap.size none A1 n1 sl, SlOld bkEnc 6 92 w.heap.size none (some ⟨b, off, none⟩) n l, BlkOld w.heap.size none gl 76 [.slice (some ⟨b, off, none⟩) n cb], BlkOld w.heap.size none gc 58 [.slice A0 n0 c0], BlkOld w.heap.size none gs 75 [.slice A1 n1 c1], BlkOld w.heap.size none gf 187 [.func (.func 126) #[] #[.pointer (some ⟨gl, 0, none⟩), .pointer (some ⟨gc, 0, none⟩), .pointer (some ⟨gs, 0, none⟩), .pointer (some ⟨gf, 0, none⟩)]], SlOld gvEnc 3 90 w.heap.size none G gn (gvO l st)]) (fun gg => n5 - gg.1) (0, fNil, []) ⟨Nat.zero_le _, fun k => ⟨fun h => (by cases h), fun h => (by cases h)⟩, hRa⟩ ⟨rfl, rfl, rfl, rfl, rfl, rfl, rfl, rfl, rfl, trivial⟩ (fun _ hm => hm.pick [0] [0] [0, 1, 2, 3, 4, 5, 6, 7, 8] rfl rfl) ?_
 rintro ⟨j, F, fr⟩ hinv
 replace hinv : j ≤ n5 ∧ (∀ k, (F k).getD false = true ↔ k ∈ fr) ∧ RR = docS st left (fun k => asgD cs sl l (st ++ [(k.1, k.2.2)]) (left - k.2.1)) (DL.drop (j)) (fr) := hinv
 dsimp only
 refine sr_ ?_
 obtain ⟨hj0, hF, hRj⟩ := hinv
 refine wl_ov (ov_lss rfl rfl) rfl (nn_ (gw_seq ?_))
 refine gw_cond rfl (fun hh => ?_) (fun hh => ?_)
 ·have hj : ((j : Nat) : Int) < ((n5 : Nat) : Int) := by simpa using hh
  clear hh
  refine gw_skip (nx_then (gw_seq (gw_block (sr_ ?_))))
  refine wl_look (R := ∃ g, A5 = some ⟨g, 0, none⟩) (fun wx hm => own_addr (hm.ownI 0 rfl) (by omega)) ?_
  rintro ⟨g7, rfl⟩
  obtain ⟨q, hq⟩ : ∃ x, DL[j]? = some x := ⟨_, List.getElem?_eq_getElem (by omega)⟩
  obtain ⟨hst, hsl5, hu1, hu2⟩ := hdm q (List.mem_of_getElem? hq)
  have hmx := hmany q.1
  obtain ⟨cl, sp, u⟩ := q
  dsimp only at hst hsl5 hu1 hu2 hmx
  have hu3 : u ≤ 100 := by unfold capB at hu2; omega
  have hgq : (DL.map (dcG (⟨x0, x1, x2, x3, x4, x5⟩ : Bk)))[j]? = some ⟨x0, cl, ((u : Nat) : Int)⟩ := by rw [List.getElem?_map, hq]; rfl
  obtain ⟨US, hUS⟩ : ∃ z, z = (gvO l st).any (gvQ cl ((u : Nat) : Int)) := ⟨_, rfl⟩
  have hused : US = true ↔ (cl, u) ∈ st := by rw [hUS]; exact gv_used l st (by omega)
  refine wl_ov (ov_index (j := j) es80 rfl rfl (by omega)) rfl ?_
  refine wl_ov (ov_elem (vs := [.string x0, .string cl, .int .i64 ((u : Nat) : Int)]) rz90 rfl (fun _ hm => (SlT.ofOwn gv_len (hm.ownI 0 rfl) (by rw [List.length_map]; exact hn5))) hgq rfl rfl) rfl ?_
  refine wl_alloc zc90 rfl fun g4 => ?_
  refine wl_stores (cs' := [.string x0, .string cl, .int .i64 ((u : Nat) : Int)]) 0 rz90 rfl rfl rfl rfl rfl rfl rfl rfl ?_
  refine nn_ (sr_ ?_)
  refine wl_ov (ov_load (v := .slice A0 n0 c0) sc58 rfl (fun _ hm => (hm.fact 5 rfl).2) rfl) rfl ?_
  refine fd_ fo92_1 rfl rfl (lk_ sc9 1 rfl rfl rfl (fd_ fo90_1 rfl rfl (lk_ sc9 0 rfl rfl rfl ?_)))
  refine wl_callv (v := .tuple #[.int .i64 ((sp : Nat) : Int), .bool true]) rfl cb128 rfl rfl (fun wx hm => (by have h := stepsOf_any cs A0 n0 c0 x1 cl wx (hm.fact 1 rfl).1 hco (by omega) hcl hlo; rw [hst, show max ((sp : Nat) : Int) 0 = ((sp : Nat) : Int) by omega, decide_eq_true (show 0 ≤ ((sp : Nat) : Int) by omega)] at h; exact h)) ?_
  refine mv_ rfl (wl_ov (ov_extract rfl rfl) rfl (wl_ov (ov_extract rfl rfl) rfl (sg_ rfl (sg_ rfl (nn_ (sr_ (mv_ rfl (wl_ov (ov_makeFunc rfl rfl) rfl ?_))))))))
  refine wl_callv (v := .bool US) rfl cb129 rfl rfl (fun wx hm => (by rw [hUS]; exact hasGiven_any (gvO l st) G gn gq g4 x0 cl ((u : Nat) : Int) wx (hm.fact 8 rfl).1 (by omega) (hm.blkI 0 rfl))) ?_
  refine sg_ rfl (nn_ ?_)
  refine gw_cut (γ := Unit) (I := (fun (uu : Unit) => sp ≤ left ∧ ¬ (left < (cl, sp, u).2.1 ∨ (((cl, sp, u).1, (cl, sp, u).2.2) ∉ st ∧ (cl, sp, u).1 ∈ fr)))) (S' := (fun (uu : Unit) => [(0, .slice G gn gq), (1, .int .i64 ((left : Nat) : Int)), (3, .pointer (some ⟨gc, 0, none⟩)), (5, .pointer (some ⟨gf, 0, none⟩)), (9, .pointer (some ⟨g2, 0, none⟩)), (10, .map (some g3)), (12, .pointer (some ⟨g4, 0, none⟩)), (13, .int .i64 ((sp : Nat) : Int)), (15, .bool US), (38, .slice (some ⟨g7, 0, none⟩) n5 c5), (39, .int .i64 ((n5 : Nat) : Int)), (40, .int .i64 ((j : Nat) : Int))])) (K' := (fun (uu : Unit) => fun _ => True)) (L' := (fun (uu : Unit) => [(g4, 90, [.string x0, .string cl, .int .i64 ((u : Nat) : Int)]), (g2, 92, [.string x0, .string x1, .int .i64 x2, .int .i64 x3, .int .i64 x4, .int .i64 x5])])) (O' := (fun (uu : Unit) => [⟨.slice (some ⟨g7, 0, none⟩) n5 c5, 90, 3, n5, (DL.map (dcG (⟨x0, x1, x2, x3, x4, x5⟩ : Bk))).flatMap gvEnc⟩])) (X' := (fun (uu : Unit) => [MapF Value.bool w.heap.size g3 (F), SlOld csEnc 2 158 w.heap.size none A0 n0 cs, SlOld skEnc 2 211 w.heap.size none A1 n1 sl, SlOld bkEnc 6 92 w.heap.size none (some ⟨b, off, none⟩) n l, BlkOld w.heap.size none gl 76 [.slice (some ⟨b, off, none⟩) n cb], BlkOld w.heap.size none gc 58 [.slice A0 n0 c0], BlkOld w.heap.size none gs 75 [.slice A1 n1 c1], BlkOld w.heap.size none gf 187 [.func (.func 126) #[] #[.pointer (some ⟨gl, 0, none⟩), .pointer (some ⟨gc, 0, none⟩), .pointer (some ⟨gs, 0, none⟩), .pointer (some ⟨gf, 0, none⟩)]], SlOld gvEnc 3 90 w.heap.size none G gn (gvO l st)])) ?_ ?_
  ·refine sr_ (mv_ rfl (mv_ rfl ?_))
   refine wl_ov (ov_gtr rfl rfl) rfl ?_
   refine mv_ rfl ?_
   rcases Bool.eq_false_or_eq_true (decide (((left : Nat) : Int) < ((sp : Nat) : Int))) with hb1 | hb1
   ·refine wl_set 59 rfl (congrArg Value.bool hb1) ?_
    replace hb1 := of_decide_eq_true hb1
    refine goff rfl rfl rfl (goff rfl rfl rfl (goff rfl rfl rfl (gnd rfl rfl rfl (gnd rfl rfl rfl (gnd rfl rfl rfl (gnd rfl rfl rfl (goff rfl rfl rfl (pt_ rfl rfl (nn_ (ct_ rfl ?_))))))))))
    refine gw_exit ?_
    refine nx_then_exit ?_
    refine nx_blk_here ?_
    refine nx_then (gw_region (ad_ rfl rfl (mv_ rfl (wl_nil ?_))))
    rw [docS_skip1 hq (.inl (by dsimp only; omega))] at hRj
    exact nx_round (j + 1, F, fr) ⟨by dsimp only; omega, hF, hRj⟩ (by dsimp only; omega) ⟨rfl, rfl, rfl, rfl, rfl, rfl, rfl, rfl, (some_int (by omega)), trivial⟩ (fun _ hm => hm.pick [1] [0] [0, 1, 2, 3, 4, 5, 6, 7, 8] rfl rfl)
   refine wl_set 59 rfl (congrArg Value.bool hb1) ?_
   replace hb1 := of_decide_eq_false hb1
   refine wl_guard_on rfl rfl rfl (mv_ rfl (wl_guard_on rfl rfl rfl (wl_ov (ov_un_not rfl) rfl (wl_guard_on rfl rfl rfl (mv_ rfl ?_)))))
   rcases Bool.eq_false_or_eq_true (!US) with hb2 | hb2
   ·refine wl_set 62 rfl (congrArg Value.bool hb2) ?_
    refine wl_guard_on rfl rfl rfl (mv_ rfl (wl_guard_on rfl rfl rfl (fd_ fo90_1 rfl rfl (wl_guard_on rfl rfl rfl (lk_ sc9 0 rfl rfl rfl (wl_guard_on rfl rfl rfl ?_))))))
    refine wl_ov (ov_lookF (enc := Value.bool) (k := 9) (e := 4) false (by kernel_rfl) (by kernel_rfl) (by kernel_rfl) rfl rfl (fun _ hm => (hm.fact 0 rfl))) rfl ?_
    refine wl_guard_on rfl rfl rfl (pt_ rfl rfl (pf_ rfl rfl (nn_ ?_)))
    refine gw_cond rfl (fun hh => ?_) (fun hh => ?_)
    ·have hc3 : (((F) cl).getD false) = true := by simpa using hh
     clear hh
     refine gw_exit ?_
     refine nx_then_exit ?_
     refine nx_blk_here ?_
     refine nx_then (gw_region (ad_ rfl rfl (mv_ rfl (wl_nil ?_))))
     rw [docS_skip1 hq (.inr ⟨fun h => (by have h5 := hused.2 h; rw [h5] at hb2; cases hb2), (hF cl).1 hc3⟩)] at hRj
     exact nx_round (j + 1, F, fr) ⟨by dsimp only; omega, hF, hRj⟩ (by dsimp only; omega) ⟨rfl, rfl, rfl, rfl, rfl, rfl, rfl, rfl, (some_int (by omega)), trivial⟩ (fun _ hm => hm.pick [1] [0] [0, 1, 2, 3, 4, 5, 6, 7, 8] rfl rfl)
    have hc3 : (((F) cl).getD false) = false := by simpa using hh
    clear hh
    refine gw_skip ?_
    exact nx_meet () ⟨by omega, fun h => h.elim (fun h1 => (by dsimp only at h1; omega)) (fun h2 => (by have h5 := (hF cl).2 h2.2; rw [hc3] at h5; cases h5))⟩ ⟨rfl, rfl, rfl, rfl, rfl, rfl, rfl, rfl, rfl, rfl, rfl, rfl, trivial⟩ (fun _ hm => hm.pick [0, 1] [0] [0, 1, 2, 3, 4, 5, 6, 7, 8] rfl rfl)
   refine wl_set 62 rfl (congrArg Value.bool hb2) ?_
   refine goff rfl rfl rfl (goff rfl rfl rfl (goff rfl rfl rfl (goff rfl rfl rfl (wl_guard_on rfl rfl rfl (pf_ rfl rfl (pf_ rfl rfl (nn_ (cf_ rfl (gw_skip ?_)))))))))
   exact nx_meet () ⟨by omega, fun h => h.elim (fun h1 => (by dsimp only at h1; omega)) (fun h2 => h2.1 (hused.1 (by simpa using hb2)))⟩ ⟨rfl, rfl, rfl, rfl, rfl, rfl, rfl, rfl, rfl, rfl, rfl, rfl, trivial⟩ (fun _ hm => hm.pick [0, 1] [0] [0, 1, 2, 3, 4, 5, 6, 7, 8] rfl rfl)
  intro uu hinv
  replace hinv : sp ≤ left ∧ ¬ (left < (cl, sp, u).2.1 ∨ (((cl, sp, u).1, (cl, sp, u).2.2) ∉ st ∧ (cl, sp, u).1 ∈ fr)) := hinv
  obtain ⟨hle, hgo⟩ := hinv
  refine gw_cut (γ := ByteArray → Option Bool) (I := (fun (F2 : ByteArray → Option Bool) => ∀ k, (F2 k).getD false = true ↔ k ∈ docR st (cl, sp, u) fr)) (S' := (fun (F2 : ByteArray → Option Bool) => [(0, .slice G gn gq), (1, .int .i64 ((left : Nat) : Int)), (3, .pointer (some ⟨gc, 0, none⟩)), (5, .pointer (some ⟨gf, 0, none⟩)), (9, .pointer (some ⟨g2, 0, none⟩)), (10, .map (some g3)), (12, .pointer (some ⟨g4, 0, none⟩)), (13, .int .i64 ((sp : Nat) : Int)), (38, .slice (some ⟨g7, 0, none⟩) n5 c5), (39, .int .i64 ((n5 : Nat) : Int)), (40, .int .i64 ((j : Nat) : Int))])) (K' := (fun (F2 : ByteArray → Option Bool) => fun _ => True)) (L' := (fun (F2 : ByteArray → Option Bool) => [(g4, 90, [.string x0, .string cl, .int .i64 ((u : Nat) : Int)]), (g2, 92, [.string x0, .string x1, .int .i64 x2, .int .i64 x3, .int .i64 x4, .int .i64 x5])])) (O' := (fun (F2 : ByteArray → Option Bool) => [⟨.slice (some ⟨g7, 0, none⟩) n5 c5, 90, 3, n5, (DL.map (dcG (⟨x0, x1, x2, x3, x4, x5⟩ : Bk))).flatMap gvEnc⟩])) (X' := (fun (F2 : ByteArray → Option Bool) => [MapF Value.bool w.heap.size g3 (F2), SlOld csEnc 2 158 w.heap.size none A0 n0 cs, SlOld skEnc 2 211 w.heap.size none A1 n1 sl, SlOld bkEnc 6 92 w.heap.size none (some ⟨b, off, none⟩) n l, BlkOld w.heap.size none gl 76 [.slice (some ⟨b, off, none⟩) n cb], BlkOld w.heap.size none gc 58 [.slice A0 n0 c0], BlkOld w.heap.size none gs 75 [.slice A1 n1 c1], BlkOld w.heap.size none gf 187 [.func (.func 126) #[] #[.pointer (some ⟨gl, 0, none⟩), .pointer (some ⟨gc, 0, none⟩), .pointer (some ⟨gs, 0, none⟩), .pointer (some ⟨gf, 0, none⟩)]], SlOld gvEnc 3 90 w.heap.size none G gn (gvO l st)])) ?_ ?_
  ·refine gw_region (mv_ rfl (fd_ fo90_1 rfl rfl (lk_ sc9 0 rfl rfl rfl (mv_ rfl (fd_ fo90_1 rfl rfl (lk_ sc9 0 rfl rfl rfl ?_))))))
   refine wl_ov (ov_lookF (enc := Value.bool) (k := 9) (e := 4) false (by kernel_rfl) (by kernel_rfl) (by kernel_rfl) rfl rfl (fun _ hm => (hm.fact 0 rfl))) rfl ?_
   refine mv_ rfl ?_
   rcases Bool.eq_false_or_eq_true (((F) cl).getD false) with hb4 | hb4
   ·refine wl_set 76 rfl (congrArg Value.bool hb4) ?_
    refine goff rfl rfl rfl (goff rfl rfl rfl (pt_ rfl rfl ?_))
    refine wl_mapPut (enc := Value.bool) (v := true) (k := 9) (e := 4) (X' := [SlOld csEnc 2 158 w.heap.size none A0 n0 cs, SlOld skEnc 2 211 w.heap.size none A1 n1 sl, SlOld bkEnc 6 92 w.heap.size none (some ⟨b, off, none⟩) n l, BlkOld w.heap.size none gl 76 [.slice (some ⟨b, off, none⟩) n cb], BlkOld w.heap.size none gc 58 [.slice A0 n0 c0], BlkOld w.heap.size none gs 75 [.slice A1 n1 c1], BlkOld w.heap.size none gf 187 [.func (.func 126) #[] #[.pointer (some ⟨gl, 0, none⟩), .pointer (some ⟨gc, 0, none⟩), .pointer (some ⟨gs, 0, none⟩), .pointer (some ⟨gf, 0, none⟩)]], SlOld gvEnc 3 90 w.heap.size none G gn (gvO l st)]) 0 (by kernel_rfl) (by kernel_rfl) rfl rfl rfl rfl (far_cons (i := 1) SlOld.far rfl (far_cons (i := 2) SlOld.far rfl (far_cons (i := 3) SlOld.far rfl (far_cons (i := 4) BlkOld.far rfl (far_cons (i := 5) BlkOld.far rfl (far_cons (i := 6) BlkOld.far rfl (far_cons (i := 7) BlkOld.far rfl (far_cons (i := 8) SlOld.far rfl far_nil)))))))) ?_
    refine wl_nil ?_
    have hk0 : ∀ k, k ≠ cl → (k ∈ docR st (cl, sp, u) fr ↔ k ∈ fr) := fun k hk => docR_mem (st := st) (k := (cl, sp, u)) (fr := fr).trans ⟨fun h => h.elim id (fun h2 => absurd h2.1 hk), .inl⟩
    have hk1 : true = true ↔ cl ∈ docR st (cl, sp, u) fr := ⟨fun _ => docR_mem (st := st) (k := (cl, sp, u)) (fr := fr).2 (.inl ((hF cl).1 hb4)), fun _ => rfl⟩
    exact nx_meet (fPut (F) cl true) (fPut_iff hF hk1 hk0) ⟨rfl, rfl, rfl, rfl, rfl, rfl, rfl, rfl, rfl, rfl, rfl, trivial⟩ (fun _ hm => hm.pick [0, 1] [0] [0, 1, 2, 3, 4, 5, 6, 7, 8] rfl rfl)
   refine wl_set 76 rfl (congrArg Value.bool hb4) ?_
   refine wl_guard_on rfl rfl rfl (mv_ rfl (wl_guard_on rfl rfl rfl (wl_ov (ov_un_not rfl) rfl (pf_ rfl rfl ?_))))
   refine wl_mapPut (enc := Value.bool) (v := !US) (k := 9) (e := 4) (X' := [SlOld csEnc 2 158 w.heap.size none A0 n0 cs, SlOld skEnc 2 211 w.heap.size none A1 n1 sl, SlOld bkEnc 6 92 w.heap.size none (some ⟨b, off, none⟩) n l, BlkOld w.heap.size none gl 76 [.slice (some ⟨b, off, none⟩) n cb], BlkOld w.heap.size none gc 58 [.slice A0 n0 c0], BlkOld w.heap.size none gs 75 [.slice A1 n1 c1], BlkOld w.heap.size none gf 187 [.func (.func 126) #[] #[.pointer (some ⟨gl, 0, none⟩), .pointer (some ⟨gc, 0, none⟩), .pointer (some ⟨gs, 0, none⟩), .pointer (some ⟨gf, 0, none⟩)]], SlOld gvEnc 3 90 w.heap.size none G gn (gvO l st)]) 0 (by kernel_rfl) (by kernel_rfl) rfl rfl rfl rfl (far_cons (i := 1) SlOld.far rfl (far_cons (i := 2) SlOld.far rfl (far_cons (i := 3) SlOld.far rfl (far_cons (i := 4) BlkOld.far rfl (far_cons (i := 5) BlkOld.far rfl (far_cons (i := 6) BlkOld.far rfl (far_cons (i := 7) BlkOld.far rfl (far_cons (i := 8) SlOld.far rfl far_nil)))))))) ?_
   refine wl_nil ?_
   have hk0 : ∀ k, k ≠ cl → (k ∈ docR st (cl, sp, u) fr ↔ k ∈ fr) := fun k hk => docR_mem (st := st) (k := (cl, sp, u)) (fr := fr).trans ⟨fun h => h.elim id (fun h2 => absurd h2.1 hk), .inl⟩
   have hk1 : (!US) = true ↔ cl ∈ docR st (cl, sp, u) fr := by
    rw [docR_mem (st := st) (k := (cl, sp, u)) (fr := fr)]
    constructor
    ·exact fun h => .inr ⟨rfl, fun h2 => (by have h5 := hused.2 h2; rw [h5] at h; cases h)⟩
    rintro (h | h)
    ·have h5 := (hF cl).2 h; rw [hb4] at h5; cases h5
    cases hu : US with
    | false => rfl
    | true => exact absurd (hused.1 hu) h.2
   exact nx_meet (fPut (F) cl (!US)) (fPut_iff hF hk1 hk0) ⟨rfl, rfl, rfl, rfl, rfl, rfl, rfl, rfl, rfl, rfl, rfl, trivial⟩ (fun _ hm => hm.pick [0, 1] [0] [0, 1, 2, 3, 4, 5, 6, 7, 8] rfl rfl)
  intro F2 hinv
  replace hinv : ∀ k, (F2 k).getD false = true ↔ k ∈ docR st (cl, sp, u) fr := hinv
  refine gw_seq ?_
  have hF2 : ∀ k, (F2 k).getD false = true ↔ k ∈ docR st (cl, sp, u) fr := hinv
  have hsn2 := hsn (cl, u)
  dsimp only at hsn2
  rcases hV : asgD cs sl l (st ++ [(cl, u)]) (left - sp) with _ | o2
  ·refine gd (fun wz => Blk wz g4 90 [.string x0, .string cl, .int .i64 ((u : Nat) : Int)] ∧ Blk wz g2 92 [.string x0, .string x1, .int .i64 x2, .int .i64 x3, .int .i64 x4, .int .i64 x5] ∧ (MapF Value.bool w.heap.size g3 (F2)) wz ∧ (SlOld csEnc 2 158 w.heap.size none A0 n0 cs) wz ∧ (SlOld skEnc 2 211 w.heap.size none A1 n1 sl) wz ∧ (SlOld bkEnc 6 92 w.heap.size none (some ⟨b, off, none⟩) n l) wz ∧ (BlkOld w.heap.size none gl 76 [.slice (some ⟨b, off, none⟩) n cb]) wz ∧ (BlkOld w.heap.size none gc 58 [.slice A0 n0 c0]) wz ∧ (BlkOld w.heap.size none gs 75 [.slice A1 n1 c1]) wz ∧ (BlkOld w.heap.size none gf 187 [.func (.func 126) #[] #[.pointer (some ⟨gl, 0, none⟩), .pointer (some ⟨gc, 0, none⟩), .pointer (some ⟨gs, 0, none⟩), .pointer (some ⟨gf, 0, none⟩)]]) wz ∧ (SlOld gvEnc 3 90 w.heap.size none G gn (gvO l st)) wz ∧ True) mixed (fun _ hm => ⟨hm.bl 0, hm.bl 1, hm.fa 0, hm.fa 1, hm.fa 2, hm.fa 3, hm.fa 4, hm.fa 5, hm.fa 6, hm.fa 7, hm.fa 8, trivial⟩) fun z => ?_
   refine wt 0 11 1 rfl z (ov_load (v := .func (.func 126) #[] #[.pointer (some ⟨gl, 0, none⟩), .pointer (some ⟨gc, 0, none⟩), .pointer (some ⟨gs, 0, none⟩), .pointer (some ⟨gf, 0, none⟩)]) sc187 rfl (fun _ hm => (hm.2.2.2.2.2.2.2.2.2.1).2) rfl) ?_
   refine wt 1 11 3 rfl z (ov_move rfl) ?_
   refine wt 3 11 11 rfl z (ov_loads rz90 rfl (fun _ hm => hm.1) rfl rfl) ?_
   refine wt 6 11 75 rfl z (ov_move rfl) ?_
   refine wt 7 11 203 rfl z (ov_move rfl) ?_
   refine wt 8 11 459 rfl z (ov_sub rfl rfl (by omega) (by omega)) ?_
   refine wa_set 88 (v' := .int .i64 ((left - sp : Nat) : Int)) rfl (congrArg (Value.int .i64) (by omega)) ?_
   refine wa_all [2, 4] (by kernel_rfl) rfl ⟨⟨_, rfl, ?_⟩, ⟨_, rfl, ?_⟩, trivial⟩
   ·refine wl_callgo (γ := Option Addr × Nat) (val := (fun g => .slice g.1 gn g.2)) (φ := (fun g => True)) (fun g => ⟨.slice g.1 gn g.2, 90, 3, gn, (gvO l st).flatMap gvEnc⟩) rfl cb131 rfl rfl (fun wx hm => (cloneGvs_any (gvO l st) G gn gq wx (hm.fact 8 rfl).1 (by omega)).mono fun _ _ ⟨A, c, he, ho, hg⟩ => ⟨(A, c), he, trivial, ho, hg⟩) ?_
    rintro ⟨A2, c2⟩ hphi
    dsimp only at hphi ⊢
    refine wl_nil ?_
    refine nw 11 463 (fun _ hm => ⟨hm.bl 0, hm.bl 1, hm.fa 0, hm.fa 1, hm.fa 2, hm.fa 3, hm.fa 4, hm.fa 5, hm.fa 6, hm.fa 7, hm.fa 8, trivial⟩) fun z => ?_
    refine wa1 4 rfl ?_
    refine wl_buildSlice (e := 90) (cs := [.string x0, .string cl, .int .i64 ((u : Nat) : Int)]) rfl (by kernel_rfl) rfl fun g5 => ?_
    refine wl_nil ?_
    refine nw 11 479 (fun _ hm => ⟨hm.bl 1, hm.bl 2, hm.fa 0, hm.fa 1, hm.fa 2, hm.fa 3, hm.fa 4, hm.fa 5, hm.fa 6, hm.fa 7, hm.fa 8, trivial⟩) fun z => ?_
    refine wa1 5 rfl ?_
    refine wl_append (news := [.string x0, .string cl, .int .i64 ((u : Nat) : Int)]) 0 0 ap80 rfl rfl rfl rfl rfl rfl rfl (by omega) (by unfold maxLen; omega) rfl rfl fun v6 hv6 => ?_
    rw [show (gvO l st).flatMap gvEnc ++ ([.string x0, .string cl, .int .i64 ((u : Nat) : Int)] : List Value) = (gvO l (st ++ [(cl, u)])).flatMap gvEnc from by rw [hsn2]; simp [gvEnc]]
    refine wl_look (R := ∃ A cc, v6 = .slice A (gn + 1) cc) (fun wx hm => own_slice (hm.ownI 0 rfl)) ?_
    rintro ⟨A6, c6, rfl⟩
    refine wl_nil ?_
    refine nw 11 511 (fun _ hm => ⟨hm.bl 1, hm.bl 2, hm.fa 0, hm.fa 1, hm.fa 2, hm.fa 3, hm.fa 4, hm.fa 5, hm.fa 6, hm.fa 7, hm.fa 8, trivial⟩) fun z => ?_
    refine wa1 9 rfl ?_
    refine wl_callv rfl cb126 rfl rfl (fun wx hm => ((ih hgn (st ++ [(cl, u)]) (left - sp) A6 c6 wx (by rw [List.length_append, hss]; rfl) (by omega) (fun h => absurd h (by omega)) (hm.fact 1 rfl).1 (hm.fact 2 rfl).1 (hm.fact 3 rfl).1 (hm.fact 4 rfl).2 (hm.fact 5 rfl).2 (hm.fact 6 rfl).2 (hm.fact 7 rfl).2 (SlT.ofOwn gv_len (hm.ownI 0 rfl) (by rw [gvO_len (by rw [List.length_append, List.length_singleton]; omega), List.length_append, List.length_singleton]; omega))).mono fun _ _ ⟨h, hg⟩ => by
     rcases h with ⟨_, he⟩ | ⟨o, g8, c8, h2, _⟩
     ·exact ⟨he, hg⟩
     rw [hV] at h2; cases h2)) ?_
    refine wl_nil ?_
    refine nw 11 1023 (fun _ hm => ⟨hm.bl 1, hm.bl 2, hm.fa 0, hm.fa 1, hm.fa 2, hm.fa 3, hm.fa 4, hm.fa 5, hm.fa 6, hm.fa 7, hm.fa 8, trivial⟩) fun z => ?_
    refine wt 10 11 2047 rfl z (ov_assign rfl) ?_
    refine wa_done (by kernel_rfl) ?_
    refine nx_then (sr_ (mv_ rfl ?_))
    refine wl_ov (ov_bin (v := .bool false) rfl rfl (fun _ => rfl)) rfl ?_
    refine nn_ (cf_ rfl (gw_skip (nx_blk_nrm (nx_then (gw_region (ad_ rfl rfl (mv_ rfl (wl_nil ?_))))))))
    rw [docS_next hq hgo hV] at hRj
    exact nx_round (j + 1, F2, docR st (cl, sp, u) fr) ⟨by dsimp only; omega, hF2, hRj⟩ (by dsimp only; omega) ⟨rfl, rfl, rfl, rfl, rfl, rfl, rfl, rfl, (some_int (by omega)), trivial⟩ (fun _ hm => hm.pick [2] [1] [0, 1, 2, 3, 4, 5, 6, 7, 8] rfl rfl)
   refine wl_buildSlice (e := 90) (cs := [.string x0, .string cl, .int .i64 ((u : Nat) : Int)]) rfl (by kernel_rfl) rfl fun g6 => ?_
   refine wl_nil ?_
   refine nw 11 475 (fun _ hm => ⟨hm.bl 1, hm.bl 2, hm.fa 0, hm.fa 1, hm.fa 2, hm.fa 3, hm.fa 4, hm.fa 5, hm.fa 6, hm.fa 7, hm.fa 8, trivial⟩) fun z => ?_
   refine wa1 2 rfl ?_
   refine wl_callgo (γ := Option Addr × Nat) (val := (fun g => .slice g.1 gn g.2)) (φ := (fun g => True)) (fun g => ⟨.slice g.1 gn g.2, 90, 3, gn, (gvO l st).flatMap gvEnc⟩) rfl cb131 rfl rfl (fun wx hm => (cloneGvs_any (gvO l st) G gn gq wx (hm.fact 8 rfl).1 (by omega)).mono fun _ _ ⟨A, c, he, ho, hg⟩ => ⟨(A, c), he, trivial, ho, hg⟩) ?_
   rintro ⟨A2, c2⟩ hphi
   dsimp only at hphi ⊢
   refine wl_nil ?_
   refine nw 11 479 (fun _ hm => ⟨hm.bl 1, hm.bl 2, hm.fa 0, hm.fa 1, hm.fa 2, hm.fa 3, hm.fa 4, hm.fa 5, hm.fa 6, hm.fa 7, hm.fa 8, trivial⟩) fun z => ?_
   refine wa1 5 rfl ?_
   refine wl_append (news := [.string x0, .string cl, .int .i64 ((u : Nat) : Int)]) 0 0 ap80 rfl rfl rfl rfl rfl rfl rfl (by omega) (by unfold maxLen; omega) rfl rfl fun v6 hv6 => ?_
   rw [show (gvO l st).flatMap gvEnc ++ ([.string x0, .string cl, .int .i64 ((u : Nat) : Int)] : List Value) = (gvO l (st ++ [(cl, u)])).flatMap gvEnc from by rw [hsn2]; simp [gvEnc]]
   refine wl_look (R := ∃ A cc, v6 = .slice A (gn + 1) cc) (fun wx hm => own_slice (hm.ownI 0 rfl)) ?_
   rintro ⟨A6, c6, rfl⟩
   refine wl_nil ?_
   refine nw 11 511 (fun _ hm => ⟨hm.bl 1, hm.bl 2, hm.fa 0, hm.fa 1, hm.fa 2, hm.fa 3, hm.fa 4, hm.fa 5, hm.fa 6, hm.fa 7, hm.fa 8, trivial⟩) fun z => ?_
   refine wa1 9 rfl ?_
   refine wl_callv rfl cb126 rfl rfl (fun wx hm => ((ih hgn (st ++ [(cl, u)]) (left - sp) A6 c6 wx (by rw [List.length_append, hss]; rfl) (by omega) (fun h => absurd h (by omega)) (hm.fact 1 rfl).1 (hm.fact 2 rfl).1 (hm.fact 3 rfl).1 (hm.fact 4 rfl).2 (hm.fact 5 rfl).2 (hm.fact 6 rfl).2 (hm.fact 7 rfl).2 (SlT.ofOwn gv_len (hm.ownI 0 rfl) (by rw [gvO_len (by rw [List.length_append, List.length_singleton]; omega), List.length_append, List.length_singleton]; omega))).mono fun _ _ ⟨h, hg⟩ => by
    rcases h with ⟨_, he⟩ | ⟨o, g8, c8, h2, _⟩
    ·exact ⟨he, hg⟩
    rw [hV] at h2; cases h2)) ?_
   refine wl_nil ?_
   refine nw 11 1023 (fun _ hm => ⟨hm.bl 1, hm.bl 2, hm.fa 0, hm.fa 1, hm.fa 2, hm.fa 3, hm.fa 4, hm.fa 5, hm.fa 6, hm.fa 7, hm.fa 8, trivial⟩) fun z => ?_
   refine wt 10 11 2047 rfl z (ov_assign rfl) ?_
   refine wa_done (by kernel_rfl) ?_
   refine nx_then (sr_ (mv_ rfl ?_))
   refine wl_ov (ov_bin (v := .bool false) rfl rfl (fun _ => rfl)) rfl ?_
   refine nn_ (cf_ rfl (gw_skip (nx_blk_nrm (nx_then (gw_region (ad_ rfl rfl (mv_ rfl (wl_nil ?_))))))))
   rw [docS_next hq hgo hV] at hRj
   exact nx_round (j + 1, F2, docR st (cl, sp, u) fr) ⟨by dsimp only; omega, hF2, hRj⟩ (by dsimp only; omega) ⟨rfl, rfl, rfl, rfl, rfl, rfl, rfl, rfl, (some_int (by omega)), trivial⟩ (fun _ hm => hm.pick [2] [1] [0, 1, 2, 3, 4, 5, 6, 7, 8] rfl rfl)
  refine gd (fun wz => Blk wz g4 90 [.string x0, .string cl, .int .i64 ((u : Nat) : Int)] ∧ Blk wz g2 92 [.string x0, .string x1, .int .i64 x2, .int .i64 x3, .int .i64 x4, .int .i64 x5] ∧ (MapF Value.bool w.heap.size g3 (F2)) wz ∧ (SlOld csEnc 2 158 w.heap.size none A0 n0 cs) wz ∧ (SlOld skEnc 2 211 w.heap.size none A1 n1 sl) wz ∧ (SlOld bkEnc 6 92 w.heap.size none (some ⟨b, off, none⟩) n l) wz ∧ (BlkOld w.heap.size none gl 76 [.slice (some ⟨b, off, none⟩) n cb]) wz ∧ (BlkOld w.heap.size none gc 58 [.slice A0 n0 c0]) wz ∧ (BlkOld w.heap.size none gs 75 [.slice A1 n1 c1]) wz ∧ (BlkOld w.heap.size none gf 187 [.func (.func 126) #[] #[.pointer (some ⟨gl, 0, none⟩), .pointer (some ⟨gc, 0, none⟩), .pointer (some ⟨gs, 0, none⟩), .pointer (some ⟨gf, 0, none⟩)]]) wz ∧ (SlOld gvEnc 3 90 w.heap.size none G gn (gvO l st)) wz ∧ True) mixed (fun _ hm => ⟨hm.bl 0, hm.bl 1, hm.fa 0, hm.fa 1, hm.fa 2, hm.fa 3, hm.fa 4, hm.fa 5, hm.fa 6, hm.fa 7, hm.fa 8, trivial⟩) fun z => ?_
  refine wt 0 11 1 rfl z (ov_load (v := .func (.func 126) #[] #[.pointer (some ⟨gl, 0, none⟩), .pointer (some ⟨gc, 0, none⟩), .pointer (some ⟨gs, 0, none⟩), .pointer (some ⟨gf, 0, none⟩)]) sc187 rfl (fun _ hm => (hm.2.2.2.2.2.2.2.2.2.1).2) rfl) ?_
  refine wt 1 11 3 rfl z (ov_move rfl) ?_
  refine wt 3 11 11 rfl z (ov_loads rz90 rfl (fun _ hm => hm.1) rfl rfl) ?_
  refine wt 6 11 75 rfl z (ov_move rfl) ?_
  refine wt 7 11 203 rfl z (ov_move rfl) ?_
  refine wt 8 11 459 rfl z (ov_sub rfl rfl (by omega) (by omega)) ?_
  refine wa_set 88 (v' := .int .i64 ((left - sp : Nat) : Int)) rfl (congrArg (Value.int .i64) (by omega)) ?_
  refine wa_all [2, 4] (by kernel_rfl) rfl ⟨⟨_, rfl, ?_⟩, ⟨_, rfl, ?_⟩, trivial⟩
  ·refine wl_callgo (γ := Option Addr × Nat) (val := (fun g => .slice g.1 gn g.2)) (φ := (fun g => True)) (fun g => ⟨.slice g.1 gn g.2, 90, 3, gn, (gvO l st).flatMap gvEnc⟩) rfl cb131 rfl rfl (fun wx hm => (cloneGvs_any (gvO l st) G gn gq wx (hm.fact 8 rfl).1 (by omega)).mono fun _ _ ⟨A, c, he, ho, hg⟩ => ⟨(A, c), he, trivial, ho, hg⟩) ?_
   rintro ⟨A2, c2⟩ hphi
   dsimp only at hphi ⊢
   refine wl_nil ?_
   refine nw 11 463 (fun _ hm => ⟨hm.bl 0, hm.bl 1, hm.fa 0, hm.fa 1, hm.fa 2, hm.fa 3, hm.fa 4, hm.fa 5, hm.fa 6, hm.fa 7, hm.fa 8, trivial⟩) fun z => ?_
   refine wa1 4 rfl ?_
   refine wl_buildSlice (e := 90) (cs := [.string x0, .string cl, .int .i64 ((u : Nat) : Int)]) rfl (by kernel_rfl) rfl fun g7 => ?_
   refine wl_nil ?_
   refine nw 11 479 (fun _ hm => ⟨hm.bl 1, hm.bl 2, hm.fa 0, hm.fa 1, hm.fa 2, hm.fa 3, hm.fa 4, hm.fa 5, hm.fa 6, hm.fa 7, hm.fa 8, trivial⟩) fun z => ?_
   refine wa1 5 rfl ?_
   refine wl_append (news := [.string x0, .string cl, .int .i64 ((u : Nat) : Int)]) 0 0 ap80 rfl rfl rfl rfl rfl rfl rfl (by omega) (by unfold maxLen; omega) rfl rfl fun v6 hv6 => ?_
   rw [show (gvO l st).flatMap gvEnc ++ ([.string x0, .string cl, .int .i64 ((u : Nat) : Int)] : List Value) = (gvO l (st ++ [(cl, u)])).flatMap gvEnc from by rw [hsn2]; simp [gvEnc]]
   refine wl_look (R := ∃ A cc, v6 = .slice A (gn + 1) cc) (fun wx hm => own_slice (hm.ownI 0 rfl)) ?_
   rintro ⟨A6, c6, rfl⟩
   refine wl_nil ?_
   refine nw 11 511 (fun _ hm => ⟨hm.bl 1, hm.bl 2, hm.fa 0, hm.fa 1, hm.fa 2, hm.fa 3, hm.fa 4, hm.fa 5, hm.fa 6, hm.fa 7, hm.fa 8, trivial⟩) fun z => ?_
   refine wa1 9 rfl ?_
   refine wl_callgo (γ := Nat × Nat) (val := (fun g => .slice (some ⟨g.1, 0, none⟩) n g.2)) (φ := (fun g => True)) (fun g => ⟨.slice (some ⟨g.1, 0, none⟩) n g.2, 90, 3, n, (gvO l o2).flatMap gvEnc⟩) rfl cb126 rfl rfl (fun wx hm => (ih hgn (st ++ [(cl, u)]) (left - sp) A6 c6 wx (by rw [List.length_append, hss]; rfl) (by omega) (fun h => absurd h (by omega)) (hm.fact 1 rfl).1 (hm.fact 2 rfl).1 (hm.fact 3 rfl).1 (hm.fact 4 rfl).2 (hm.fact 5 rfl).2 (hm.fact 6 rfl).2 (hm.fact 7 rfl).2 (SlT.ofOwn gv_len (hm.ownI 0 rfl) (by rw [gvO_len (by rw [List.length_append, List.length_singleton]; omega), List.length_append, List.length_singleton]; omega))).mono fun _ _ ⟨h, hg⟩ => by
    rcases h with ⟨h2, _⟩ | ⟨o, g8, c8, h2, he, ho⟩
    ·rw [hV] at h2; cases h2
    rw [hV] at h2; cases h2; exact ⟨(g8, c8), he, trivial, ho, hg⟩) ?_
   rintro ⟨g8, c8⟩ hphi
   dsimp only at hphi ⊢
   refine wl_nil ?_
   refine nw 11 1023 (fun _ hm => ⟨hm.bl 1, hm.bl 2, hm.fa 0, hm.fa 1, hm.fa 2, hm.fa 3, hm.fa 4, hm.fa 5, hm.fa 6, hm.fa 7, hm.fa 8, trivial⟩) fun z => ?_
   refine wt 10 11 2047 rfl z (ov_assign rfl) ?_
   refine wa_done (by kernel_rfl) ?_
   refine nx_then (sr_ (mv_ rfl ?_))
   refine wl_ov (ov_bin (v := .bool true) rfl rfl (fun _ => rfl)) rfl ?_
   refine nn_ (ct_ rfl (sr_ (mv_ rfl (sg_ rfl (nn_ ?_)))))
   refine gw_ret ?_
   refine nx_blk_ret (nx_then_ret (nx_then_ret (nx_blk_ret (nx_then_ret ?_))))
   have hRo : RR = some o2 := by rw [hRj]; exact docS_got hq hgo hV
   refine nx_ret1 rfl rfl fun wx hm => ?_
   exact ⟨.inr ⟨o2, g8, c8, hRo, rfl, (hm.ownI 0 rfl)⟩, hm.g⟩
  refine wl_buildSlice (e := 90) (cs := [.string x0, .string cl, .int .i64 ((u : Nat) : Int)]) rfl (by kernel_rfl) rfl fun g8 => ?_
  refine wl_nil ?_
  refine nw 11 475 (fun _ hm => ⟨hm.bl 1, hm.bl 2, hm.fa 0, hm.fa 1, hm.fa 2, hm.fa 3, hm.fa 4, hm.fa 5, hm.fa 6, hm.fa 7, hm.fa 8, trivial⟩) fun z => ?_
  refine wa1 2 rfl ?_
  refine wl_callgo (γ := Option Addr × Nat) (val := (fun g => .slice g.1 gn g.2)) (φ := (fun g => True)) (fun g => ⟨.slice g.1 gn g.2, 90, 3, gn, (gvO l st).flatMap gvEnc⟩) rfl cb131 rfl rfl (fun wx hm => (cloneGvs_any (gvO l st) G gn gq wx (hm.fact 8 rfl).1 (by omega)).mono fun _ _ ⟨A, c, he, ho, hg⟩ => ⟨(A, c), he, trivial, ho, hg⟩) ?_
  rintro ⟨A2, c2⟩ hphi
  dsimp only at hphi ⊢
  refine wl_nil ?_
  refine nw 11 479 (fun _ hm => ⟨hm.bl 1, hm.bl 2, hm.fa 0, hm.fa 1, hm.fa 2, hm.fa 3, hm.fa 4, hm.fa 5, hm.fa 6, hm.fa 7, hm.fa 8, trivial⟩) fun z => ?_
  refine wa1 5 rfl ?_
  refine wl_append (news := [.string x0, .string cl, .int .i64 ((u : Nat) : Int)]) 0 0 ap80 rfl rfl rfl rfl rfl rfl rfl (by omega) (by unfold maxLen; omega) rfl rfl fun v6 hv6 => ?_
  rw [show (gvO l st).flatMap gvEnc ++ ([.string x0, .string cl, .int .i64 ((u : Nat) : Int)] : List Value) = (gvO l (st ++ [(cl, u)])).flatMap gvEnc from by rw [hsn2]; simp [gvEnc]]
  refine wl_look (R := ∃ A cc, v6 = .slice A (gn + 1) cc) (fun wx hm => own_slice (hm.ownI 0 rfl)) ?_
  rintro ⟨A6, c6, rfl⟩
  refine wl_nil ?_
  refine nw 11 511 (fun _ hm => ⟨hm.bl 1, hm.bl 2, hm.fa 0, hm.fa 1, hm.fa 2, hm.fa 3, hm.fa 4, hm.fa 5, hm.fa 6, hm.fa 7, hm.fa 8, trivial⟩) fun z => ?_
  refine wa1 9 rfl ?_
  refine wl_callgo (γ := Nat × Nat) (val := (fun g => .slice (some ⟨g.1, 0, none⟩) n g.2)) (φ := (fun g => True)) (fun g => ⟨.slice (some ⟨g.1, 0, none⟩) n g.2, 90, 3, n, (gvO l o2).flatMap gvEnc⟩) rfl cb126 rfl rfl (fun wx hm => (ih hgn (st ++ [(cl, u)]) (left - sp) A6 c6 wx (by rw [List.length_append, hss]; rfl) (by omega) (fun h => absurd h (by omega)) (hm.fact 1 rfl).1 (hm.fact 2 rfl).1 (hm.fact 3 rfl).1 (hm.fact 4 rfl).2 (hm.fact 5 rfl).2 (hm.fact 6 rfl).2 (hm.fact 7 rfl).2 (SlT.ofOwn gv_len (hm.ownI 0 rfl) (by rw [gvO_len (by rw [List.length_append, List.length_singleton]; omega), List.length_append, List.length_singleton]; omega))).mono fun _ _ ⟨h, hg⟩ => by
   rcases h with ⟨h2, _⟩ | ⟨o, g8, c8, h2, he, ho⟩
   ·rw [hV] at h2; cases h2
   rw [hV] at h2; cases h2; exact ⟨(g8, c8), he, trivial, ho, hg⟩) ?_
  rintro ⟨g8, c8⟩ hphi
  dsimp only at hphi ⊢
  refine wl_nil ?_
  refine nw 11 1023 (fun _ hm => ⟨hm.bl 1, hm.bl 2, hm.fa 0, hm.fa 1, hm.fa 2, hm.fa 3, hm.fa 4, hm.fa 5, hm.fa 6, hm.fa 7, hm.fa 8, trivial⟩) fun z => ?_
  refine wt 10 11 2047 rfl z (ov_assign rfl) ?_
  refine wa_done (by kernel_rfl) ?_
  refine nx_then (sr_ (mv_ rfl ?_))
  refine wl_ov (ov_bin (v := .bool true) rfl rfl (fun _ => rfl)) rfl ?_
  refine nn_ (ct_ rfl (sr_ (mv_ rfl (sg_ rfl (nn_ ?_)))))
  refine gw_ret ?_
  refine nx_blk_ret (nx_then_ret (nx_then_ret (nx_blk_ret (nx_then_ret ?_))))
  have hRo : RR = some o2 := by rw [hRj]; exact docS_got hq hgo hV
  refine nx_ret1 rfl rfl fun wx hm => ?_
  exact ⟨.inr ⟨o2, g8, c8, hRo, rfl, (hm.ownI 0 rfl)⟩, hm.g⟩
 have hj : ¬ (((j : Nat) : Int) < ((n5 : Nat) : Int)) := by simpa using hh
 clear hh
 refine gw_exit ?_
 refine nx_then_exit (nx_then_exit ?_)
 refine nx_blk_here ?_
 refine nx_then (sr_ (sg_ rfl (nn_ ?_)))
 refine gw_ret ?_
 rw [docS_end (by omega)] at hRj
 refine nx_ret1 rfl rfl fun wx hm => ?_
 exact ⟨.inl ⟨hRj, rfl⟩, hm.g⟩
theorem fl_all (cs : List Cs) (A0 : Option Addr) (n0 c0 : Nat) (sl : List Sk) (A1 : Option Addr) (n1 c1 : Nat) (l : List Bk) (A : Option Addr) (n cb gl gc gs gf : Nat) (hco : ∀ x ∈ cs, CsOk x) (hn0 : n0 ≤ 30) (hcl : Closed cs) (hlo : loopB cs cs.length = false) (hso : ∀ x ∈ sl, SkOk x) (hn1 : n1 ≤ 1000) (hmany : ∀ k, manyV sl k ≤ 100) (hix : ∀ b ∈ l, 0 ≤ ixP (csP b.cls) cs 0) (htm : BkTim l) (hn : n ≤ 12) : ∀ (d gn : Nat), gn + d = n → FlSpec cs A0 n0 c0 sl A1 n1 c1 l A n cb gl gc gs gf gn
  | 0, gn, h => fl_step cs A0 n0 c0 sl A1 n1 c1 l A n cb gl gc gs gf gn (fun h2 => absurd h2 (by omega)) (by omega) hco hn0 hcl hlo hso hn1 hmany hix htm hn
  | d + 1, gn, h => fl_step cs A0 n0 c0 sl A1 n1 c1 l A n cb gl gc gs gf gn (fun _ => fl_all cs A0 n0 c0 sl A1 n1 c1 l A n cb gl gc gs gf hco hn0 hcl hlo hso hn1 hmany hix htm hn d (gn + 1) (by omega)) (by omega) hco hn0 hcl hlo hso hn1 hmany hix htm hn
end Go.Proofs.YtempjmpfdniecaaGreatDoor
namespace Go.Proofs.YtempjmpfdniecaaGreatDoor
open Go.RowKit
theorem zc187 : zeroCs Tryz.prog 187 = some [.nilFunc] := by kernel_rfl
theorem assignOf_any (cs : List Cs) (A0 : Option Addr) (n0 c0 : Nat) (sl : List Sk) (A1 : Option Addr) (n1 c1 : Nat) (l : List Bk) (A : Option Addr) (n c : Nat) (w : World) (hcs : SlT csEnc 2 158 w A0 n0 cs) (hco : ∀ x ∈ cs, CsOk x) (hn0 : n0 ≤ 30) (hcl : Closed cs) (hlo : loopB cs cs.length = false) (hs : SlT skEnc 2 211 w A1 n1 sl) (hso : ∀ x ∈ sl, SkOk x) (hn1 : n1 ≤ 1000) (hmany : ∀ k, manyV sl k ≤ 100) (hl : SlT bkEnc 6 92 w A n l) (hix : ∀ b ∈ l, 0 ≤ ixP (csP b.cls) cs 0) (htm : BkTim l) (hn : n ≤ 12) :
  Calls Tryz.prog 39 #[.slice A0 n0 c0, .slice A1 n1 c1, .slice A n c] w (fun e w' => ((asgO cs sl l = none ∧ e = .returned (.tuple #[.slice none 0 0, .bool false])) ∨ ∃ (o : List (ByteArray × Nat)) (A' : Option Addr) (c' : Nat), asgO cs sl l = some o ∧ e = .returned (.tuple #[.slice A' n c', .bool true]) ∧ SlT gvEnc 3 90 w' A' n (gvO l o)) ∧ w.grownBy w' none) := by
 refine gw_enter ⟨28, w, none, []⟩ Tryz.func39 rfl Tryz.ntmps39 rfl (mem0 (X := [SlOld csEnc 2 158 w.heap.size none A0 n0 cs, SlOld skEnc 2 211 w.heap.size none A1 n1 sl, SlOld bkEnc 6 92 w.heap.size none A n l]) (allF_cons hcs.old (allF_cons hs.old (allF_cons hl.old allF_nil))) (allL_cons SlOld.lasts (allL_cons SlOld.lasts (allL_cons SlOld.lasts allL_nil)))) ?_
 refine sr_ ?_
 have hlen := hl.len
 have hlen0 := hcs.len
 have hN : n * n0 ≤ 360 := Nat.mul_le_mul hn hn0
 refine wl_box rfl rfl rfl fun g1 => ?_
 refine wl_box rfl rfl rfl fun g2 => ?_
 refine wl_box rfl rfl rfl fun g3 => ?_
 refine sg_ rfl (sg_ rfl (nn_ (sr_ ?_)))
 refine wl_alloc zc187 rfl fun g4 => ?_
 refine nn_ (sr_ (wl_ov (ov_makeFunc rfl rfl) rfl ?_))
 refine wl_store 0 sc187 rfl rfl rfl rfl rfl rfl ?_
 refine nn_ (gw_seq (sr_ (lk_ sc76 1 rfl rfl rfl (wl_ov (ov_len es76 rfl) rfl (lk_ sc58 3 rfl rfl rfl (wl_ov (ov_len es58 rfl) rfl ?_))))))
 refine wl_ov (ov_mul rfl rfl (by rw [← Int.natCast_mul]; omega) (by rw [← Int.natCast_mul]; omega)) rfl ?_
 refine wl_set 16 (v' := .int .i64 ((n * n0 : Nat) : Int)) rfl (congrArg (Value.int .i64) (Int.natCast_mul n n0).symm) ?_
 refine ad_ rfl rfl ?_
 refine wl_set 17 (v' := .int .i64 ((n * n0 + 1 : Nat) : Int)) rfl (congrArg (Value.int .i64) (by omega)) ?_
 refine mv_ rfl (nn_ (gw_block ?_))
 refine gw_loop (γ := Nat) (fun (i : Nat) => i ≤ n * n0 + 1 ∧ ∀ k, k < i → asgF cs sl l k = none) (fun (i : Nat) => [(8, .pointer (some ⟨g4, 0, none⟩)), (17, .int .i64 ((n * n0 + 1 : Nat) : Int)), (18, .int .i64 ((i : Nat) : Int))]) (fun (i : Nat) => fun _ => True) (fun (i : Nat) => [(g4, 187, [.func (.func 126) #[] #[.pointer (some ⟨g3, 0, none⟩), .pointer (some ⟨g1, 0, none⟩), .pointer (some ⟨g2, 0, none⟩), .pointer (some ⟨g4, 0, none⟩)]]), (g3, 76, [.slice A n c]), (g2, 75, [.slice A1 n1 c1]), (g1, 58, [.slice A0 n0 c0])]) (fun (i : Nat) => []) (fun (i : Nat) => [SlOld csEnc 2 158 w.heap.size none A0 n0 cs, SlOld skEnc 2 211 w.heap.size none A1 n1 sl, SlOld bkEnc 6 92 w.heap.size none A n l]) (fun (i : Nat) => n * n0 + 1 - i) 0 ⟨Nat.zero_le _, fun k h => absurd h (Nat.not_lt_zero k)⟩ ⟨rfl, rfl, rfl, trivial⟩ (fun _ hm => hm.pick [0, 1, 2, 3] [] [0, 1, 2] rfl rfl) ?_
 intro i hinv
 replace hinv : i ≤ n * n0 + 1 ∧ ∀ k, k < i → asgF cs sl l k = none := hinv
 refine sr_ ?_
 obtain ⟨hi0, hno⟩ := hinv
 refine wl_ov (ov_lss rfl rfl) rfl (nn_ (gw_seq ?_))
 refine gw_cond rfl (fun hh => ?_) (fun hh => ?_)
 ·have hi : ((i : Nat) : Int) < ((n * n0 + 1 : Nat) : Int) := by simpa using hh
  clear hh
  refine gw_skip (nx_then (gw_seq (gw_block (sr_ (mv_ rfl (sg_ rfl (nn_ (sr_ (lk_ sc187 0 rfl rfl rfl (mv_ rfl ?_))))))))))
  rcases hV : asgF cs sl l i with _ | o
  ·refine wl_callv rfl cb126 rfl rfl (fun wx hm => ((fl_all cs A0 n0 c0 sl A1 n1 c1 l A n c g3 g1 g2 g4 hco hn0 hcl hlo hso hn1 hmany hix htm hn n 0 (by omega) [] i none 0 wx rfl (by omega) (fun _ => ⟨rfl, rfl⟩) (hm.fact 0 rfl).1 (hm.fact 1 rfl).1 (hm.fact 2 rfl).1 (hm.blkI 1 rfl) (hm.blkI 3 rfl) (hm.blkI 2 rfl) (hm.blkI 0 rfl) (by rw [gvO_nil]; exact SlT.nil_ _ _)).mono fun _ _ ⟨h, hg⟩ => by
    rcases h with ⟨_, he⟩ | ⟨o, g8, c8, h2, _⟩
    ·exact ⟨he, hg⟩
    rw [← asgF_D, hV] at h2; cases h2)) ?_
   refine sg_ rfl (nn_ (sr_ (mv_ rfl ?_)))
   refine wl_ov (ov_bin (v := .bool false) rfl rfl (fun _ => rfl)) rfl ?_
   refine nn_ (cf_ rfl (gw_skip (nx_blk_nrm (nx_then (gw_region (ad_ rfl rfl (mv_ rfl (wl_nil ?_))))))))
   exact nx_round (i + 1) ⟨by omega, fun k hk => by
    by_cases e : k = i
    ·rw [e]; exact hV
    exact hno k (by omega)⟩ (by omega) ⟨rfl, rfl, (some_int (by omega)), trivial⟩ (fun _ hm => hm.pick [0, 1, 2, 3] [] [0, 1, 2] rfl rfl)
  refine wl_callgo (γ := Nat × Nat) (val := (fun g => .slice (some ⟨g.1, 0, none⟩) n g.2)) (φ := (fun g => True)) (fun g => ⟨.slice (some ⟨g.1, 0, none⟩) n g.2, 90, 3, n, (gvO l o).flatMap gvEnc⟩) rfl cb126 rfl rfl (fun wx hm => (fl_all cs A0 n0 c0 sl A1 n1 c1 l A n c g3 g1 g2 g4 hco hn0 hcl hlo hso hn1 hmany hix htm hn n 0 (by omega) [] i none 0 wx rfl (by omega) (fun _ => ⟨rfl, rfl⟩) (hm.fact 0 rfl).1 (hm.fact 1 rfl).1 (hm.fact 2 rfl).1 (hm.blkI 1 rfl) (hm.blkI 3 rfl) (hm.blkI 2 rfl) (hm.blkI 0 rfl) (by rw [gvO_nil]; exact SlT.nil_ _ _)).mono fun _ _ ⟨h, hg⟩ => by
   rcases h with ⟨h2, _⟩ | ⟨o, g8, c8, h2, he, ho⟩
   ·rw [← asgF_D, hV] at h2; cases h2
   rw [← asgF_D, hV] at h2; cases h2; exact ⟨(g8, c8), he, trivial, ho, hg⟩) ?_
  rintro ⟨g8, c8⟩ hphi
  dsimp only at hphi ⊢
  refine sg_ rfl (nn_ (sr_ (mv_ rfl ?_)))
  refine wl_ov (ov_bin (v := .bool true) rfl rfl (fun _ => rfl)) rfl ?_
  refine nn_ (ct_ rfl (sr_ (mv_ rfl (sg_ rfl (sg_ rfl (nn_ ?_))))))
  refine gw_ret ?_
  refine nx_blk_ret (nx_then_ret (nx_then_ret (nx_blk_ret (nx_then_ret ?_))))
  have hao : asgO cs sl l = some o := range_find hno hV (by rw [hlen, hlen0]; omega)
  have hol : (gvO l o).length = n := by rw [gvO_len (by rw [asgO_len hao]; exact Nat.le_refl _), asgO_len hao]; exact hlen
  refine nx_ret2 rfl rfl rfl fun wx hm => ?_
  exact ⟨.inr ⟨o, _, c8, hao, rfl, SlT.ofOwn gv_len (hm.ownI 0 rfl) hol⟩, hm.g⟩
 have hi : ¬ (((i : Nat) : Int) < ((n * n0 + 1 : Nat) : Int)) := by simpa using hh
 clear hh
 refine gw_exit ?_
 refine nx_then_exit (nx_then_exit ?_)
 refine nx_blk_here ?_
 refine nx_then (sr_ (sg_ rfl (sg_ rfl (nn_ ?_))))
 refine gw_ret ?_
 have hao : asgO cs sl l = none := fs_none fun k hk => hno k (by have := List.mem_range.1 hk; rw [hlen, hlen0] at this; omega)
 refine nx_ret2 rfl rfl rfl fun wx hm => ?_
 exact ⟨.inl ⟨hao, rfl⟩, hm.g⟩
end Go.Proofs.YtempjmpfdniecaaGreatDoor
namespace Go.Proofs.YtempjmpfdniecaaGreatDoor
open Go.RowKit
structure Fr where
  num : Int
  den : Int
def frEnc (x : Fr) : List Value := [.int .i64 x.num, .int .i64 x.den]
theorem fr_len (x : Fr) : (frEnc x).length = 2 := rfl
/-- The lowest terms of n / d. -/
def lowF (n d : Nat) : Fr := ⟨((n / Nat.gcd n d : Nat) : Int), ((d / Nat.gcd n d : Nat) : Int)⟩
theorem gcd_step {a b g : Nat} (h : Nat.gcd a b = g) : Nat.gcd b (a % b) = g := by
  rw [Nat.gcd_comm, ← Nat.gcd_rec, Nat.gcd_comm]; exact h
def oddsE (l : List Bk) : Int := firstE [formE l, whenE (decide (9 < (l.length : Int))) 2]
theorem lowest_any (n d : Nat) (w : World) (hn : n ≤ 1000000000000000000) (hd : d ≤ 1000000000000000000) (hd0 : 0 < d) :
  Calls Tryz.prog 193 #[.int .i64 ((n : Nat) : Int), .int .i64 ((d : Nat) : Int)] w (fun e w' => e = .returned (.agg #[.int .i64 (lowF n d).num, .int .i64 (lowF n d).den]) ∧ w.grownBy w' none) := by
 refine gw_enter ⟨25, w, none, []⟩ Tryz.func193 rfl Tryz.ntmps193 rfl (mem0 (X := []) allF_nil allL_nil) ?_
 refine sr_ ?_
 refine wl_alloc zc196 rfl fun g1 => ?_
 refine nn_ (sr_ (mv_ rfl (mv_ rfl ?_)))
 refine wl_ov (ov_neg rfl (by omega) (by omega)) rfl ?_
 refine wl_ov (ov_max rfl rfl) rfl ?_
 refine mv_ rfl (sg_ rfl (sg_ rfl (nn_ (gw_seq (gw_block ?_)))))
 refine gw_loop (γ := Nat × Nat) (fun g => Nat.gcd g.1 g.2 = Nat.gcd n d ∧ g.1 ≤ 1000000000000000000 ∧ g.2 ≤ 1000000000000000000) (fun g => [(0, .int .i64 ((n : Nat) : Int)), (1, .int .i64 ((d : Nat) : Int)), (4, .pointer (some ⟨g1, 0, none⟩)), (5, .int .i64 ((g.1 : Nat) : Int)), (6, .int .i64 ((g.2 : Nat) : Int))]) (fun g => fun _ => True) (fun g => [(g1, 196, [.int .i64 0, .int .i64 0])]) (fun g => []) (fun g => []) (fun g => g.2) (n, d) ⟨rfl, by omega, by omega⟩ ⟨rfl, rfl, rfl, (some_int (by omega)), rfl, trivial⟩ (fun _ hm => hm.pick [0] [] [] rfl rfl) ?_
 rintro ⟨a, b⟩ hinv
 replace hinv : Nat.gcd a b = Nat.gcd n d ∧ a ≤ 1000000000000000000 ∧ b ≤ 1000000000000000000 := hinv
 dsimp only
 refine gw_seq (sr_ (mv_ rfl (wl_ov (ov_neq rfl rfl) rfl (nn_ ?_))))
 refine gw_cond rfl (fun hh => ?_) (fun hh => ?_)
 ·have hb : ¬ (((b : Nat) : Int) = 0) := by simpa using hh
  clear hh
  refine gw_skip (nx_then (gw_block ?_))
  have hb0 : 0 < b := by omega
  have hlt := Nat.mod_lt a hb0
  refine gd (fun wz => Blk wz g1 196 [.int .i64 0, .int .i64 0] ∧ True) mixed (fun _ hm => ⟨hm.bl 0, trivial⟩) fun z => ?_
  refine wt 0 6 1 rfl z (ov_move rfl) ?_
  refine wt 1 6 3 rfl z (ov_move rfl) ?_
  refine wt 2 6 7 rfl z (ov_move rfl) ?_
  refine wt 3 6 15 rfl z (ov_rem rfl rfl (by omega) (by omega) (by omega)) ?_
  refine wt 4 6 31 rfl z (ov_assign rfl) ?_
  refine wt 5 6 63 rfl z (ov_assign rfl) ?_
  refine wa_done (by kernel_rfl) ?_
  refine nx_blk_nrm ?_
  exact nx_round (b, a % b) ⟨gcd_step hinv.1, by dsimp only; omega, by dsimp only; omega⟩ hlt ⟨rfl, rfl, rfl, rfl, (some_int (Int.natCast_emod a b).symm), trivial⟩ (fun _ hm => hm.pick [0] [] [] rfl rfl)
 have hb : ((b : Nat) : Int) = 0 := by simpa using hh
 clear hh
 refine gw_exit ?_
 refine nx_then_exit (nx_then_exit ?_)
 refine nx_blk_here ?_
 refine nx_then (gw_seq ?_)
 have hb0 : b = 0 := by omega
 subst hb0
 have hga : a = Nat.gcd n d := by rw [← hinv.1, Nat.gcd_zero_right]
 have ha0 : 0 < a := by rw [hga]; exact Nat.gcd_pos_of_pos_right n hd0
 refine gd (fun wz => True) mixed (fun _ _ => trivial) fun z => ?_
 refine wt 0 8 1 rfl z (ov_move rfl) ?_
 refine wt 1 8 3 rfl z (ov_move rfl) ?_
 refine wt 2 8 7 rfl z (ov_quo rfl rfl (by omega) (by omega) (by omega)) ?_
 refine wt 3 8 15 rfl z (ov_move rfl) ?_
 refine wt 4 8 31 rfl z (ov_move rfl) ?_
 refine wt 5 8 63 rfl z (ov_quo rfl rfl (by omega) (by omega) (by omega)) ?_
 refine wt 6 8 127 rfl z (ov_build (cs := [.int .i64 (((n : Nat) : Int) / ((a : Nat) : Int)), .int .i64 (((d : Nat) : Int) / ((a : Nat) : Int))]) rfl (by kernel_rfl)) ?_
 refine wa1 7 rfl ?_
 refine wl_stores (cs' := [.int .i64 (((n : Nat) : Int) / ((a : Nat) : Int)), .int .i64 (((d : Nat) : Int) / ((a : Nat) : Int))]) 0 rz196 rfl rfl rfl rfl rfl rfl rfl rfl ?_
 refine wl_nil ?_
 refine nw 8 255 (fun _ _ => trivial) fun z => ?_
 refine wa_done (by kernel_rfl) ?_
 refine nx_then ?_
 refine gw_ret ?_
 refine nx_retc 0 rfl rz196 rfl rfl rfl fun wx hm => ?_
 refine ⟨?_, hm.g⟩
 unfold lowF
 rw [← hga, Int.natCast_ediv, Int.natCast_ediv]
theorem checkOdds_any (l : List Bk) (A : Option Addr) (n c : Nat) (w : World) (hl : SlT bkEnc 6 92 w A n l) (hok : ∀ b ∈ l, BkOk b) (hn : n ≤ 1000000) :
  Calls Tryz.prog 191 #[.slice A n c] w (GotE w (oddsE l)) := by
 refine gw_enter ⟨11, w, none, []⟩ Tryz.func191 rfl Tryz.ntmps191 rfl (mem0 (X := [SlOld bkEnc 6 92 w.heap.size none A n l]) (allF_cons hl.old allF_nil) (allL_cons SlOld.lasts allL_nil)) ?_
 refine sr_ ?_
 have hlen := hl.len
 refine sg_ rfl (nn_ (sr_ (mv_ rfl ?_)))
 refine wl_callv rfl cb253 rfl rfl (fun wx hm => (formed_any l A n c wx (hm.fact 0 rfl).1 hok hn)) ?_
 refine mv_ rfl (wl_ov (ov_len es76 rfl) rfl ?_)
 refine wl_ov (ov_gtr rfl rfl) rfl ?_
 refine wl_callw rfl cb68 rfl rfl (fun wx hm => (when_any _ _ wx)) ?_
 refine wl_buildSlice (e := 33) (cs := [.int .i64 (formE l), .int .i64 (whenE (decide (9 < ((n : Nat) : Int))) 2)]) rfl (by kernel_rfl) rfl fun g1 => ?_
 refine wl_callw rfl cb67 rfl rfl (fun wx hm => (first_any [formE l, whenE (decide (9 < ((n : Nat) : Int))) 2] _ _ _ wx (hm.blkI 0 rfl) (by simp))) ?_
 refine sg_ rfl (nn_ ?_)
 refine gw_ret ?_
 refine nx_ret1 rfl rfl fun wx hm => ?_
 exact ⟨ret_int (by unfold oddsE; rw [hlen]), hm.g⟩
theorem spread_one (A : Option Addr) (c : Nat) (w : World) (hl : SlT bkEnc 6 92 w A 1 [⟨⟨#[97]⟩, ⟨#[99]⟩, 0, 1, 0, 50⟩]) :
  Calls Tryz.prog 192 #[.slice A 1 c] w (fun e w' => ∃ A2 c2, e = .returned (.tuple #[.slice A2 2 c2, .int .i64 100]) ∧ w.grownBy w' none ∧ w'.ownsRow w.heap.size 3 1 (.slice A2 2 c2) 2 [.int .i64 50, .int .i64 50]) := by
 refine gw_enter ⟨58, w, none, []⟩ Tryz.func192 rfl Tryz.ntmps192 rfl (mem0 (X := [SlOld bkEnc 6 92 w.heap.size none A 1 [⟨⟨#[97]⟩, ⟨#[99]⟩, 0, 1, 0, 50⟩]]) (allF_cons hl.old allF_nil) (allL_cons SlOld.lasts allL_nil)) ?_
 refine sr_ (sg_ rfl (sg_ rfl (nn_ (sr_ ?_))))
 refine wl_buildSlice (e := 3) (cs := [.int .i64 1]) rfl (by kernel_rfl) rfl fun g1 => ?_
 refine sg_ rfl (sg_ rfl (nn_ (gw_seq (sr_ (mv_ rfl (wl_ov (ov_len es76 rfl) rfl ?_))))))
 refine wl_set 13 (v' := .int .i64 1) rfl rfl ?_
 refine mv_ rfl (nn_ (gw_block ?_))
 obtain ⟨b, off, hA, _, _⟩ := hl.get (by omega)
 subst hA
 refine gw_rounds 3 ?_
 refine gr_next ?_
 refine sr_ (wl_ov (ov_lss rfl rfl) rfl ?_)
 refine wl_set 15 (v' := .bool true) rfl (congrArg Value.bool (by decide)) ?_
 refine nn_ (gw_seq (ct_ rfl (gw_skip (nx_then (gw_seq (gw_block (sr_ ?_)))))))
 refine wl_ov (ov_index (j := 0) es76 rfl rfl (by omega)) rfl ?_
 refine wl_ov (ov_elem (vs := [.string ⟨#[97]⟩, .string ⟨#[99]⟩, .int .i64 0, .int .i64 1, .int .i64 0, .int .i64 50]) rz92 rfl (fun _ hm => (hm.fact 0 rfl).1) (rfl : [(⟨⟨#[97]⟩, ⟨#[99]⟩, 0, 1, 0, 50⟩ : Bk)][0]? = some ⟨⟨#[97]⟩, ⟨#[99]⟩, 0, 1, 0, 50⟩) rfl rfl) rfl ?_
 refine wl_alloc zc92 rfl fun g2 => ?_
 refine wl_stores (cs' := [.string ⟨#[97]⟩, .string ⟨#[99]⟩, .int .i64 0, .int .i64 1, .int .i64 0, .int .i64 50]) 0 rz92 rfl rfl rfl rfl rfl rfl rfl rfl ?_
 refine nn_ (sr_ (mv_ rfl (wl_ov (ov_len es22 rfl) rfl ?_)))
 refine wl_set 19 (v' := .int .i64 1) rfl rfl ?_
 refine ad_ rfl rfl ?_
 refine wl_set 20 (v' := .int .i64 2) rfl rfl ?_
 refine wl_makeB (n := 2) (e := 3) (by_ := 8) (z := .int .i64 0) (cs := [.int .i64 0, .int .i64 0]) (by kernel_rfl) (by kernel_rfl) rfl rfl rfl rfl rfl (by kernel_rfl) rfl fun g3 => ?_
 refine sg_ rfl (nn_ (gw_seq (sr_ (mv_ rfl (wl_ov (ov_len es22 rfl) rfl ?_)))))
 refine wl_set 23 (v' := .int .i64 1) rfl rfl ?_
 refine mv_ rfl (nn_ (gw_block ?_))
 refine gw_rounds 3 ?_
 refine gr_next ?_
 refine sr_ (wl_ov (ov_lss rfl rfl) rfl ?_)
 refine wl_set 25 (v' := .bool true) rfl (congrArg Value.bool (by decide)) ?_
 refine nn_ (gw_seq (ct_ rfl (gw_skip (nx_then (gw_seq (gw_block (sr_ (mv_ rfl ?_))))))))
 refine wl_ov (ov_index (j := 0) es22 rfl rfl (by decide)) rfl ?_
 refine lk_ sc3 2 rfl rfl rfl (sg_ rfl (sg_ rfl (nn_ (gw_seq ?_))))
 refine gd (fun wz => Blk wz g2 92 [.string ⟨#[97]⟩, .string ⟨#[99]⟩, .int .i64 0, .int .i64 1, .int .i64 0, .int .i64 50] ∧ Blk wz g1 3 [.int .i64 1] ∧ (SlOld bkEnc 6 92 w.heap.size none (some ⟨b, off, none⟩) 1 [⟨⟨#[97]⟩, ⟨#[99]⟩, 0, 1, 0, 50⟩]) wz ∧ True) mixed (fun _ hm => ⟨hm.bl 1, hm.bl 2, hm.fa 0, trivial⟩) fun z => ?_
 refine wt 0 12 1 rfl z (ov_move rfl) ?_
 refine wt 1 12 3 rfl z (ov_move rfl) ?_
 refine wt 2 12 7 rfl z (ov_index (j := 0) es22 rfl rfl (by decide)) ?_
 refine wt 4 12 23 rfl z (ov_move rfl) ?_
 refine wt 5 12 55 rfl z (ov_field fo92_4 rfl rfl) ?_
 refine wt 6 12 119 rfl z (ov_load sc3 rfl (fun _ hm => hm.1) rfl) ?_
 refine wt 7 12 247 rfl z (ov_sub rfl rfl (by omega) (by omega)) ?_
 refine wa_set 36 (v' := .int .i64 50) rfl rfl ?_
 refine wt 8 12 503 rfl z (ov_mul rfl rfl (by omega) (by omega)) ?_
 refine wa_set 37 (v' := .int .i64 50) rfl rfl ?_
 refine wa1 3 rfl ?_
 refine lk_ sc3 0 rfl rfl rfl (wl_nil ?_)
 refine nw 12 511 (fun _ hm => ⟨hm.bl 1, hm.bl 2, hm.fa 0, trivial⟩) fun z => ?_
 refine wt 9 12 1023 rfl z (ov_add rfl rfl (by omega) (by omega)) ?_
 refine wa_set 38 (v' := .int .i64 50) rfl rfl ?_
 refine wt 10 12 2047 rfl z (ov_index (j := 0) es22 rfl rfl (by decide)) ?_
 refine wa1 11 rfl ?_
 refine wl_store 0 sc3 rfl rfl rfl rfl rfl rfl ?_
 refine wl_nil ?_
 refine nw 12 4095 (fun _ hm => ⟨hm.bl 1, hm.bl 2, hm.fa 0, trivial⟩) fun z => ?_
 refine wa_done (by kernel_rfl) ?_
 refine nx_then ?_
 refine gd (fun wz => Blk wz g2 92 [.string ⟨#[97]⟩, .string ⟨#[99]⟩, .int .i64 0, .int .i64 1, .int .i64 0, .int .i64 50] ∧ Blk wz g1 3 [.int .i64 1] ∧ (SlOld bkEnc 6 92 w.heap.size none (some ⟨b, off, none⟩) 1 [⟨⟨#[97]⟩, ⟨#[99]⟩, 0, 1, 0, 50⟩]) wz ∧ True) mixed (fun _ hm => ⟨hm.bl 1, hm.bl 2, hm.fa 0, trivial⟩) fun z => ?_
 refine wt 0 12 1 rfl z (ov_move rfl) ?_
 refine wt 1 12 3 rfl z (ov_move rfl) ?_
 refine wt 2 12 7 rfl z (ov_add rfl rfl (by omega) (by omega)) ?_
 refine wa_set 42 (v' := .int .i64 1) rfl rfl ?_
 refine wt 3 12 15 rfl z (ov_index (j := 1) es22 rfl rfl (by decide)) ?_
 refine wt 5 12 47 rfl z (ov_move rfl) ?_
 refine wt 6 12 111 rfl z (ov_field fo92_4 rfl rfl) ?_
 refine wt 7 12 239 rfl z (ov_load sc3 rfl (fun _ hm => hm.1) rfl) ?_
 refine wt 8 12 495 rfl z (ov_mul rfl rfl (by omega) (by omega)) ?_
 refine wa_set 48 (v' := .int .i64 50) rfl rfl ?_
 refine wa1 4 rfl ?_
 refine lk_ sc3 0 rfl rfl rfl (wl_nil ?_)
 refine nw 12 511 (fun _ hm => ⟨hm.bl 1, hm.bl 2, hm.fa 0, trivial⟩) fun z => ?_
 refine wt 9 12 1023 rfl z (ov_add rfl rfl (by omega) (by omega)) ?_
 refine wa_set 49 (v' := .int .i64 50) rfl rfl ?_
 refine wt 10 12 2047 rfl z (ov_index (j := 1) es22 rfl rfl (by decide)) ?_
 refine wa1 11 rfl ?_
 refine wl_store 0 sc3 rfl rfl rfl rfl rfl rfl ?_
 refine wl_nil ?_
 refine nw 12 4095 (fun _ hm => ⟨hm.bl 1, hm.bl 2, hm.fa 0, trivial⟩) fun z => ?_
 refine wa_done (by kernel_rfl) ?_
 refine nx_blk_nrm (nx_then (gw_region (ad_ rfl rfl ?_)))
 refine wl_set 51 (v' := .int .i64 1) rfl rfl ?_
 refine mv_ rfl (wl_nil ?_)
 refine nx_next ?_
 refine gr_next ?_
 refine sr_ (wl_ov (ov_lss rfl rfl) rfl ?_)
 refine wl_set 25 (v' := .bool false) rfl (congrArg Value.bool (by decide)) ?_
 refine nn_ (gw_seq (cf_ rfl ?_))
 refine gw_exit ?_
 refine nx_then_exit (nx_then_exit ?_)
 refine nx_blk_here ?_
 refine nx_then (gw_region (mv_ rfl (mv_ rfl ?_)))
 refine wl_ov (ov_mul rfl rfl (by omega) (by omega)) rfl ?_
 refine wl_set 54 (v' := .int .i64 100) rfl rfl ?_
 refine sg_ rfl (sg_ rfl (wl_nil (nx_blk_nrm (nx_then (gw_region (ad_ rfl rfl ?_))))))
 refine wl_set 55 (v' := .int .i64 1) rfl rfl ?_
 refine mv_ rfl (wl_nil ?_)
 refine nx_next ?_
 refine gr_next ?_
 refine sr_ (wl_ov (ov_lss rfl rfl) rfl ?_)
 refine wl_set 15 (v' := .bool false) rfl (congrArg Value.bool (by decide)) ?_
 refine nn_ (gw_seq (cf_ rfl ?_))
 refine gw_exit ?_
 refine nx_then_exit (nx_then_exit ?_)
 refine nx_blk_here ?_
 refine nx_then (sr_ (mv_ rfl (mv_ rfl (sg_ rfl (sg_ rfl (nn_ ?_))))))
 refine gw_ret ?_
 refine nx_ret2 rfl rfl rfl fun wx hm => ?_
 exact ⟨_, 2, rfl, hm.g, hm.rowOf 0 rfl rfl (by decide)⟩
end Go.Proofs.YtempjmpfdniecaaGreatDoor
namespace Go.Proofs.YtempjmpfdniecaaGreatDoor
open Go.RowKit
set_option maxRecDepth 100000 in
theorem same_fraction_neq (x0 : Int) (x1 : Int) (w : World) : (binOp .neq 196 (.agg #[.int .i64 x0, .int .i64 x1]) (.agg #[.int .i64 x0, .int .i64 x1])).run Tryz.prog w = .ok (.bool false) w := by
  have hS : Tryz.prog.underlying 196 = some (.struct (Tryz.prog.fieldsOf 196)) := by kernel_rfl
  have hp : Tryz.prog.stoodInHeld 196 = false := by kernel_rfl
  rw [run_neq_struct, show (10000 : Nat) = 9999 + 1 from rfl, run_equalIn_agg w 9999 196 _ _ hS hp]
  simp only [Program.fieldsOf, Tryz.underlying196]
  have u3 := Tryz.underlying3
  clear hS hp
  go_simp
theorem guard_fraction : Tryz.prog.eqGuardType Tryz.prog.depth 196 = false := by kernel_rfl
theorem equal_fraction_any (l : List Fr) (A1 A2 : Option Addr) (n c1 c2 : Nat) (w : World) (h1 : SlT frEnc 2 196 w A1 n l) (h2 : SlT frEnc 2 196 w A2 n l) (hn : n ≤ 1000000) :
  Calls Tryz.prog 132 #[.slice A1 n c1, .slice A2 n c2] w (fun e w' => e = .returned (.bool true) ∧ w.grownBy w' none) := by
 refine gw_enter ⟨26, w, none, []⟩ Tryz.func132 rfl Tryz.ntmps132 rfl (mem0 (X := [SlOld frEnc 2 196 w.heap.size none A1 n l, SlOld frEnc 2 196 w.heap.size none A2 n l]) (allF_cons h1.old (allF_cons h2.old allF_nil)) (allL_cons SlOld.lasts (allL_cons SlOld.lasts allL_nil))) ?_
 refine sr_ ?_
 have hlen := h1.len
 refine sg_ rfl (nn_ (gw_seq (sr_ (mv_ rfl (wl_ov (ov_len es153 rfl) rfl (mv_ rfl (wl_ov (ov_len es153 rfl) rfl (wl_ov (ov_neq rfl rfl) rfl ?_))))))))
 refine wl_set 10 (v' := .bool false) rfl (congrArg Value.bool (by simp)) ?_
 refine nn_ (cf_ rfl (gw_skip (nx_then (gw_seq (sr_ (mv_ rfl (wl_ov (ov_len es153 rfl) rfl (mv_ rfl (nn_ (gw_block ?_))))))))))
 refine gw_loop (γ := Nat) (fun (k : Nat) => k ≤ n) (fun (k : Nat) => [(0, .slice A1 n c1), (1, .slice A2 n c2), (12, .int .i64 ((n : Nat) : Int)), (13, .int .i64 ((k : Nat) : Int))]) (fun (k : Nat) => fun _ => True) (fun (k : Nat) => []) (fun (k : Nat) => []) (fun (k : Nat) => [SlOld frEnc 2 196 w.heap.size none A1 n l, SlOld frEnc 2 196 w.heap.size none A2 n l]) (fun (k : Nat) => n - k) 0 (Nat.zero_le _) ⟨rfl, rfl, rfl, rfl, trivial⟩ (fun _ hm => hm.pick [] [] [0, 1] rfl rfl) ?_
 intro k hinv
 replace hinv : k ≤ n := hinv
 refine sr_ (wl_ov (ov_lss rfl rfl) rfl (nn_ (gw_seq ?_)))
 refine gw_cond rfl (fun hh => ?_) (fun hh => ?_)
 ·have hk : ((k : Nat) : Int) < ((n : Nat) : Int) := by simpa using hh
  clear hh
  refine gw_skip (nx_then (gw_seq (gw_block (sr_ ?_))))
  obtain ⟨b1, o1, hA, _, _⟩ := h1.get (by omega)
  subst hA
  obtain ⟨b2, o2, hA, _, _⟩ := h2.get (by omega)
  subst hA
  obtain ⟨x, hx⟩ : ∃ x, l[k]? = some x := ⟨_, List.getElem?_eq_getElem (by omega)⟩
  obtain ⟨x0, x1⟩ := x
  refine mv_ rfl (sg_ rfl (nn_ (gw_seq ?_)))
  refine gd (fun wz => (SlOld frEnc 2 196 w.heap.size none (some ⟨b1, o1, none⟩) n l) wz ∧ (SlOld frEnc 2 196 w.heap.size none (some ⟨b2, o2, none⟩) n l) wz ∧ True) mixed (fun _ hm => ⟨hm.fa 0, hm.fa 1, trivial⟩) fun z => ?_
  refine wt 0 9 1 rfl z (ov_move rfl) ?_
  refine wt 1 9 3 rfl z (ov_move rfl) ?_
  refine wt 2 9 7 rfl z (ov_index (j := k) es153 rfl rfl (by omega)) ?_
  refine wt 3 9 15 rfl z (ov_elem (vs := [.int .i64 x0, .int .i64 x1]) rz196 rfl (fun _ hm => (hm.1).1) hx rfl rfl) ?_
  refine wt 4 9 31 rfl z (ov_move rfl) ?_
  refine wt 5 9 63 rfl z (ov_move rfl) ?_
  refine wt 6 9 127 rfl z (ov_index (j := k) es153 rfl rfl (by omega)) ?_
  refine wt 7 9 255 rfl z (ov_elem (vs := [.int .i64 x0, .int .i64 x1]) rz196 rfl (fun _ hm => (hm.2.1).1) hx rfl rfl) ?_
  refine wt 8 9 511 rfl z (ov_bin rfl rfl (cmp_agg guard_fraction (fun wx => same_fraction_neq x0 x1 wx))) ?_
  refine wa_done (by kernel_rfl) ?_
  refine nx_then (cf_ rfl (gw_skip (nx_blk_nrm (nx_then (gw_region (ad_ rfl rfl (mv_ rfl (wl_nil ?_))))))))
  exact nx_round (k + 1) (by omega) (by omega) ⟨rfl, rfl, rfl, (some_int (by omega)), trivial⟩ (fun _ hm => hm.pick [] [] [0, 1] rfl rfl)
 have hk : ¬ (((k : Nat) : Int) < ((n : Nat) : Int)) := by simpa using hh
 clear hh
 refine gw_exit ?_
 refine nx_then_exit (nx_then_exit ?_)
 refine nx_blk_here ?_
 refine nx_then (sr_ (sg_ rfl (nn_ ?_)))
 refine gw_ret ?_
 refine nx_ret1 rfl rfl fun wx hm => ?_
 exact ⟨rfl, hm.g⟩
def inEnc (z : Int) : List Value := [.int .i64 z]
theorem in_len (z : Int) : (inEnc z).length = 1 := rfl
theorem one_ok : ∀ b ∈ [(⟨⟨#[97]⟩, ⟨#[99]⟩, 0, 1, 0, 50⟩ : Bk)], BkOk b := fun b hb => by
  rw [List.mem_singleton.1 hb]; exact ⟨by decide, by decide⟩
theorem one_zero : oddsE [⟨⟨#[97]⟩, ⟨#[99]⟩, 0, 1, 0, 50⟩] = 0 := by decide +kernel
theorem lowF_50 : lowF 50 100 = ⟨1, 2⟩ := by simp [lowF]
theorem bspread_one (A : Option Addr) (c : Nat) (w : World) (hl : SlT bkEnc 6 92 w A 1 [⟨⟨#[97]⟩, ⟨#[99]⟩, 0, 1, 0, 50⟩]) :
  Calls Tryz.prog 95 #[.slice A 1 c] w (fun e w' => ∃ A2 c2, e = .returned (.tuple #[.slice A2 2 c2, .int .i64 0]) ∧ w.grownBy w' none ∧ SlT frEnc 2 196 w' A2 2 [⟨1, 2⟩, ⟨1, 2⟩]) := by
 refine gw_enter ⟨34, w, none, []⟩ Tryz.func95 rfl Tryz.ntmps95 rfl (mem0 (X := [SlOld bkEnc 6 92 w.heap.size none A 1 [⟨⟨#[97]⟩, ⟨#[99]⟩, 0, 1, 0, 50⟩]]) (allF_cons hl.old allF_nil) (allL_cons SlOld.lasts allL_nil)) ?_
 refine sr_ (sg_ rfl (sg_ rfl (nn_ (gw_seq (sr_ (mv_ rfl ?_))))))
 refine wl_callv (v := .int .i64 0) rfl cb191 rfl rfl (fun wx hm => (by rw [← one_zero]; exact checkOdds_any [⟨⟨#[97]⟩, ⟨#[99]⟩, 0, 1, 0, 50⟩] A 1 c wx (hm.fact 0 rfl).1 one_ok (by omega))) ?_
 refine sg_ rfl (nn_ (sr_ (mv_ rfl (wl_ov (ov_neq rfl rfl) rfl ?_))))
 refine wl_set 13 (v' := .bool false) rfl (congrArg Value.bool (by decide)) ?_
 refine nn_ (cf_ rfl (gw_skip (nx_then (sr_ (mv_ rfl ?_)))))
 refine wl_callgo (γ := Option Addr × Nat) (val := (fun g => .tuple #[.slice g.1 2 g.2, .int .i64 100])) (φ := (fun g => True)) (fun g => ⟨.slice g.1 2 g.2, 3, 1, 2, [.int .i64 50, .int .i64 50]⟩) rfl cb192 rfl rfl (fun wx hm => (spread_one A c wx (hm.fact 0 rfl).1).mono fun _ _ ⟨A2, c2, he, hg, ho⟩ => ⟨(A2, c2), he, trivial, ho, hg⟩) ?_
 rintro ⟨A2, c2⟩ hphi
 dsimp only at hphi ⊢
 clear hphi
 refine wl_look (R := ∃ g, A2 = some ⟨g, 0, none⟩) (fun wx hm => own_addr (hm.ownI 0 rfl) (by omega)) ?_
 rintro ⟨b2, rfl⟩
 refine wl_nilOwn 196 2 ?_
 refine mv_ rfl (wl_ov (ov_extract rfl rfl) rfl (wl_ov (ov_extract rfl rfl) rfl (sg_ rfl (sg_ rfl (nn_ (sr_ (sg_ rfl (nn_ (gw_seq (gw_seq ?_))))))))))
 refine gw_region (mv_ rfl (wl_ov (ov_len es22 rfl) rfl ?_))
 refine wl_set 21 (v' := .int .i64 2) rfl rfl ?_
 refine mv_ rfl (nn_ (gw_block ?_))
 refine gw_rounds 4 ?_
 refine gr_next ?_
 refine sr_ (wl_ov (ov_lss rfl rfl) rfl ?_)
 refine wl_set 23 (v' := .bool true) rfl (congrArg Value.bool (by decide)) ?_
 refine nn_ (gw_seq (ct_ rfl (gw_skip (nx_then (gw_seq (gw_block (sr_ ?_)))))))
 refine wl_ov (ov_index (j := 0) es22 rfl rfl (by decide)) rfl ?_
 refine wl_ov (ov_elem1 (k := 0) (v := .int .i64 50) sc3 rfl (fun _ hm => (SlT.ofOwn (l := [50, 50]) in_len (hm.ownI 1 rfl) rfl)) (rfl : [(50 : Int), 50][0]? = some 50) rfl rfl) rfl ?_
 refine sg_ rfl (nn_ (gw_region (mv_ rfl (mv_ rfl (mv_ rfl ?_)))))
 refine wl_callv (v := .agg #[.int .i64 1, .int .i64 2]) rfl cb193 rfl rfl (fun wx hm => (by have h := lowest_any 50 100 wx (by omega) (by omega) (by omega); rw [lowF_50] at h; exact h)) ?_
 refine wl_buildSlice (e := 196) (cs := [.int .i64 1, .int .i64 2]) rfl (by kernel_rfl) rfl fun g1 => ?_
 refine wl_append (news := [.int .i64 1, .int .i64 2]) 0 0 ap153 rfl rfl rfl rfl rfl rfl rfl (by decide) (by decide) rfl rfl fun v1 hv1 => ?_
 refine sg_ rfl (wl_nil (nx_blk_nrm (nx_then (gw_region (ad_ rfl rfl ?_)))))
 refine wl_set 32 (v' := .int .i64 1) rfl rfl ?_
 refine mv_ rfl (wl_nil ?_)
 refine nx_next ?_
 refine gr_next ?_
 refine sr_ (wl_ov (ov_lss rfl rfl) rfl ?_)
 refine wl_set 23 (v' := .bool true) rfl (congrArg Value.bool (by decide)) ?_
 refine nn_ (gw_seq (ct_ rfl (gw_skip (nx_then (gw_seq (gw_block (sr_ ?_)))))))
 refine wl_ov (ov_index (j := 1) es22 rfl rfl (by decide)) rfl ?_
 refine wl_ov (ov_elem1 (k := 0) (v := .int .i64 50) sc3 rfl (fun _ hm => (SlT.ofOwn (l := [50, 50]) in_len (hm.ownI 1 rfl) rfl)) (rfl : [(50 : Int), 50][1]? = some 50) rfl rfl) rfl ?_
 refine sg_ rfl (nn_ (gw_region (mv_ rfl (mv_ rfl (mv_ rfl ?_)))))
 refine wl_callv (v := .agg #[.int .i64 1, .int .i64 2]) rfl cb193 rfl rfl (fun wx hm => (by have h := lowest_any 50 100 wx (by omega) (by omega) (by omega); rw [lowF_50] at h; exact h)) ?_
 refine wl_buildSlice (e := 196) (cs := [.int .i64 1, .int .i64 2]) rfl (by kernel_rfl) rfl fun g2 => ?_
 refine wl_append (news := [.int .i64 1, .int .i64 2]) 0 0 ap153 rfl rfl rfl rfl rfl rfl rfl (by decide) (by decide) rfl rfl fun v2 hv2 => ?_
 refine sg_ rfl (wl_nil (nx_blk_nrm (nx_then (gw_region (ad_ rfl rfl ?_)))))
 refine wl_set 32 (v' := .int .i64 2) rfl rfl ?_
 refine mv_ rfl (wl_nil ?_)
 refine nx_next ?_
 refine gr_next ?_
 refine sr_ (wl_ov (ov_lss rfl rfl) rfl ?_)
 refine wl_set 23 (v' := .bool false) rfl (congrArg Value.bool (by decide)) ?_
 refine nn_ (gw_seq (cf_ rfl ?_))
 refine gw_exit ?_
 refine nx_then_exit (nx_then_exit ?_)
 refine nx_blk_here ?_
 refine nx_then (sr_ (mv_ rfl (sg_ rfl (sg_ rfl (nn_ ?_)))))
 refine gw_ret ?_
 refine nx_look (R := ∃ A cc, v2 = .slice A (0 + 1 + 1) cc) (fun wx hm => own_slice (hm.ownI 0 rfl)) ?_
 rintro ⟨A3, c3, rfl⟩
 refine nx_ret2 rfl rfl rfl fun wx hm => ?_
 exact ⟨A3, c3, rfl, hm.g, SlT.ofOwn (l := [⟨1, 2⟩, ⟨1, 2⟩]) fr_len (hm.ownI 0 rfl) rfl⟩
theorem booked_any (w : World) : Calls Tryz.prog 41 #[] w (fun e w' => e = .returned (.bool true) ∧ w.grownBy w' none) := by
 refine gw_enter ⟨19, w, none, [196]⟩ Tryz.func41 rfl Tryz.ntmps41 rfl (mem0 (X := []) allF_nil allL_nil) ?_
 refine sr_ (sg_ rfl (nn_ (sr_ ?_)))
 refine wl_ov (ov_build (cs := [.int .i64 0, .int .i64 1]) rfl (by kernel_rfl)) rfl ?_
 refine wl_ov (ov_build (cs := [.string ⟨#[97]⟩, .string ⟨#[99]⟩, .int .i64 0, .int .i64 1, .int .i64 0, .int .i64 50]) rfl (by kernel_rfl)) rfl ?_
 refine wl_buildSlice (e := 92) (cs := [.string ⟨#[97]⟩, .string ⟨#[99]⟩, .int .i64 0, .int .i64 1, .int .i64 0, .int .i64 50]) rfl (by kernel_rfl) rfl fun g1 => ?_
 refine wl_callx (γ := Option Addr × Nat) (val := (fun g => .tuple #[.slice g.1 2 g.2, .int .i64 0])) (φ := (fun g => True)) (Y := (fun g => fun wy => SlT frEnc 2 196 wy g.1 2 [⟨1, 2⟩, ⟨1, 2⟩])) rfl cb95 rfl rfl (fun wx hm => (bspread_one _ _ wx (SlT.ofBlk (l := [⟨⟨#[97]⟩, ⟨#[99]⟩, 0, 1, 0, 50⟩]) bk_len (hm.blkI 0 rfl))).mono fun _ _ ⟨A2, c2, he, hg, hs⟩ => ⟨(A2, c2), he, trivial, hg, hs⟩) (fun _ => SlT.lasts2 rfl) ?_
 rintro ⟨A2, c2⟩ hphi
 dsimp only
 clear hphi
 refine mv_ rfl (wl_ov (ov_extract rfl rfl) rfl (wl_ov (ov_extract rfl rfl) rfl (sg_ rfl (sg_ rfl (nn_ (sr_ (mv_ rfl (wl_ov (ov_eql rfl rfl) rfl ?_))))))))
 refine wl_set 11 (v' := .bool true) rfl (congrArg Value.bool (by decide)) ?_
 refine mv_ rfl (wl_guard_on rfl rfl rfl (mv_ rfl (wl_guard_on rfl rfl rfl ?_)))
 refine wl_ov (ov_build (cs := [.int .i64 1, .int .i64 2]) rfl (by kernel_rfl)) rfl ?_
 refine wl_guard_on rfl rfl rfl ?_
 refine wl_ov (ov_build (cs := [.int .i64 1, .int .i64 2]) rfl (by kernel_rfl)) rfl ?_
 refine wl_guard_on rfl rfl rfl ?_
 refine wl_buildSlice (e := 196) (cs := [.int .i64 1, .int .i64 2, .int .i64 1, .int .i64 2]) rfl (by kernel_rfl) rfl fun g2 => ?_
 refine wl_guard_on rfl rfl rfl ?_
 refine wl_callv rfl cb132 rfl rfl (fun wx hm => (equal_fraction_any [⟨1, 2⟩, ⟨1, 2⟩] A2 _ 2 c2 2 wx (hm.fact 0 rfl) (SlT.ofBlk (l := [⟨1, 2⟩, ⟨1, 2⟩]) fr_len (hm.blkI 0 rfl)) (by omega))) ?_
 refine pt_ rfl rfl (sg_ rfl (nn_ ?_))
 refine gw_ret ?_
 refine nx_ret1 rfl rfl fun wx hm => ?_
 exact ⟨rfl, hm.g⟩
end Go.Proofs.YtempjmpfdniecaaGreatDoor
namespace Go.Proofs.YtempjmpfdniecaaGreatDoor
open Go.RowKit
theorem sk_snoc {l : List Sk} {x : Sk} (h : ∀ y ∈ l, SkOk y) (hx : SkOk x) : ∀ y ∈ l ++ [x], SkOk y := fun y hy => by
  rcases List.mem_append.1 hy with hy | hy
  · exact h y hy
  · rw [List.mem_singleton.1 hy]; exact hx
theorem gstock_any (w : World) (B sb m : Nat) (hS : Strm 25 w B sb m) (hm : m ≤ 100000000) :
  Calls Tryz.prog 57 #[.pointer (some ⟨sb, 0, none⟩)] w (fun e w' => ∃ (A : Option Addr) (n c : Nat) (l : List Sk), e = .returned (.slice A n c) ∧ w'.ownsRow w.heap.size 211 2 (.slice A n c) n (l.flatMap skEnc) ∧ l.length = n ∧ (∀ x ∈ l, SkOk x) ∧ n ≤ 5 ∧ Strm 25 w' B sb (m + 100) ∧ w.grownBy w' (some sb)) := by
 refine gw_enter ⟨36, w, (some sb), []⟩ Tryz.func57 rfl Tryz.ntmps57 rfl (memS (X := []) hS allF_nil allL_nil) ?_
 refine sr_ ?_
 refine wl_nilOwn 211 2 ?_
 refine sg_ rfl (nn_ (sr_ (sg_ rfl (nn_ (gw_seq (sr_ ?_))))))
 refine wl_buildSlice (e := 9) (cs := [.string ⟨#[98, 105, 103]⟩, .string ⟨#[109, 97, 120, 105]⟩, .string ⟨#[109, 105, 100, 105]⟩, .string ⟨#[109, 105, 110, 105]⟩]) rfl (by kernel_rfl) rfl fun g1 => ?_
 refine wl_ov (ov_len es103 rfl) rfl ?_
 refine wl_set 7 (v' := .int .i64 4) rfl rfl ?_
 refine mv_ rfl (nn_ (gw_block ?_))
 refine gw_loop (γ := Nat × Nat × Value × List Sk × List Value) (fun g => g.1 ≤ 4 ∧ g.2.1 ≤ g.1 ∧ g.2.2.2.1.length = g.2.1 ∧ (∀ x ∈ g.2.2.2.1, SkOk x) ∧ g.2.2.2.2 = g.2.2.2.1.flatMap skEnc) (fun g => [(0, .pointer (some ⟨sb, 0, none⟩)), (2, .slice none 0 0), (3, g.2.2.1), (6, .slice (some ⟨g1, 0, none⟩) 4 4), (7, .int .i64 4), (8, .int .i64 ((g.1 : Nat) : Int))]) (fun g => fun w => Strm 25 w B sb (m + 2 * g.1)) (fun g => [(g1, 9, [.string ⟨#[98, 105, 103]⟩, .string ⟨#[109, 97, 120, 105]⟩, .string ⟨#[109, 105, 100, 105]⟩, .string ⟨#[109, 105, 110, 105]⟩])]) (fun g => [⟨g.2.2.1, 211, 2, g.2.1, g.2.2.2.2⟩]) (fun g => []) (fun g => 4 - g.1) (0, 0, .slice none 0 0, [], []) ⟨Nat.zero_le _, Nat.le_refl _, rfl, (fun _ h => by cases h), rfl⟩ ⟨rfl, rfl, rfl, rfl, rfl, rfl, trivial⟩ (fun _ hm => (hm.more rfl (by first | omega | (dsimp only; omega))).pick [0] [0] [] rfl rfl) ?_
 rintro ⟨i, k, v, l, xs⟩ hinv
 replace hinv : i ≤ 4 ∧ k ≤ i ∧ l.length = k ∧ (∀ x ∈ l, SkOk x) ∧ xs = l.flatMap skEnc := hinv
 dsimp only
 refine sr_ ?_
 obtain ⟨hi0, hki, hl, hok, rfl⟩ := hinv
 refine wl_ov (ov_lss rfl rfl) rfl (nn_ (gw_seq ?_))
 refine gw_cond rfl (fun hh => ?_) (fun hh => ?_)
 ·have hi : ((i : Nat) : Int) < 4 := by simpa using hh
  clear hh
  refine gw_skip (nx_then (gw_seq (gw_block (sr_ ?_))))
  obtain ⟨nm, hx⟩ : ∃ x, ([⟨#[98, 105, 103]⟩, ⟨#[109, 97, 120, 105]⟩, ⟨#[109, 105, 100, 105]⟩, ⟨#[109, 105, 110, 105]⟩] : List ByteArray)[i]? = some x := ⟨_, List.getElem?_eq_getElem (by simp; omega)⟩
  have hnm : nm.size ≤ 100 := mem_sz (List.mem_of_getElem? hx) (by decide)
  refine wl_ov (ov_index (j := i) es103 rfl rfl (by omega)) rfl ?_
  refine wl_ov (ov_elem1 (k := 0) (v := .string nm) sc9 rfl (fun _ hm => (SlT.ofBlk (l := [⟨#[98, 105, 103]⟩, ⟨#[109, 97, 120, 105]⟩, ⟨#[109, 105, 100, 105]⟩, ⟨#[109, 105, 110, 105]⟩]) sg_len (hm.blkI 0 rfl))) hx rfl rfl) rfl ?_
  refine sg_ rfl (nn_ (sr_ (mv_ rfl ?_)))
  refine wl_got (γ := Bool) (val := fun v => .bool v) (φ := fun v => True) rfl cb64 rfl rfl rfl rfl (fun wx hm => ((flip_any _ wx B sb _ hm.k (by omega) (by omega) (by omega)).mono fun _ _ ⟨v, he, hS, hg⟩ => ⟨v, trivial, he, hS, hg⟩)) fun f2 _ => ?_
  refine wl_ov (ov_un_not rfl) rfl (nn_ ?_)
  refine gw_cond rfl (fun hh => ?_) (fun hh => ?_)
  ·have hf : f2 = false := by simpa using hh
   clear hh
   refine gw_region (mv_ rfl (mv_ rfl (mv_ rfl ?_)))
   refine wl_buildSlice (e := 3) (cs := [.int .i64 0, .int .i64 1, .int .i64 1, .int .i64 2, .int .i64 3]) rfl (by kernel_rfl) rfl fun g3 => ?_
   refine wl_got (γ := Int) (val := fun v => .int .i64 v) (φ := fun v => v ∈ ([0, 1, 1, 2, 3] : List Int)) rfl cb11 rfl rfl rfl rfl (fun wx hm => (pick_any [0, 1, 1, 2, 3] _ _ _ wx B sb _ hm.k (by omega) (by simp) (by simp) (hm.blkI 0 rfl) (hm.neRow 0 rfl rfl))) fun v4 hv4 => ?_
   have bv4 : 0 ≤ v4 ∧ v4 ≤ 3 := mem_rng hv4 (by decide)
   have bv40 := bv4.1
   have bv41 := bv4.2
   clear bv4
   refine wl_ov (ov_build (cs := [.string nm, .int .i64 v4]) rfl (by kernel_rfl)) rfl ?_
   refine wl_buildSlice (e := 211) (cs := [.string nm, .int .i64 v4]) rfl (by kernel_rfl) rfl fun g5 => ?_
   refine wl_append (news := [.string nm, .int .i64 v4]) 0 0 ap75 rfl rfl rfl rfl rfl rfl rfl (by omega) (by unfold maxLen; omega) rfl rfl fun v2 hv2 => ?_
   refine sg_ rfl (wl_nil (nx_blk_nrm (nx_then (gw_region (ad_ rfl rfl (mv_ rfl (wl_nil ?_)))))))
   exact nx_round (i + 1, k + 1, v2, l ++ [⟨nm, v4⟩], l.flatMap skEnc ++ ([.string nm, .int .i64 v4] : List Value)) ⟨by dsimp only; omega, by dsimp only; omega, by simp [hl], sk_snoc hok ⟨by dsimp only; omega, by dsimp only; omega, by dsimp only; omega⟩, by simp [skEnc]⟩ (by dsimp only; omega) ⟨rfl, rfl, rfl, rfl, rfl, (some_int (by omega)), trivial⟩ (fun _ hm => (hm.more rfl (by first | omega | (dsimp only; omega))).pick [2] [0] [] rfl rfl)
  have hf : f2 = true := by simpa using hh
  clear hh
  refine gw_skip (nx_blk_nrm (nx_then (gw_region (ad_ rfl rfl (mv_ rfl (wl_nil ?_))))))
  exact nx_round (i + 1, k, v, l, l.flatMap skEnc) ⟨by dsimp only; omega, by dsimp only; omega, hl, hok, rfl⟩ (by dsimp only; omega) ⟨rfl, rfl, rfl, rfl, rfl, (some_int (by omega)), trivial⟩ (fun _ hm => (hm.more rfl (by first | omega | (dsimp only; omega))).pick [0] [0] [] rfl rfl)
 have hi : ¬ (((i : Nat) : Int) < 4) := by simpa using hh
 clear hh
 refine gw_exit ?_
 refine nx_then_exit (nx_then_exit ?_)
 refine nx_blk_here ?_
 refine nx_then (gw_seq (sr_ (mv_ rfl ?_)))
 refine wl_got (γ := Bool) (val := fun v => .bool v) (φ := fun v => True) rfl cb64 rfl rfl rfl rfl (fun wx hm => ((flip_any _ wx B sb _ hm.k (by omega) (by omega) (by omega)).mono fun _ _ ⟨v, he, hS, hg⟩ => ⟨v, trivial, he, hS, hg⟩)) fun f6 _ => ?_
 refine nn_ ?_
 refine gw_cond rfl (fun hh => ?_) (fun hh => ?_)
 ·have hf : f6 = true := by simpa using hh
  clear hh
  refine gw_region (mv_ rfl (mv_ rfl ?_))
  refine wl_buildSlice (e := 9) (cs := [.string ⟨#[109, 105, 110, 105]⟩, .string ⟨#[110, 111, 110, 101]⟩, .string ⟨#[98, 105, 103]⟩]) rfl (by kernel_rfl) rfl fun g7 => ?_
  refine wl_got (γ := ByteArray) (val := fun v => .string v) (φ := fun v => v ∈ ([⟨#[109, 105, 110, 105]⟩, ⟨#[110, 111, 110, 101]⟩, ⟨#[98, 105, 103]⟩] : List ByteArray)) rfl cb49 rfl rfl rfl rfl (fun wx hm => (some_any [⟨#[109, 105, 110, 105]⟩, ⟨#[110, 111, 110, 101]⟩, ⟨#[98, 105, 103]⟩] _ _ _ wx B sb _ hm.k (by omega) (by simp) (by simp) (hm.blkI 0 rfl) (hm.neRow 0 rfl rfl))) fun s8 hs8 => ?_
  have zs8 : s8.size ≤ 100 := mem_sz hs8 (by decide)
  refine mv_ rfl ?_
  refine wl_got (γ := Int) (val := fun v => .int .i64 v) (φ := fun v => -2000000000000000 ≤ v ∧ v ≤ 2000000000000000) rfl cb88 rfl rfl rfl rfl (fun wx hm => (odd_any _ _ wx B sb _ hm.k (by omega) (by omega) (by omega) (by omega))) fun v9 hv9 => ?_
  refine wl_ov (ov_build (cs := [.string s8, .int .i64 v9]) rfl (by kernel_rfl)) rfl ?_
  refine wl_buildSlice (e := 211) (cs := [.string s8, .int .i64 v9]) rfl (by kernel_rfl) rfl fun g10 => ?_
  refine wl_append (news := [.string s8, .int .i64 v9]) 0 0 ap75 rfl rfl rfl rfl rfl rfl rfl (by omega) (by unfold maxLen; omega) rfl rfl fun v2 hv2 => ?_
  refine wl_look (R := ∃ A cc, v2 = .slice A (k + 1) cc) (fun wx hm => own_slice (hm.ownI 0 rfl)) ?_
  rintro ⟨A, c, rfl⟩
  refine sg_ rfl (nn_ (sr_ (mv_ rfl (sg_ rfl (nn_ ?_)))))
  refine gw_ret ?_
  refine nx_ret1 rfl rfl fun wx hm => ?_
  exact ⟨A, k + 1, c, l ++ [⟨s8, v9⟩], rfl, by have h := hm.ownI 0 rfl; simpa [skEnc] using h, by simp [hl], sk_snoc hok ⟨by dsimp only; omega, by dsimp only; omega, by dsimp only; omega⟩, by omega, hm.k.more (by omega), hm.g⟩
 have hf : f6 = false := by simpa using hh
 clear hh
 refine gw_skip (nx_then (sr_ ?_))
 refine wl_look (R := ∃ A cc, v = .slice A k cc) (fun wx hm => own_slice (hm.ownI 0 rfl)) ?_
 rintro ⟨A, c, rfl⟩
 refine mv_ rfl (sg_ rfl (nn_ ?_))
 refine gw_ret ?_
 refine nx_ret1 rfl rfl fun wx hm => ?_
 exact ⟨A, k, c, l, rfl, by have h := hm.ownI 0 rfl; simpa [skEnc] using h, hl, hok, by omega, hm.k.more (by omega), hm.g⟩
theorem counterOf_any (q : Nat) (w : World) (B sb m : Nat) (hS : Strm 25 w B sb m) (hm : m ≤ 10000000) (hq : q ≤ 9) :
  Calls Tryz.prog 34 #[.pointer (some ⟨sb, 0, none⟩), .int .i64 ((q : Nat) : Int)] w (fun e w' => ∃ (A0 : Option Addr) (c0 : Nat) (cs : List Cs) (A1 : Option Addr) (n1 c1 : Nat) (sl : List Sk) (A : Option Addr) (n c : Nat) (l : List Bk), e = .returned (.agg #[.slice A0 4 c0, .slice A1 n1 c1, .slice A n c, .int .i64 (stockE cs sl), .int .i64 (checkE cs l)]) ∧ SlT csEnc 2 158 w' A0 4 cs ∧ SlT skEnc 2 211 w' A1 n1 sl ∧ SlT bkEnc 6 92 w' A n l ∧ (∀ x ∈ cs, CsOk x) ∧ (∀ x ∈ sl, SkOk x) ∧ (∀ x ∈ l, BkOk x) ∧ n1 ≤ 5 ∧ n ≤ 9 ∧ Strm 25 w' B sb (m + 2000) ∧ w.grownBy w' (some sb)) := by
 refine gw_enter ⟨27, w, (some sb), []⟩ Tryz.func34 rfl Tryz.ntmps34 rfl (memS (X := []) hS allF_nil allL_nil) ?_
 refine sr_ ?_
 refine wl_alloc zc78 rfl fun g1 => ?_
 refine nn_ (sr_ (mv_ rfl ?_))
 refine wl_callgs (γ := Option Addr × Nat × List Cs) (val := (fun g => .slice g.1 4 g.2.1)) (φ := (fun g => g.2.2.length = 4 ∧ (∀ x ∈ g.2.2, CsOk x))) (m' := m + 40) (fun g => ⟨.slice g.1 4 g.2.1, 158, 2, 4, g.2.2.flatMap csEnc⟩) rfl cb123 rfl rfl rfl rfl (fun wx hm => (ganyClasses_any wx B sb _ hm.k (by omega)).mono fun _ _ ⟨A0, c0, cs, he, ho, hl, hok, hS, hg⟩ => ⟨(A0, c0, cs), he, ⟨hl, hok⟩, hS, hg, ho⟩) ?_
 rintro ⟨A0, c0, cs⟩ hcs
 dsimp only at hcs ⊢
 obtain ⟨hc4, hco⟩ := hcs
 refine mv_ rfl ?_
 refine wl_callgs (γ := Option Addr × Nat × Nat × List Sk) (val := (fun g => .slice g.1 g.2.1 g.2.2.1)) (φ := (fun g => g.2.2.2.length = g.2.1 ∧ (∀ x ∈ g.2.2.2, SkOk x) ∧ g.2.1 ≤ 5)) (m' := m + 40 + 100) (fun g => ⟨.slice g.1 g.2.1 g.2.2.1, 211, 2, g.2.1, g.2.2.2.flatMap skEnc⟩) rfl cb57 rfl rfl rfl rfl (fun wx hm => (gstock_any wx B sb _ hm.k (by omega)).mono fun _ _ ⟨A1, n1, c1, sl, he, ho, hl, hok, hn, hS, hg⟩ => ⟨(A1, n1, c1, sl), he, ⟨hl, hok, hn⟩, hS, hg, ho⟩) ?_
 rintro ⟨A1, n1, c1, sl⟩ hss
 dsimp only at hss ⊢
 obtain ⟨hs1, hso, hn5⟩ := hss
 refine mv_ rfl (mv_ rfl ?_)
 refine wl_callgs (γ := Option Addr × Nat × Nat × List Bk) (val := (fun g => .slice g.1 g.2.1 g.2.2.1)) (φ := (fun g => (∀ b ∈ g.2.2.2, BkOk b) ∧ g.2.1 ≤ 9 ∧ g.2.2.2.length = g.2.1)) (m' := m + 40 + 100 + 1000) (fun g => ⟨.slice g.1 g.2.1 g.2.2.1, 92, 6, g.2.1, g.2.2.2.flatMap bkEnc⟩) rfl cb48 rfl rfl rfl rfl (fun wx hm => (gbookings_own q wx B sb _ hm.k (by omega) hq).mono fun _ _ ⟨A, n, c, l, he, ho, hl, hok, hn, hnc, hS, hg⟩ => ⟨(A, n, c, l), he, ⟨hok, hn, hl⟩, hS, hg, ho⟩) ?_
 rintro ⟨A, n, c, l⟩ hbb
 dsimp only at hbb ⊢
 obtain ⟨hok, hn9, hlen⟩ := hbb
 obtain ⟨SE, hSE⟩ : ∃ E, E = stockE cs sl := ⟨_, rfl⟩
 obtain ⟨KE, hKE⟩ : ∃ E, E = checkE cs l := ⟨_, rfl⟩
 refine wl_ov (ov_build (cs := [.slice A0 4 c0, .slice A1 n1 c1, .slice A n c, .int .i64 0, .int .i64 0]) rfl (by kernel_rfl)) rfl ?_
 refine wl_alloc zc78 rfl fun g2 => ?_
 refine wl_stores (cs' := [.slice A0 4 c0, .slice A1 n1 c1, .slice A n c, .int .i64 0, .int .i64 0]) 0 rz78 rfl rfl rfl rfl rfl rfl rfl rfl ?_
 refine nn_ (gw_seq ?_)
 refine gd (fun wz => Blk wz g1 78 [.slice none 0 0, .slice none 0 0, .slice none 0 0, .int .i64 0, .int .i64 0] ∧ True) mixed (fun _ hm => ⟨hm.bl 1, trivial⟩) fun z => ?_
 refine wt 0 14 1 rfl z (ov_field fo78_0 rfl rfl) ?_
 refine wt 2 14 5 rfl z (ov_field fo78_1 rfl rfl) ?_
 refine wt 5 14 37 rfl z (ov_field fo78_0 rfl rfl) ?_
 refine wt 7 14 165 rfl z (ov_field fo78_2 rfl rfl) ?_
 refine wa_open fun W hW => ?_
 have T255 : W 6 (lb 14 255) [(4, .pointer (some ⟨g1, 0, none⟩)), (5, .pointer (some ⟨g2, 0, none⟩)), (18, .int .i64 SE), (20, .slice A0 4 c0), (21, .pointer (some ⟨g2, 2, none⟩))] (fun w => Strm 25 w B sb (m + 40 + 100 + 1000)) [(g1, 78, [.slice none 0 0, .slice none 0 0, .slice none 0 0, .int .i64 0, .int .i64 0]), (g2, 78, [.slice A0 4 c0, .slice A1 n1 c1, .slice A n c, .int .i64 0, .int .i64 0])] [⟨.slice A n c, 92, 6, n, l.flatMap bkEnc⟩, ⟨.slice A1 n1 c1, 211, 2, n1, sl.flatMap skEnc⟩, ⟨.slice A0 4 c0, 158, 2, 4, cs.flatMap csEnc⟩] [] := by
  skip
  rw [hW]
  refine wa1 8 rfl ?_
  refine lk_ sc76 1 rfl rfl rfl (wl_nil ?_)
  refine nw 14 511 (fun _ hm => ⟨hm.bl 0, trivial⟩) fun z => ?_
  refine wt 10 14 1535 rfl z (ov_field fo78_3 rfl rfl) ?_
  refine wa1 9 rfl ?_
  refine wl_callv (v := .int .i64 KE) rfl cb51 rfl rfl (fun wx hm => (by rw [hKE]; exact bookingsFault_any cs A0 4 c0 l A n c wx (SlT.ofOwn cs_len (hm.ownI 2 rfl) hc4) hco (by omega) (SlT.ofOwn bk_len (hm.ownI 0 rfl) hlen) hok (by omega))) ?_
  refine wl_nil ?_
  refine nw 14 2047 (fun _ hm => ⟨hm.bl 0, trivial⟩) fun z => ?_
  refine wa1 11 rfl ?_
  refine wl_store 1 sc33 rfl rfl rfl rfl rfl rfl ?_
  refine wl_nil ?_
  refine nw 14 4095 (fun _ hm => ⟨hm.bl 0, trivial⟩) fun z => ?_
  refine wt 12 14 8191 rfl z (ov_field fo78_4 rfl rfl) ?_
  refine wa1 13 rfl ?_
  refine wl_store 1 sc33 rfl rfl rfl rfl rfl rfl ?_
  refine wl_nil ?_
  refine nw 14 16383 (fun _ hm => ⟨hm.bl 0, trivial⟩) fun z => ?_
  refine wa_done (by kernel_rfl) ?_
  refine nx_then (sr_ ?_)
  refine wl_ov (ov_loads rz78 rfl (fun _ hm => hm.blkI 1 rfl) rfl rfl) rfl ?_
  refine wl_stores (cs' := [.slice A0 4 c0, .slice A1 n1 c1, .slice A n c, .int .i64 SE, .int .i64 KE]) 0 rz78 rfl rfl rfl rfl rfl rfl rfl rfl ?_
  refine nn_ ?_
  refine gw_ret ?_
  refine nx_retc 0 rfl rz78 rfl rfl rfl fun wx hm => ?_
  exact ⟨A0, c0, cs, A1, n1, c1, sl, A, n, c, l, by rw [← hSE, ← hKE], (SlT.ofOwn cs_len (hm.ownI 2 rfl) hc4), (SlT.ofOwn sk_len (hm.ownI 1 rfl) hs1), (SlT.ofOwn bk_len (hm.ownI 0 rfl) hlen), hco, hso, hok, hn5, hn9, hm.k.more (by omega), hm.g⟩
 have T447 : W 6 (lb 14 447) [(4, .pointer (some ⟨g1, 0, none⟩)), (5, .pointer (some ⟨g2, 0, none⟩)), (18, .int .i64 SE), (19, .pointer (some ⟨g2, 0, none⟩)), (22, .slice A n c)] (fun w => Strm 25 w B sb (m + 40 + 100 + 1000)) [(g1, 78, [.slice none 0 0, .slice none 0 0, .slice none 0 0, .int .i64 0, .int .i64 0]), (g2, 78, [.slice A0 4 c0, .slice A1 n1 c1, .slice A n c, .int .i64 0, .int .i64 0])] [⟨.slice A n c, 92, 6, n, l.flatMap bkEnc⟩, ⟨.slice A1 n1 c1, 211, 2, n1, sl.flatMap skEnc⟩, ⟨.slice A0 4 c0, 158, 2, 4, cs.flatMap csEnc⟩] [] := by
  skip
  rw [hW]
  refine wa1 6 rfl ?_
  refine lk_ sc58 1 rfl rfl rfl (wl_nil ?_)
  refine nw 14 511 (fun _ hm => ⟨hm.bl 0, trivial⟩) fun z => ?_
  refine wt 10 14 1535 rfl z (ov_field fo78_3 rfl rfl) ?_
  refine wa1 9 rfl ?_
  refine wl_callv (v := .int .i64 KE) rfl cb51 rfl rfl (fun wx hm => (by rw [hKE]; exact bookingsFault_any cs A0 4 c0 l A n c wx (SlT.ofOwn cs_len (hm.ownI 2 rfl) hc4) hco (by omega) (SlT.ofOwn bk_len (hm.ownI 0 rfl) hlen) hok (by omega))) ?_
  refine wl_nil ?_
  refine nw 14 2047 (fun _ hm => ⟨hm.bl 0, trivial⟩) fun z => ?_
  refine wa1 11 rfl ?_
  refine wl_store 1 sc33 rfl rfl rfl rfl rfl rfl ?_
  refine wl_nil ?_
  refine nw 14 4095 (fun _ hm => ⟨hm.bl 0, trivial⟩) fun z => ?_
  refine wt 12 14 8191 rfl z (ov_field fo78_4 rfl rfl) ?_
  refine wa1 13 rfl ?_
  refine wl_store 1 sc33 rfl rfl rfl rfl rfl rfl ?_
  refine wl_nil ?_
  refine nw 14 16383 (fun _ hm => ⟨hm.bl 0, trivial⟩) fun z => ?_
  refine wa_done (by kernel_rfl) ?_
  refine nx_then (sr_ ?_)
  refine wl_ov (ov_loads rz78 rfl (fun _ hm => hm.blkI 1 rfl) rfl rfl) rfl ?_
  refine wl_stores (cs' := [.slice A0 4 c0, .slice A1 n1 c1, .slice A n c, .int .i64 SE, .int .i64 KE]) 0 rz78 rfl rfl rfl rfl rfl rfl rfl rfl ?_
  refine nn_ ?_
  refine gw_ret ?_
  refine nx_retc 0 rfl rz78 rfl rfl rfl fun wx hm => ?_
  exact ⟨A0, c0, cs, A1, n1, c1, sl, A, n, c, l, by rw [← hSE, ← hKE], (SlT.ofOwn cs_len (hm.ownI 2 rfl) hc4), (SlT.ofOwn sk_len (hm.ownI 1 rfl) hs1), (SlT.ofOwn bk_len (hm.ownI 0 rfl) hlen), hco, hso, hok, hn5, hn9, hm.k.more (by omega), hm.g⟩
 have J191 : W 7 (lb 14 191) [(4, .pointer (some ⟨g1, 0, none⟩)), (5, .pointer (some ⟨g2, 0, none⟩)), (18, .int .i64 SE), (19, .pointer (some ⟨g2, 0, none⟩)), (21, .pointer (some ⟨g2, 2, none⟩))] (fun w => Strm 25 w B sb (m + 40 + 100 + 1000)) [(g1, 78, [.slice none 0 0, .slice none 0 0, .slice none 0 0, .int .i64 0, .int .i64 0]), (g2, 78, [.slice A0 4 c0, .slice A1 n1 c1, .slice A n c, .int .i64 0, .int .i64 0])] [⟨.slice A n c, 92, 6, n, l.flatMap bkEnc⟩, ⟨.slice A1 n1 c1, 211, 2, n1, sl.flatMap skEnc⟩, ⟨.slice A0 4 c0, 158, 2, 4, cs.flatMap csEnc⟩] [] := by
  skip
  rw [hW]
  refine wa_all [6, 8] (by kernel_rfl) rfl ⟨⟨_, rfl, ?_⟩, ⟨_, rfl, ?_⟩, trivial⟩
  ·refine lk_ sc58 1 rfl rfl rfl (wl_nil ?_)
   refine nw 14 255 (fun _ hm => ⟨hm.bl 0, trivial⟩) fun z => ?_
   have h := T255 
   rw [hW] at h
   refine wa_weak ?_ ?_ h
   ·exact ⟨rfl, rfl, rfl, rfl, rfl, trivial⟩
   exact fun _ hm => hm.pick [0, 1] [0, 1, 2] [] rfl rfl
  refine lk_ sc76 1 rfl rfl rfl (wl_nil ?_)
  refine nw 14 447 (fun _ hm => ⟨hm.bl 0, trivial⟩) fun z => ?_
  have h := T447 
  rw [hW] at h
  refine wa_weak ?_ ?_ h
  ·exact ⟨rfl, rfl, rfl, rfl, rfl, trivial⟩
  exact fun _ hm => hm.pick [0, 1] [0, 1, 2] [] rfl rfl
 have T495 : W 6 (lb 14 495) [(4, .pointer (some ⟨g1, 0, none⟩)), (5, .pointer (some ⟨g2, 0, none⟩)), (15, .slice A0 4 c0), (17, .slice A1 n1 c1), (20, .slice A0 4 c0), (22, .slice A n c)] (fun w => Strm 25 w B sb (m + 40 + 100 + 1000)) [(g1, 78, [.slice none 0 0, .slice none 0 0, .slice none 0 0, .int .i64 0, .int .i64 0]), (g2, 78, [.slice A0 4 c0, .slice A1 n1 c1, .slice A n c, .int .i64 0, .int .i64 0])] [⟨.slice A n c, 92, 6, n, l.flatMap bkEnc⟩, ⟨.slice A1 n1 c1, 211, 2, n1, sl.flatMap skEnc⟩, ⟨.slice A0 4 c0, 158, 2, 4, cs.flatMap csEnc⟩] [] := by
  skip
  rw [hW]
  refine wa1 4 rfl ?_
  refine wl_callv (v := .int .i64 SE) rfl cb58 rfl rfl (fun wx hm => (by rw [hSE]; exact stockFault_any cs A0 4 c0 sl A1 n1 c1 wx (SlT.ofOwn cs_len (hm.ownI 2 rfl) hc4) hco (by omega) (SlT.ofOwn sk_len (hm.ownI 1 rfl) hs1) hso (by omega))) ?_
  refine wl_nil ?_
  refine nw 14 511 (fun _ hm => ⟨hm.bl 0, trivial⟩) fun z => ?_
  refine wt 10 14 1535 rfl z (ov_field fo78_3 rfl rfl) ?_
  refine wa1 9 rfl ?_
  refine wl_callv (v := .int .i64 KE) rfl cb51 rfl rfl (fun wx hm => (by rw [hKE]; exact bookingsFault_any cs A0 4 c0 l A n c wx (SlT.ofOwn cs_len (hm.ownI 2 rfl) hc4) hco (by omega) (SlT.ofOwn bk_len (hm.ownI 0 rfl) hlen) hok (by omega))) ?_
  refine wl_nil ?_
  refine nw 14 2047 (fun _ hm => ⟨hm.bl 0, trivial⟩) fun z => ?_
  refine wa1 11 rfl ?_
  refine wl_store 1 sc33 rfl rfl rfl rfl rfl rfl ?_
  refine wl_nil ?_
  refine nw 14 4095 (fun _ hm => ⟨hm.bl 0, trivial⟩) fun z => ?_
  refine wt 12 14 8191 rfl z (ov_field fo78_4 rfl rfl) ?_
  refine wa1 13 rfl ?_
  refine wl_store 1 sc33 rfl rfl rfl rfl rfl rfl ?_
  refine wl_nil ?_
  refine nw 14 16383 (fun _ hm => ⟨hm.bl 0, trivial⟩) fun z => ?_
  refine wa_done (by kernel_rfl) ?_
  refine nx_then (sr_ ?_)
  refine wl_ov (ov_loads rz78 rfl (fun _ hm => hm.blkI 1 rfl) rfl rfl) rfl ?_
  refine wl_stores (cs' := [.slice A0 4 c0, .slice A1 n1 c1, .slice A n c, .int .i64 SE, .int .i64 KE]) 0 rz78 rfl rfl rfl rfl rfl rfl rfl rfl ?_
  refine nn_ ?_
  refine gw_ret ?_
  refine nx_retc 0 rfl rz78 rfl rfl rfl fun wx hm => ?_
  exact ⟨A0, c0, cs, A1, n1, c1, sl, A, n, c, l, by rw [← hSE, ← hKE], (SlT.ofOwn cs_len (hm.ownI 2 rfl) hc4), (SlT.ofOwn sk_len (hm.ownI 1 rfl) hs1), (SlT.ofOwn bk_len (hm.ownI 0 rfl) hlen), hco, hso, hok, hn5, hn9, hm.k.more (by omega), hm.g⟩
 have J239 : W 7 (lb 14 239) [(4, .pointer (some ⟨g1, 0, none⟩)), (5, .pointer (some ⟨g2, 0, none⟩)), (15, .slice A0 4 c0), (17, .slice A1 n1 c1), (20, .slice A0 4 c0), (21, .pointer (some ⟨g2, 2, none⟩))] (fun w => Strm 25 w B sb (m + 40 + 100 + 1000)) [(g1, 78, [.slice none 0 0, .slice none 0 0, .slice none 0 0, .int .i64 0, .int .i64 0]), (g2, 78, [.slice A0 4 c0, .slice A1 n1 c1, .slice A n c, .int .i64 0, .int .i64 0])] [⟨.slice A n c, 92, 6, n, l.flatMap bkEnc⟩, ⟨.slice A1 n1 c1, 211, 2, n1, sl.flatMap skEnc⟩, ⟨.slice A0 4 c0, 158, 2, 4, cs.flatMap csEnc⟩] [] := by
  skip
  rw [hW]
  refine wa_all [4, 8] (by kernel_rfl) rfl ⟨⟨_, rfl, ?_⟩, ⟨_, rfl, ?_⟩, trivial⟩
  ·refine wl_callv (v := .int .i64 SE) rfl cb58 rfl rfl (fun wx hm => (by rw [hSE]; exact stockFault_any cs A0 4 c0 sl A1 n1 c1 wx (SlT.ofOwn cs_len (hm.ownI 2 rfl) hc4) hco (by omega) (SlT.ofOwn sk_len (hm.ownI 1 rfl) hs1) hso (by omega))) ?_
   refine wl_nil ?_
   refine nw 14 255 (fun _ hm => ⟨hm.bl 0, trivial⟩) fun z => ?_
   have h := T255 
   rw [hW] at h
   refine wa_weak ?_ ?_ h
   ·exact ⟨rfl, rfl, rfl, rfl, rfl, trivial⟩
   exact fun _ hm => hm.pick [0, 1] [0, 1, 2] [] rfl rfl
  refine lk_ sc76 1 rfl rfl rfl (wl_nil ?_)
  refine nw 14 495 (fun _ hm => ⟨hm.bl 0, trivial⟩) fun z => ?_
  have h := T495 
  rw [hW] at h
  refine wa_weak ?_ ?_ h
  ·exact ⟨rfl, rfl, rfl, rfl, rfl, rfl, trivial⟩
  exact fun _ hm => hm.pick [0, 1] [0, 1, 2] [] rfl rfl
 have J431 : W 7 (lb 14 431) [(4, .pointer (some ⟨g1, 0, none⟩)), (5, .pointer (some ⟨g2, 0, none⟩)), (15, .slice A0 4 c0), (17, .slice A1 n1 c1), (19, .pointer (some ⟨g2, 0, none⟩)), (22, .slice A n c)] (fun w => Strm 25 w B sb (m + 40 + 100 + 1000)) [(g1, 78, [.slice none 0 0, .slice none 0 0, .slice none 0 0, .int .i64 0, .int .i64 0]), (g2, 78, [.slice A0 4 c0, .slice A1 n1 c1, .slice A n c, .int .i64 0, .int .i64 0])] [⟨.slice A n c, 92, 6, n, l.flatMap bkEnc⟩, ⟨.slice A1 n1 c1, 211, 2, n1, sl.flatMap skEnc⟩, ⟨.slice A0 4 c0, 158, 2, 4, cs.flatMap csEnc⟩] [] := by
  skip
  rw [hW]
  refine wa_all [4, 6] (by kernel_rfl) rfl ⟨⟨_, rfl, ?_⟩, ⟨_, rfl, ?_⟩, trivial⟩
  ·refine wl_callv (v := .int .i64 SE) rfl cb58 rfl rfl (fun wx hm => (by rw [hSE]; exact stockFault_any cs A0 4 c0 sl A1 n1 c1 wx (SlT.ofOwn cs_len (hm.ownI 2 rfl) hc4) hco (by omega) (SlT.ofOwn sk_len (hm.ownI 1 rfl) hs1) hso (by omega))) ?_
   refine wl_nil ?_
   refine nw 14 447 (fun _ hm => ⟨hm.bl 0, trivial⟩) fun z => ?_
   have h := T447 
   rw [hW] at h
   refine wa_weak ?_ ?_ h
   ·exact ⟨rfl, rfl, rfl, rfl, rfl, trivial⟩
   exact fun _ hm => hm.pick [0, 1] [0, 1, 2] [] rfl rfl
  refine lk_ sc58 1 rfl rfl rfl (wl_nil ?_)
  refine nw 14 495 (fun _ hm => ⟨hm.bl 0, trivial⟩) fun z => ?_
  have h := T495 
  rw [hW] at h
  refine wa_weak ?_ ?_ h
  ·exact ⟨rfl, rfl, rfl, rfl, rfl, rfl, trivial⟩
  exact fun _ hm => hm.pick [0, 1] [0, 1, 2] [] rfl rfl
 have J175 : W 8 (lb 14 175) [(4, .pointer (some ⟨g1, 0, none⟩)), (5, .pointer (some ⟨g2, 0, none⟩)), (15, .slice A0 4 c0), (17, .slice A1 n1 c1), (19, .pointer (some ⟨g2, 0, none⟩)), (21, .pointer (some ⟨g2, 2, none⟩))] (fun w => Strm 25 w B sb (m + 40 + 100 + 1000)) [(g1, 78, [.slice none 0 0, .slice none 0 0, .slice none 0 0, .int .i64 0, .int .i64 0]), (g2, 78, [.slice A0 4 c0, .slice A1 n1 c1, .slice A n c, .int .i64 0, .int .i64 0])] [⟨.slice A n c, 92, 6, n, l.flatMap bkEnc⟩, ⟨.slice A1 n1 c1, 211, 2, n1, sl.flatMap skEnc⟩, ⟨.slice A0 4 c0, 158, 2, 4, cs.flatMap csEnc⟩] [] := by
  skip
  rw [hW]
  refine wa_all [4, 6, 8] (by kernel_rfl) rfl ⟨⟨_, rfl, ?_⟩, ⟨_, rfl, ?_⟩, ⟨_, rfl, ?_⟩, trivial⟩
  ·refine wl_callv (v := .int .i64 SE) rfl cb58 rfl rfl (fun wx hm => (by rw [hSE]; exact stockFault_any cs A0 4 c0 sl A1 n1 c1 wx (SlT.ofOwn cs_len (hm.ownI 2 rfl) hc4) hco (by omega) (SlT.ofOwn sk_len (hm.ownI 1 rfl) hs1) hso (by omega))) ?_
   refine wl_nil ?_
   refine nw 14 191 (fun _ hm => ⟨hm.bl 0, trivial⟩) fun z => ?_
   have h := J191 
   rw [hW] at h
   refine wa_weak ?_ ?_ h
   ·exact ⟨rfl, rfl, rfl, rfl, rfl, trivial⟩
   exact fun _ hm => hm.pick [0, 1] [0, 1, 2] [] rfl rfl
  ·refine lk_ sc58 1 rfl rfl rfl (wl_nil ?_)
   refine nw 14 239 (fun _ hm => ⟨hm.bl 0, trivial⟩) fun z => ?_
   have h := J239 
   rw [hW] at h
   refine wa_weak ?_ ?_ h
   ·exact ⟨rfl, rfl, rfl, rfl, rfl, rfl, trivial⟩
   exact fun _ hm => hm.pick [0, 1] [0, 1, 2] [] rfl rfl
  refine lk_ sc76 1 rfl rfl rfl (wl_nil ?_)
  refine nw 14 431 (fun _ hm => ⟨hm.bl 0, trivial⟩) fun z => ?_
  have h := J431 
  rw [hW] at h
  refine wa_weak ?_ ?_ h
  ·exact ⟨rfl, rfl, rfl, rfl, rfl, rfl, trivial⟩
  exact fun _ hm => hm.pick [0, 1] [0, 1, 2] [] rfl rfl
 have T487 : W 7 (lb 14 487) [(4, .pointer (some ⟨g1, 0, none⟩)), (5, .pointer (some ⟨g2, 0, none⟩)), (15, .slice A0 4 c0), (16, .pointer (some ⟨g2, 1, none⟩)), (20, .slice A0 4 c0), (22, .slice A n c)] (fun w => Strm 25 w B sb (m + 40 + 100 + 1000)) [(g1, 78, [.slice none 0 0, .slice none 0 0, .slice none 0 0, .int .i64 0, .int .i64 0]), (g2, 78, [.slice A0 4 c0, .slice A1 n1 c1, .slice A n c, .int .i64 0, .int .i64 0])] [⟨.slice A n c, 92, 6, n, l.flatMap bkEnc⟩, ⟨.slice A1 n1 c1, 211, 2, n1, sl.flatMap skEnc⟩, ⟨.slice A0 4 c0, 158, 2, 4, cs.flatMap csEnc⟩] [] := by
  skip
  rw [hW]
  refine wa1 3 rfl ?_
  refine lk_ sc75 1 rfl rfl rfl (wl_nil ?_)
  refine nw 14 495 (fun _ hm => ⟨hm.bl 0, trivial⟩) fun z => ?_
  refine wa1 4 rfl ?_
  refine wl_callv (v := .int .i64 SE) rfl cb58 rfl rfl (fun wx hm => (by rw [hSE]; exact stockFault_any cs A0 4 c0 sl A1 n1 c1 wx (SlT.ofOwn cs_len (hm.ownI 2 rfl) hc4) hco (by omega) (SlT.ofOwn sk_len (hm.ownI 1 rfl) hs1) hso (by omega))) ?_
  refine wl_nil ?_
  refine nw 14 511 (fun _ hm => ⟨hm.bl 0, trivial⟩) fun z => ?_
  refine wt 10 14 1535 rfl z (ov_field fo78_3 rfl rfl) ?_
  refine wa1 9 rfl ?_
  refine wl_callv (v := .int .i64 KE) rfl cb51 rfl rfl (fun wx hm => (by rw [hKE]; exact bookingsFault_any cs A0 4 c0 l A n c wx (SlT.ofOwn cs_len (hm.ownI 2 rfl) hc4) hco (by omega) (SlT.ofOwn bk_len (hm.ownI 0 rfl) hlen) hok (by omega))) ?_
  refine wl_nil ?_
  refine nw 14 2047 (fun _ hm => ⟨hm.bl 0, trivial⟩) fun z => ?_
  refine wa1 11 rfl ?_
  refine wl_store 1 sc33 rfl rfl rfl rfl rfl rfl ?_
  refine wl_nil ?_
  refine nw 14 4095 (fun _ hm => ⟨hm.bl 0, trivial⟩) fun z => ?_
  refine wt 12 14 8191 rfl z (ov_field fo78_4 rfl rfl) ?_
  refine wa1 13 rfl ?_
  refine wl_store 1 sc33 rfl rfl rfl rfl rfl rfl ?_
  refine wl_nil ?_
  refine nw 14 16383 (fun _ hm => ⟨hm.bl 0, trivial⟩) fun z => ?_
  refine wa_done (by kernel_rfl) ?_
  refine nx_then (sr_ ?_)
  refine wl_ov (ov_loads rz78 rfl (fun _ hm => hm.blkI 1 rfl) rfl rfl) rfl ?_
  refine wl_stores (cs' := [.slice A0 4 c0, .slice A1 n1 c1, .slice A n c, .int .i64 SE, .int .i64 KE]) 0 rz78 rfl rfl rfl rfl rfl rfl rfl rfl ?_
  refine nn_ ?_
  refine gw_ret ?_
  refine nx_retc 0 rfl rz78 rfl rfl rfl fun wx hm => ?_
  exact ⟨A0, c0, cs, A1, n1, c1, sl, A, n, c, l, by rw [← hSE, ← hKE], (SlT.ofOwn cs_len (hm.ownI 2 rfl) hc4), (SlT.ofOwn sk_len (hm.ownI 1 rfl) hs1), (SlT.ofOwn bk_len (hm.ownI 0 rfl) hlen), hco, hso, hok, hn5, hn9, hm.k.more (by omega), hm.g⟩
 have J231 : W 8 (lb 14 231) [(4, .pointer (some ⟨g1, 0, none⟩)), (5, .pointer (some ⟨g2, 0, none⟩)), (15, .slice A0 4 c0), (16, .pointer (some ⟨g2, 1, none⟩)), (20, .slice A0 4 c0), (21, .pointer (some ⟨g2, 2, none⟩))] (fun w => Strm 25 w B sb (m + 40 + 100 + 1000)) [(g1, 78, [.slice none 0 0, .slice none 0 0, .slice none 0 0, .int .i64 0, .int .i64 0]), (g2, 78, [.slice A0 4 c0, .slice A1 n1 c1, .slice A n c, .int .i64 0, .int .i64 0])] [⟨.slice A n c, 92, 6, n, l.flatMap bkEnc⟩, ⟨.slice A1 n1 c1, 211, 2, n1, sl.flatMap skEnc⟩, ⟨.slice A0 4 c0, 158, 2, 4, cs.flatMap csEnc⟩] [] := by
  skip
  rw [hW]
  refine wa_all [3, 8] (by kernel_rfl) rfl ⟨⟨_, rfl, ?_⟩, ⟨_, rfl, ?_⟩, trivial⟩
  ·refine lk_ sc75 1 rfl rfl rfl (wl_nil ?_)
   refine nw 14 239 (fun _ hm => ⟨hm.bl 0, trivial⟩) fun z => ?_
   have h := J239 
   rw [hW] at h
   refine wa_weak ?_ ?_ h
   ·exact ⟨rfl, rfl, rfl, rfl, rfl, rfl, trivial⟩
   exact fun _ hm => hm.pick [0, 1] [0, 1, 2] [] rfl rfl
  refine lk_ sc76 1 rfl rfl rfl (wl_nil ?_)
  refine nw 14 487 (fun _ hm => ⟨hm.bl 0, trivial⟩) fun z => ?_
  have h := T487 
  rw [hW] at h
  refine wa_weak ?_ ?_ h
  ·exact ⟨rfl, rfl, rfl, rfl, rfl, rfl, trivial⟩
  exact fun _ hm => hm.pick [0, 1] [0, 1, 2] [] rfl rfl
 have J423 : W 8 (lb 14 423) [(4, .pointer (some ⟨g1, 0, none⟩)), (5, .pointer (some ⟨g2, 0, none⟩)), (15, .slice A0 4 c0), (16, .pointer (some ⟨g2, 1, none⟩)), (19, .pointer (some ⟨g2, 0, none⟩)), (22, .slice A n c)] (fun w => Strm 25 w B sb (m + 40 + 100 + 1000)) [(g1, 78, [.slice none 0 0, .slice none 0 0, .slice none 0 0, .int .i64 0, .int .i64 0]), (g2, 78, [.slice A0 4 c0, .slice A1 n1 c1, .slice A n c, .int .i64 0, .int .i64 0])] [⟨.slice A n c, 92, 6, n, l.flatMap bkEnc⟩, ⟨.slice A1 n1 c1, 211, 2, n1, sl.flatMap skEnc⟩, ⟨.slice A0 4 c0, 158, 2, 4, cs.flatMap csEnc⟩] [] := by
  skip
  rw [hW]
  refine wa_all [3, 6] (by kernel_rfl) rfl ⟨⟨_, rfl, ?_⟩, ⟨_, rfl, ?_⟩, trivial⟩
  ·refine lk_ sc75 1 rfl rfl rfl (wl_nil ?_)
   refine nw 14 431 (fun _ hm => ⟨hm.bl 0, trivial⟩) fun z => ?_
   have h := J431 
   rw [hW] at h
   refine wa_weak ?_ ?_ h
   ·exact ⟨rfl, rfl, rfl, rfl, rfl, rfl, trivial⟩
   exact fun _ hm => hm.pick [0, 1] [0, 1, 2] [] rfl rfl
  refine lk_ sc58 1 rfl rfl rfl (wl_nil ?_)
  refine nw 14 487 (fun _ hm => ⟨hm.bl 0, trivial⟩) fun z => ?_
  have h := T487 
  rw [hW] at h
  refine wa_weak ?_ ?_ h
  ·exact ⟨rfl, rfl, rfl, rfl, rfl, rfl, trivial⟩
  exact fun _ hm => hm.pick [0, 1] [0, 1, 2] [] rfl rfl
 have J167 : W 9 (lb 14 167) [(4, .pointer (some ⟨g1, 0, none⟩)), (5, .pointer (some ⟨g2, 0, none⟩)), (15, .slice A0 4 c0), (16, .pointer (some ⟨g2, 1, none⟩)), (19, .pointer (some ⟨g2, 0, none⟩)), (21, .pointer (some ⟨g2, 2, none⟩))] (fun w => Strm 25 w B sb (m + 40 + 100 + 1000)) [(g1, 78, [.slice none 0 0, .slice none 0 0, .slice none 0 0, .int .i64 0, .int .i64 0]), (g2, 78, [.slice A0 4 c0, .slice A1 n1 c1, .slice A n c, .int .i64 0, .int .i64 0])] [⟨.slice A n c, 92, 6, n, l.flatMap bkEnc⟩, ⟨.slice A1 n1 c1, 211, 2, n1, sl.flatMap skEnc⟩, ⟨.slice A0 4 c0, 158, 2, 4, cs.flatMap csEnc⟩] [] := by
  skip
  rw [hW]
  refine wa_all [3, 6, 8] (by kernel_rfl) rfl ⟨⟨_, rfl, ?_⟩, ⟨_, rfl, ?_⟩, ⟨_, rfl, ?_⟩, trivial⟩
  ·refine lk_ sc75 1 rfl rfl rfl (wl_nil ?_)
   refine nw 14 175 (fun _ hm => ⟨hm.bl 0, trivial⟩) fun z => ?_
   have h := J175 
   rw [hW] at h
   refine wa_weak ?_ ?_ h
   ·exact ⟨rfl, rfl, rfl, rfl, rfl, rfl, trivial⟩
   exact fun _ hm => hm.pick [0, 1] [0, 1, 2] [] rfl rfl
  ·refine lk_ sc58 1 rfl rfl rfl (wl_nil ?_)
   refine nw 14 231 (fun _ hm => ⟨hm.bl 0, trivial⟩) fun z => ?_
   have h := J231 
   rw [hW] at h
   refine wa_weak ?_ ?_ h
   ·exact ⟨rfl, rfl, rfl, rfl, rfl, rfl, trivial⟩
   exact fun _ hm => hm.pick [0, 1] [0, 1, 2] [] rfl rfl
  refine lk_ sc76 1 rfl rfl rfl (wl_nil ?_)
  refine nw 14 423 (fun _ hm => ⟨hm.bl 0, trivial⟩) fun z => ?_
  have h := J423 
  rw [hW] at h
  refine wa_weak ?_ ?_ h
  ·exact ⟨rfl, rfl, rfl, rfl, rfl, rfl, trivial⟩
  exact fun _ hm => hm.pick [0, 1] [0, 1, 2] [] rfl rfl
 have T493 : W 7 (lb 14 493) [(4, .pointer (some ⟨g1, 0, none⟩)), (5, .pointer (some ⟨g2, 0, none⟩)), (14, .pointer (some ⟨g2, 0, none⟩)), (17, .slice A1 n1 c1), (20, .slice A0 4 c0), (22, .slice A n c)] (fun w => Strm 25 w B sb (m + 40 + 100 + 1000)) [(g1, 78, [.slice none 0 0, .slice none 0 0, .slice none 0 0, .int .i64 0, .int .i64 0]), (g2, 78, [.slice A0 4 c0, .slice A1 n1 c1, .slice A n c, .int .i64 0, .int .i64 0])] [⟨.slice A n c, 92, 6, n, l.flatMap bkEnc⟩, ⟨.slice A1 n1 c1, 211, 2, n1, sl.flatMap skEnc⟩, ⟨.slice A0 4 c0, 158, 2, 4, cs.flatMap csEnc⟩] [] := by
  skip
  rw [hW]
  refine wa1 1 rfl ?_
  refine lk_ sc58 1 rfl rfl rfl (wl_nil ?_)
  refine nw 14 495 (fun _ hm => ⟨hm.bl 0, trivial⟩) fun z => ?_
  refine wa1 4 rfl ?_
  refine wl_callv (v := .int .i64 SE) rfl cb58 rfl rfl (fun wx hm => (by rw [hSE]; exact stockFault_any cs A0 4 c0 sl A1 n1 c1 wx (SlT.ofOwn cs_len (hm.ownI 2 rfl) hc4) hco (by omega) (SlT.ofOwn sk_len (hm.ownI 1 rfl) hs1) hso (by omega))) ?_
  refine wl_nil ?_
  refine nw 14 511 (fun _ hm => ⟨hm.bl 0, trivial⟩) fun z => ?_
  refine wt 10 14 1535 rfl z (ov_field fo78_3 rfl rfl) ?_
  refine wa1 9 rfl ?_
  refine wl_callv (v := .int .i64 KE) rfl cb51 rfl rfl (fun wx hm => (by rw [hKE]; exact bookingsFault_any cs A0 4 c0 l A n c wx (SlT.ofOwn cs_len (hm.ownI 2 rfl) hc4) hco (by omega) (SlT.ofOwn bk_len (hm.ownI 0 rfl) hlen) hok (by omega))) ?_
  refine wl_nil ?_
  refine nw 14 2047 (fun _ hm => ⟨hm.bl 0, trivial⟩) fun z => ?_
  refine wa1 11 rfl ?_
  refine wl_store 1 sc33 rfl rfl rfl rfl rfl rfl ?_
  refine wl_nil ?_
  refine nw 14 4095 (fun _ hm => ⟨hm.bl 0, trivial⟩) fun z => ?_
  refine wt 12 14 8191 rfl z (ov_field fo78_4 rfl rfl) ?_
  refine wa1 13 rfl ?_
  refine wl_store 1 sc33 rfl rfl rfl rfl rfl rfl ?_
  refine wl_nil ?_
  refine nw 14 16383 (fun _ hm => ⟨hm.bl 0, trivial⟩) fun z => ?_
  refine wa_done (by kernel_rfl) ?_
  refine nx_then (sr_ ?_)
  refine wl_ov (ov_loads rz78 rfl (fun _ hm => hm.blkI 1 rfl) rfl rfl) rfl ?_
  refine wl_stores (cs' := [.slice A0 4 c0, .slice A1 n1 c1, .slice A n c, .int .i64 SE, .int .i64 KE]) 0 rz78 rfl rfl rfl rfl rfl rfl rfl rfl ?_
  refine nn_ ?_
  refine gw_ret ?_
  refine nx_retc 0 rfl rz78 rfl rfl rfl fun wx hm => ?_
  exact ⟨A0, c0, cs, A1, n1, c1, sl, A, n, c, l, by rw [← hSE, ← hKE], (SlT.ofOwn cs_len (hm.ownI 2 rfl) hc4), (SlT.ofOwn sk_len (hm.ownI 1 rfl) hs1), (SlT.ofOwn bk_len (hm.ownI 0 rfl) hlen), hco, hso, hok, hn5, hn9, hm.k.more (by omega), hm.g⟩
 have J237 : W 8 (lb 14 237) [(4, .pointer (some ⟨g1, 0, none⟩)), (5, .pointer (some ⟨g2, 0, none⟩)), (14, .pointer (some ⟨g2, 0, none⟩)), (17, .slice A1 n1 c1), (20, .slice A0 4 c0), (21, .pointer (some ⟨g2, 2, none⟩))] (fun w => Strm 25 w B sb (m + 40 + 100 + 1000)) [(g1, 78, [.slice none 0 0, .slice none 0 0, .slice none 0 0, .int .i64 0, .int .i64 0]), (g2, 78, [.slice A0 4 c0, .slice A1 n1 c1, .slice A n c, .int .i64 0, .int .i64 0])] [⟨.slice A n c, 92, 6, n, l.flatMap bkEnc⟩, ⟨.slice A1 n1 c1, 211, 2, n1, sl.flatMap skEnc⟩, ⟨.slice A0 4 c0, 158, 2, 4, cs.flatMap csEnc⟩] [] := by
  skip
  rw [hW]
  refine wa_all [1, 8] (by kernel_rfl) rfl ⟨⟨_, rfl, ?_⟩, ⟨_, rfl, ?_⟩, trivial⟩
  ·refine lk_ sc58 1 rfl rfl rfl (wl_nil ?_)
   refine nw 14 239 (fun _ hm => ⟨hm.bl 0, trivial⟩) fun z => ?_
   have h := J239 
   rw [hW] at h
   refine wa_weak ?_ ?_ h
   ·exact ⟨rfl, rfl, rfl, rfl, rfl, rfl, trivial⟩
   exact fun _ hm => hm.pick [0, 1] [0, 1, 2] [] rfl rfl
  refine lk_ sc76 1 rfl rfl rfl (wl_nil ?_)
  refine nw 14 493 (fun _ hm => ⟨hm.bl 0, trivial⟩) fun z => ?_
  have h := T493 
  rw [hW] at h
  refine wa_weak ?_ ?_ h
  ·exact ⟨rfl, rfl, rfl, rfl, rfl, rfl, trivial⟩
  exact fun _ hm => hm.pick [0, 1] [0, 1, 2] [] rfl rfl
 have J429 : W 8 (lb 14 429) [(4, .pointer (some ⟨g1, 0, none⟩)), (5, .pointer (some ⟨g2, 0, none⟩)), (14, .pointer (some ⟨g2, 0, none⟩)), (17, .slice A1 n1 c1), (19, .pointer (some ⟨g2, 0, none⟩)), (22, .slice A n c)] (fun w => Strm 25 w B sb (m + 40 + 100 + 1000)) [(g1, 78, [.slice none 0 0, .slice none 0 0, .slice none 0 0, .int .i64 0, .int .i64 0]), (g2, 78, [.slice A0 4 c0, .slice A1 n1 c1, .slice A n c, .int .i64 0, .int .i64 0])] [⟨.slice A n c, 92, 6, n, l.flatMap bkEnc⟩, ⟨.slice A1 n1 c1, 211, 2, n1, sl.flatMap skEnc⟩, ⟨.slice A0 4 c0, 158, 2, 4, cs.flatMap csEnc⟩] [] := by
  skip
  rw [hW]
  refine wa_all [1, 6] (by kernel_rfl) rfl ⟨⟨_, rfl, ?_⟩, ⟨_, rfl, ?_⟩, trivial⟩
  ·refine lk_ sc58 1 rfl rfl rfl (wl_nil ?_)
   refine nw 14 431 (fun _ hm => ⟨hm.bl 0, trivial⟩) fun z => ?_
   have h := J431 
   rw [hW] at h
   refine wa_weak ?_ ?_ h
   ·exact ⟨rfl, rfl, rfl, rfl, rfl, rfl, trivial⟩
   exact fun _ hm => hm.pick [0, 1] [0, 1, 2] [] rfl rfl
  refine lk_ sc58 1 rfl rfl rfl (wl_nil ?_)
  refine nw 14 493 (fun _ hm => ⟨hm.bl 0, trivial⟩) fun z => ?_
  have h := T493 
  rw [hW] at h
  refine wa_weak ?_ ?_ h
  ·exact ⟨rfl, rfl, rfl, rfl, rfl, rfl, trivial⟩
  exact fun _ hm => hm.pick [0, 1] [0, 1, 2] [] rfl rfl
 have J173 : W 9 (lb 14 173) [(4, .pointer (some ⟨g1, 0, none⟩)), (5, .pointer (some ⟨g2, 0, none⟩)), (14, .pointer (some ⟨g2, 0, none⟩)), (17, .slice A1 n1 c1), (19, .pointer (some ⟨g2, 0, none⟩)), (21, .pointer (some ⟨g2, 2, none⟩))] (fun w => Strm 25 w B sb (m + 40 + 100 + 1000)) [(g1, 78, [.slice none 0 0, .slice none 0 0, .slice none 0 0, .int .i64 0, .int .i64 0]), (g2, 78, [.slice A0 4 c0, .slice A1 n1 c1, .slice A n c, .int .i64 0, .int .i64 0])] [⟨.slice A n c, 92, 6, n, l.flatMap bkEnc⟩, ⟨.slice A1 n1 c1, 211, 2, n1, sl.flatMap skEnc⟩, ⟨.slice A0 4 c0, 158, 2, 4, cs.flatMap csEnc⟩] [] := by
  skip
  rw [hW]
  refine wa_all [1, 6, 8] (by kernel_rfl) rfl ⟨⟨_, rfl, ?_⟩, ⟨_, rfl, ?_⟩, ⟨_, rfl, ?_⟩, trivial⟩
  ·refine lk_ sc58 1 rfl rfl rfl (wl_nil ?_)
   refine nw 14 175 (fun _ hm => ⟨hm.bl 0, trivial⟩) fun z => ?_
   have h := J175 
   rw [hW] at h
   refine wa_weak ?_ ?_ h
   ·exact ⟨rfl, rfl, rfl, rfl, rfl, rfl, trivial⟩
   exact fun _ hm => hm.pick [0, 1] [0, 1, 2] [] rfl rfl
  ·refine lk_ sc58 1 rfl rfl rfl (wl_nil ?_)
   refine nw 14 237 (fun _ hm => ⟨hm.bl 0, trivial⟩) fun z => ?_
   have h := J237 
   rw [hW] at h
   refine wa_weak ?_ ?_ h
   ·exact ⟨rfl, rfl, rfl, rfl, rfl, rfl, trivial⟩
   exact fun _ hm => hm.pick [0, 1] [0, 1, 2] [] rfl rfl
  refine lk_ sc76 1 rfl rfl rfl (wl_nil ?_)
  refine nw 14 429 (fun _ hm => ⟨hm.bl 0, trivial⟩) fun z => ?_
  have h := J429 
  rw [hW] at h
  refine wa_weak ?_ ?_ h
  ·exact ⟨rfl, rfl, rfl, rfl, rfl, rfl, trivial⟩
  exact fun _ hm => hm.pick [0, 1] [0, 1, 2] [] rfl rfl
 have J485 : W 8 (lb 14 485) [(4, .pointer (some ⟨g1, 0, none⟩)), (5, .pointer (some ⟨g2, 0, none⟩)), (14, .pointer (some ⟨g2, 0, none⟩)), (16, .pointer (some ⟨g2, 1, none⟩)), (20, .slice A0 4 c0), (22, .slice A n c)] (fun w => Strm 25 w B sb (m + 40 + 100 + 1000)) [(g1, 78, [.slice none 0 0, .slice none 0 0, .slice none 0 0, .int .i64 0, .int .i64 0]), (g2, 78, [.slice A0 4 c0, .slice A1 n1 c1, .slice A n c, .int .i64 0, .int .i64 0])] [⟨.slice A n c, 92, 6, n, l.flatMap bkEnc⟩, ⟨.slice A1 n1 c1, 211, 2, n1, sl.flatMap skEnc⟩, ⟨.slice A0 4 c0, 158, 2, 4, cs.flatMap csEnc⟩] [] := by
  skip
  rw [hW]
  refine wa_all [1, 3] (by kernel_rfl) rfl ⟨⟨_, rfl, ?_⟩, ⟨_, rfl, ?_⟩, trivial⟩
  ·refine lk_ sc58 1 rfl rfl rfl (wl_nil ?_)
   refine nw 14 487 (fun _ hm => ⟨hm.bl 0, trivial⟩) fun z => ?_
   have h := T487 
   rw [hW] at h
   refine wa_weak ?_ ?_ h
   ·exact ⟨rfl, rfl, rfl, rfl, rfl, rfl, trivial⟩
   exact fun _ hm => hm.pick [0, 1] [0, 1, 2] [] rfl rfl
  refine lk_ sc75 1 rfl rfl rfl (wl_nil ?_)
  refine nw 14 493 (fun _ hm => ⟨hm.bl 0, trivial⟩) fun z => ?_
  have h := T493 
  rw [hW] at h
  refine wa_weak ?_ ?_ h
  ·exact ⟨rfl, rfl, rfl, rfl, rfl, rfl, trivial⟩
  exact fun _ hm => hm.pick [0, 1] [0, 1, 2] [] rfl rfl
 have J229 : W 9 (lb 14 229) [(4, .pointer (some ⟨g1, 0, none⟩)), (5, .pointer (some ⟨g2, 0, none⟩)), (14, .pointer (some ⟨g2, 0, none⟩)), (16, .pointer (some ⟨g2, 1, none⟩)), (20, .slice A0 4 c0), (21, .pointer (some ⟨g2, 2, none⟩))] (fun w => Strm 25 w B sb (m + 40 + 100 + 1000)) [(g1, 78, [.slice none 0 0, .slice none 0 0, .slice none 0 0, .int .i64 0, .int .i64 0]), (g2, 78, [.slice A0 4 c0, .slice A1 n1 c1, .slice A n c, .int .i64 0, .int .i64 0])] [⟨.slice A n c, 92, 6, n, l.flatMap bkEnc⟩, ⟨.slice A1 n1 c1, 211, 2, n1, sl.flatMap skEnc⟩, ⟨.slice A0 4 c0, 158, 2, 4, cs.flatMap csEnc⟩] [] := by
  skip
  rw [hW]
  refine wa_all [1, 3, 8] (by kernel_rfl) rfl ⟨⟨_, rfl, ?_⟩, ⟨_, rfl, ?_⟩, ⟨_, rfl, ?_⟩, trivial⟩
  ·refine lk_ sc58 1 rfl rfl rfl (wl_nil ?_)
   refine nw 14 231 (fun _ hm => ⟨hm.bl 0, trivial⟩) fun z => ?_
   have h := J231 
   rw [hW] at h
   refine wa_weak ?_ ?_ h
   ·exact ⟨rfl, rfl, rfl, rfl, rfl, rfl, trivial⟩
   exact fun _ hm => hm.pick [0, 1] [0, 1, 2] [] rfl rfl
  ·refine lk_ sc75 1 rfl rfl rfl (wl_nil ?_)
   refine nw 14 237 (fun _ hm => ⟨hm.bl 0, trivial⟩) fun z => ?_
   have h := J237 
   rw [hW] at h
   refine wa_weak ?_ ?_ h
   ·exact ⟨rfl, rfl, rfl, rfl, rfl, rfl, trivial⟩
   exact fun _ hm => hm.pick [0, 1] [0, 1, 2] [] rfl rfl
  refine lk_ sc76 1 rfl rfl rfl (wl_nil ?_)
  refine nw 14 485 (fun _ hm => ⟨hm.bl 0, trivial⟩) fun z => ?_
  have h := J485 
  rw [hW] at h
  refine wa_weak ?_ ?_ h
  ·exact ⟨rfl, rfl, rfl, rfl, rfl, rfl, trivial⟩
  exact fun _ hm => hm.pick [0, 1] [0, 1, 2] [] rfl rfl
 have J421 : W 9 (lb 14 421) [(4, .pointer (some ⟨g1, 0, none⟩)), (5, .pointer (some ⟨g2, 0, none⟩)), (14, .pointer (some ⟨g2, 0, none⟩)), (16, .pointer (some ⟨g2, 1, none⟩)), (19, .pointer (some ⟨g2, 0, none⟩)), (22, .slice A n c)] (fun w => Strm 25 w B sb (m + 40 + 100 + 1000)) [(g1, 78, [.slice none 0 0, .slice none 0 0, .slice none 0 0, .int .i64 0, .int .i64 0]), (g2, 78, [.slice A0 4 c0, .slice A1 n1 c1, .slice A n c, .int .i64 0, .int .i64 0])] [⟨.slice A n c, 92, 6, n, l.flatMap bkEnc⟩, ⟨.slice A1 n1 c1, 211, 2, n1, sl.flatMap skEnc⟩, ⟨.slice A0 4 c0, 158, 2, 4, cs.flatMap csEnc⟩] [] := by
  skip
  rw [hW]
  refine wa_all [1, 3, 6] (by kernel_rfl) rfl ⟨⟨_, rfl, ?_⟩, ⟨_, rfl, ?_⟩, ⟨_, rfl, ?_⟩, trivial⟩
  ·refine lk_ sc58 1 rfl rfl rfl (wl_nil ?_)
   refine nw 14 423 (fun _ hm => ⟨hm.bl 0, trivial⟩) fun z => ?_
   have h := J423 
   rw [hW] at h
   refine wa_weak ?_ ?_ h
   ·exact ⟨rfl, rfl, rfl, rfl, rfl, rfl, trivial⟩
   exact fun _ hm => hm.pick [0, 1] [0, 1, 2] [] rfl rfl
  ·refine lk_ sc75 1 rfl rfl rfl (wl_nil ?_)
   refine nw 14 429 (fun _ hm => ⟨hm.bl 0, trivial⟩) fun z => ?_
   have h := J429 
   rw [hW] at h
   refine wa_weak ?_ ?_ h
   ·exact ⟨rfl, rfl, rfl, rfl, rfl, rfl, trivial⟩
   exact fun _ hm => hm.pick [0, 1] [0, 1, 2] [] rfl rfl
  refine lk_ sc58 1 rfl rfl rfl (wl_nil ?_)
  refine nw 14 485 (fun _ hm => ⟨hm.bl 0, trivial⟩) fun z => ?_
  have h := J485 
  rw [hW] at h
  refine wa_weak ?_ ?_ h
  ·exact ⟨rfl, rfl, rfl, rfl, rfl, rfl, trivial⟩
  exact fun _ hm => hm.pick [0, 1] [0, 1, 2] [] rfl rfl
 have J165 : W 10 (lb 14 165) [(4, .pointer (some ⟨g1, 0, none⟩)), (5, .pointer (some ⟨g2, 0, none⟩)), (14, .pointer (some ⟨g2, 0, none⟩)), (16, .pointer (some ⟨g2, 1, none⟩)), (19, .pointer (some ⟨g2, 0, none⟩)), (21, .pointer (some ⟨g2, 2, none⟩))] (fun w => Strm 25 w B sb (m + 40 + 100 + 1000)) [(g1, 78, [.slice none 0 0, .slice none 0 0, .slice none 0 0, .int .i64 0, .int .i64 0]), (g2, 78, [.slice A0 4 c0, .slice A1 n1 c1, .slice A n c, .int .i64 0, .int .i64 0])] [⟨.slice A n c, 92, 6, n, l.flatMap bkEnc⟩, ⟨.slice A1 n1 c1, 211, 2, n1, sl.flatMap skEnc⟩, ⟨.slice A0 4 c0, 158, 2, 4, cs.flatMap csEnc⟩] [] := by
  skip
  rw [hW]
  refine wa_all [1, 3, 6, 8] (by kernel_rfl) rfl ⟨⟨_, rfl, ?_⟩, ⟨_, rfl, ?_⟩, ⟨_, rfl, ?_⟩, ⟨_, rfl, ?_⟩, trivial⟩
  ·refine lk_ sc58 1 rfl rfl rfl (wl_nil ?_)
   refine nw 14 167 (fun _ hm => ⟨hm.bl 0, trivial⟩) fun z => ?_
   have h := J167 
   rw [hW] at h
   refine wa_weak ?_ ?_ h
   ·exact ⟨rfl, rfl, rfl, rfl, rfl, rfl, trivial⟩
   exact fun _ hm => hm.pick [0, 1] [0, 1, 2] [] rfl rfl
  ·refine lk_ sc75 1 rfl rfl rfl (wl_nil ?_)
   refine nw 14 173 (fun _ hm => ⟨hm.bl 0, trivial⟩) fun z => ?_
   have h := J173 
   rw [hW] at h
   refine wa_weak ?_ ?_ h
   ·exact ⟨rfl, rfl, rfl, rfl, rfl, rfl, trivial⟩
   exact fun _ hm => hm.pick [0, 1] [0, 1, 2] [] rfl rfl
  ·refine lk_ sc58 1 rfl rfl rfl (wl_nil ?_)
   refine nw 14 229 (fun _ hm => ⟨hm.bl 0, trivial⟩) fun z => ?_
   have h := J229 
   rw [hW] at h
   refine wa_weak ?_ ?_ h
   ·exact ⟨rfl, rfl, rfl, rfl, rfl, rfl, trivial⟩
   exact fun _ hm => hm.pick [0, 1] [0, 1, 2] [] rfl rfl
  refine lk_ sc76 1 rfl rfl rfl (wl_nil ?_)
  refine nw 14 421 (fun _ hm => ⟨hm.bl 0, trivial⟩) fun z => ?_
  have h := J421 
  rw [hW] at h
  refine wa_weak ?_ ?_ h
  ·exact ⟨rfl, rfl, rfl, rfl, rfl, rfl, trivial⟩
  exact fun _ hm => hm.pick [0, 1] [0, 1, 2] [] rfl rfl
 rw [hW]
 have h := J165 
 rw [hW] at h
 refine wa_weak ?_ ?_ h
 ·exact ⟨rfl, rfl, rfl, rfl, rfl, rfl, trivial⟩
 exact fun _ hm => hm.pick [1, 0] [0, 1, 2] [] rfl rfl
theorem call_any (A0 A1 A : Option Addr) (n0 c0 n1 c1 n c : Nat) (x y : Int) (w : World) :
  Calls Tryz.prog 37 #[.agg #[.slice A0 n0 c0, .slice A1 n1 c1, .slice A n c, .int .i64 x, .int .i64 y]] w (GotE w (firstE [x, y])) := by
 refine gw_enter ⟨9, w, none, []⟩ Tryz.func37 rfl Tryz.ntmps37 rfl (mem0 (X := []) allF_nil allL_nil) ?_
 refine sr_ ?_
 refine wl_box rfl rfl rfl fun g1 => ?_
 refine sg_ rfl (nn_ (sr_ (fd_ fo78_3 rfl rfl (lk_ sc33 0 rfl rfl rfl (fd_ fo78_4 rfl rfl (lk_ sc33 0 rfl rfl rfl ?_))))))
 refine wl_buildSlice (e := 33) (cs := [.int .i64 x, .int .i64 y]) rfl (by kernel_rfl) rfl fun g2 => ?_
 refine wl_callw rfl cb36 rfl rfl (fun wx hm => (errs_any [x, y] _ _ _ wx (hm.blkI 0 rfl) (by simp))) ?_
 refine sg_ rfl (nn_ ?_)
 refine gw_ret ?_
 refine nx_ret1 rfl rfl fun wx hm => ?_
 exact ⟨rfl, hm.g⟩
end Go.Proofs.YtempjmpfdniecaaGreatDoor
namespace Go.Proofs.YtempjmpfdniecaaGreatDoor
open Go.RowKit
set_option maxRecDepth 100000 in
theorem same_gvn_neq (x0 : ByteArray) (x1 : ByteArray) (x2 : Int) (w : World) : (binOp .neq 90 (.agg #[.string x0, .string x1, .int .i64 x2]) (.agg #[.string x0, .string x1, .int .i64 x2])).run Tryz.prog w = .ok (.bool false) w := by
  have hS : Tryz.prog.underlying 90 = some (.struct (Tryz.prog.fieldsOf 90)) := by kernel_rfl
  have hp : Tryz.prog.stoodInHeld 90 = false := by kernel_rfl
  rw [run_neq_struct, show (10000 : Nat) = 9999 + 1 from rfl, run_equalIn_agg w 9999 90 _ _ hS hp]
  simp only [Program.fieldsOf, Tryz.underlying90]
  have u3 := Tryz.underlying3
  have u9 := Tryz.underlying9
  clear hS hp
  go_simp
theorem guard_gvn : Tryz.prog.eqGuardType Tryz.prog.depth 90 = false := by kernel_rfl
theorem equal_gv (l : List Gv) (A1 A2 : Option Addr) (n c1 c2 : Nat) (w : World) (h1 : SlT gvEnc 3 90 w A1 n l) (h2 : SlT gvEnc 3 90 w A2 n l) (hn : n ≤ 1000000) :
  Calls Tryz.prog 40 #[.slice A1 n c1, .slice A2 n c2] w (fun e w' => e = .returned (.bool true) ∧ w.grownBy w' none) := by
 refine gw_enter ⟨26, w, none, []⟩ Tryz.func40 rfl Tryz.ntmps40 rfl (mem0 (X := [SlOld gvEnc 3 90 w.heap.size none A1 n l, SlOld gvEnc 3 90 w.heap.size none A2 n l]) (allF_cons h1.old (allF_cons h2.old allF_nil)) (allL_cons SlOld.lasts (allL_cons SlOld.lasts allL_nil))) ?_
 refine sr_ ?_
 have hlen := h1.len
 refine sg_ rfl (nn_ (gw_seq (sr_ (mv_ rfl (wl_ov (ov_len es80 rfl) rfl (mv_ rfl (wl_ov (ov_len es80 rfl) rfl (wl_ov (ov_neq rfl rfl) rfl ?_))))))))
 refine wl_set 10 (v' := .bool false) rfl (congrArg Value.bool (by simp)) ?_
 refine nn_ (cf_ rfl (gw_skip (nx_then (gw_seq (sr_ (mv_ rfl (wl_ov (ov_len es80 rfl) rfl (mv_ rfl (nn_ (gw_block ?_))))))))))
 refine gw_loop (γ := Nat) (fun (k : Nat) => k ≤ n) (fun (k : Nat) => [(0, .slice A1 n c1), (1, .slice A2 n c2), (12, .int .i64 ((n : Nat) : Int)), (13, .int .i64 ((k : Nat) : Int))]) (fun (k : Nat) => fun _ => True) (fun (k : Nat) => []) (fun (k : Nat) => []) (fun (k : Nat) => [SlOld gvEnc 3 90 w.heap.size none A1 n l, SlOld gvEnc 3 90 w.heap.size none A2 n l]) (fun (k : Nat) => n - k) 0 (Nat.zero_le _) ⟨rfl, rfl, rfl, rfl, trivial⟩ (fun _ hm => hm.pick [] [] [0, 1] rfl rfl) ?_
 intro k hinv
 replace hinv : k ≤ n := hinv
 refine sr_ (wl_ov (ov_lss rfl rfl) rfl (nn_ (gw_seq ?_)))
 refine gw_cond rfl (fun hh => ?_) (fun hh => ?_)
 ·have hk : ((k : Nat) : Int) < ((n : Nat) : Int) := by simpa using hh
  clear hh
  refine gw_skip (nx_then (gw_seq (gw_block (sr_ ?_))))
  obtain ⟨b1, o1, hA, _, _⟩ := h1.get (by omega)
  subst hA
  obtain ⟨b2, o2, hA, _, _⟩ := h2.get (by omega)
  subst hA
  obtain ⟨x, hx⟩ : ∃ x, l[k]? = some x := ⟨_, List.getElem?_eq_getElem (by omega)⟩
  obtain ⟨r0, r1, r2⟩ := x
  refine mv_ rfl (sg_ rfl (nn_ (gw_seq ?_)))
  refine gd (fun wz => (SlOld gvEnc 3 90 w.heap.size none (some ⟨b1, o1, none⟩) n l) wz ∧ (SlOld gvEnc 3 90 w.heap.size none (some ⟨b2, o2, none⟩) n l) wz ∧ True) mixed (fun _ hm => ⟨hm.fa 0, hm.fa 1, trivial⟩) fun z => ?_
  refine wt 0 9 1 rfl z (ov_move rfl) ?_
  refine wt 1 9 3 rfl z (ov_move rfl) ?_
  refine wt 2 9 7 rfl z (ov_index (j := k) es80 rfl rfl (by omega)) ?_
  refine wt 3 9 15 rfl z (ov_elem (vs := [.string r0, .string r1, .int .i64 r2]) rz90 rfl (fun _ hm => (hm.1).1) hx rfl rfl) ?_
  refine wt 4 9 31 rfl z (ov_move rfl) ?_
  refine wt 5 9 63 rfl z (ov_move rfl) ?_
  refine wt 6 9 127 rfl z (ov_index (j := k) es80 rfl rfl (by omega)) ?_
  refine wt 7 9 255 rfl z (ov_elem (vs := [.string r0, .string r1, .int .i64 r2]) rz90 rfl (fun _ hm => (hm.2.1).1) hx rfl rfl) ?_
  refine wt 8 9 511 rfl z (ov_bin rfl rfl (cmp_agg guard_gvn (fun wx => same_gvn_neq r0 r1 r2 wx))) ?_
  refine wa_done (by kernel_rfl) ?_
  refine nx_then (cf_ rfl (gw_skip (nx_blk_nrm (nx_then (gw_region (ad_ rfl rfl (mv_ rfl (wl_nil ?_))))))))
  exact nx_round (k + 1) (by omega) (by omega) ⟨rfl, rfl, rfl, (some_int (by omega)), trivial⟩ (fun _ hm => hm.pick [] [] [0, 1] rfl rfl)
 have hk : ¬ (((k : Nat) : Int) < ((n : Nat) : Int)) := by simpa using hh
 clear hh
 refine gw_exit ?_
 refine nx_then_exit (nx_then_exit ?_)
 refine nx_blk_here ?_
 refine nx_then (sr_ (sg_ rfl (nn_ ?_)))
 refine gw_ret ?_
 refine nx_ret1 rfl rfl fun wx hm => ?_
 exact ⟨rfl, hm.g⟩
theorem assignsLeast_walk (a0 : Option Addr) (len0 cap0 : Nat) (z0 : List Int) (w : World) (hR : RowIn w a0 len0 cap0 z0) :
  Calls Tryz.prog 5 #[.slice a0 len0 cap0] w fun e w' => e = .returned (.bool true) ∧ Below w.heap.size w w' := by
 refine gw_enter ⟨65, w, none, []⟩ Tryz.func5 rfl Tryz.ntmps5 rfl (mem0 (X := []) allF_nil allL_nil) ?_
 refine sr_ (sg_ rfl (nn_ (sr_ (mv_ rfl ?_))))
 refine wl_ov (ov_build (cs := [.slice a0 len0 cap0, .int .i64 0]) rfl (by kernel_rfl)) rfl ?_
 refine wl_box rfl rfl rfl fun sb => ?_
 refine sg_ rfl (nn_ ?_)
 refine gw_law [158, 211, 92] hR 0 rfl fun w1 B hg1 hsb => ?_
 refine sr_ (mv_ rfl (mv_ rfl ?_))
 refine wl_buildSlice (e := 3) (cs := [.int .i64 0, .int .i64 2, .int .i64 3, .int .i64 4, .int .i64 5, .int .i64 6, .int .i64 8]) rfl (by kernel_rfl) rfl fun g1 => ?_
 refine wl_got (γ := Int) (val := fun v => .int .i64 v) (φ := fun v => v ∈ ([0, 2, 3, 4, 5, 6, 8] : List Int)) rfl cb11 rfl rfl rfl rfl (fun wx hm => (pick_any [0, 2, 3, 4, 5, 6, 8] _ _ _ wx B sb _ hm.k (by omega) (by simp) (by simp) (hm.blkI 0 rfl) (hm.neRow 0 rfl rfl))) fun pk hpk => ?_
 have bpk : 0 ≤ pk ∧ pk ≤ 8 := mem_rng hpk (by decide)
 have bpk0 := bpk.1
 have bpk1 := bpk.2
 clear bpk
 obtain ⟨q, rfl⟩ := Int.eq_ofNat_of_zero_le (show 0 ≤ pk by omega)
 have hq9 : q ≤ 9 := by omega
 refine wl_calls (γ := Option Addr × Nat × List Cs × Option Addr × Nat × Nat × List Sk × Option Addr × Nat × Nat × List Bk) (val := (fun g => .agg #[.slice g.1 4 g.2.1, .slice g.2.2.2.1 g.2.2.2.2.1 g.2.2.2.2.2.1, .slice g.2.2.2.2.2.2.2.1 g.2.2.2.2.2.2.2.2.1 g.2.2.2.2.2.2.2.2.2.1, .int .i64 (stockE g.2.2.1 g.2.2.2.2.2.2.1), .int .i64 (checkE g.2.2.1 g.2.2.2.2.2.2.2.2.2.2)])) (φ := (fun g => (∀ x ∈ g.2.2.1, CsOk x) ∧ (∀ x ∈ g.2.2.2.2.2.2.1, SkOk x) ∧ (∀ x ∈ g.2.2.2.2.2.2.2.2.2.2, BkOk x) ∧ g.2.2.2.2.1 ≤ 5 ∧ g.2.2.2.2.2.2.2.2.1 ≤ 9)) (Y := (fun g => fun wy => SlT csEnc 2 158 wy g.1 4 g.2.2.1 ∧ SlT skEnc 2 211 wy g.2.2.2.1 g.2.2.2.2.1 g.2.2.2.2.2.2.1 ∧ SlT bkEnc 6 92 wy g.2.2.2.2.2.2.2.1 g.2.2.2.2.2.2.2.2.1 g.2.2.2.2.2.2.2.2.2.2)) (m' := 0 + 1 + 2000) rfl cb34 rfl rfl rfl rfl (fun wx hm => (counterOf_any q wx B sb _ hm.k (by omega) hq9).mono fun _ _ ⟨A0, c0, cs, A1, n1, c1, sl, A, n, c, l, he, h0, h1, h2, hco, hso, hok, hn1, hn, hS, hg⟩ => ⟨(A0, c0, cs, A1, n1, c1, sl, A, n, c, l), he, ⟨hco, hso, hok, hn1, hn⟩, hS, hg, ⟨h0, h1, h2⟩⟩) (fun _ => (SlT.lasts2 rfl).and_ ((SlT.lasts2 rfl).and_ (SlT.lasts2 rfl))) ?_
 rintro ⟨A0, c0, cs, A1, n1, c1, sl, A, n, c, l⟩ hH
 dsimp only at hH ⊢
 obtain ⟨hco, hso, hok, hn5, hn9⟩ := hH
 refine wl_alloc zc78 rfl fun g2 => ?_
 refine wl_stores (cs' := [.slice A0 4 c0, .slice A1 n1 c1, .slice A n c, .int .i64 (stockE cs sl), .int .i64 (checkE cs l)]) 0 rz78 rfl rfl rfl rfl rfl rfl rfl rfl ?_
 refine nn_ (sr_ (fd_ fo78_0 rfl rfl (lk_ sc58 0 rfl rfl rfl (fd_ fo78_1 rfl rfl (lk_ sc75 0 rfl rfl rfl (fd_ fo78_2 rfl rfl (lk_ sc76 0 rfl rfl rfl ?_)))))))
 refine wl_nest none [90] fun w2 hm_w2 => ⟨_, _, _, _, mem0 (X := [BlkOld w2.heap.size none g2 78 [.slice A0 4 c0, .slice A1 n1 c1, .slice A n c, .int .i64 (stockE cs sl), .int .i64 (checkE cs l)], BlkOld w2.heap.size none g1 3 [.int .i64 0, .int .i64 2, .int .i64 3, .int .i64 4, .int .i64 5, .int .i64 6, .int .i64 8], SlOld csEnc 2 158 w2.heap.size none A0 4 cs, SlOld skEnc 2 211 w2.heap.size none A1 n1 sl, SlOld bkEnc 6 92 w2.heap.size none A n l]) (allF_cons (hm_w2.blkI 0 rfl).old (allF_cons (hm_w2.blkI 1 rfl).old (allF_cons (SlT.old (hm_w2.fact 0 rfl).1) (allF_cons (SlT.old (hm_w2.fact 0 rfl).2.1) (allF_cons (SlT.old (hm_w2.fact 0 rfl).2.2) allF_nil))))) (allL_cons BlkOld.lasts (allL_cons BlkOld.lasts (allL_cons SlOld.lasts (allL_cons SlOld.lasts (allL_cons SlOld.lasts allL_nil))))), ?_⟩
 refine wl_look (R := l.length = n ∧ cs.length = 4) (fun wx hm => ⟨(hm.fact 4 rfl).1.len, (hm.fact 2 rfl).1.len⟩) ?_
 rintro ⟨hlen, hlen0⟩
 have hEE : asE cs sl l = firstE [firstE [stockE cs sl, checkE cs l], whenE (decide (7 < ((n : Nat) : Int))) 2] := by rw [← hlen]; rfl
 by_cases h0 : asE cs sl l = 0
 ·obtain ⟨hr1, hr7⟩ := asE_ok h0
  obtain ⟨⟨h30, hcl, hlo⟩, hmany, hkeys, htm, _⟩ := right_has hr1
  rcases hao : asgO cs sl l with _ | o
  ·refine wl_callv rfl cb35 rfl rfl (fun wx hm => ((assignA_right cs A0 4 c0 sl A1 n1 c1 l A n c wx (hm.fact 2 rfl).1 hco (by omega) (hm.fact 3 rfl).1 hso (by omega) (hm.fact 4 rfl).1 hok (by omega) h0).mono fun _ _ ⟨h, hg⟩ => by
    rcases h with ⟨_, he⟩ | ⟨o, A2, c2, h2, _⟩
    ·exact ⟨he, hg⟩
    rw [hao] at h2; cases h2)) ?_
   refine mv_ rfl (wl_ov (ov_extract rfl rfl) rfl (wl_ov (ov_extract rfl rfl) rfl (sg_ rfl (sg_ rfl (nn_ (gw_seq ?_))))))
   refine gd (fun wz => (BlkOld w2.heap.size none g2 78 [.slice A0 4 c0, .slice A1 n1 c1, .slice A n c, .int .i64 (stockE cs sl), .int .i64 (checkE cs l)]) wz ∧ (BlkOld w2.heap.size none g1 3 [.int .i64 0, .int .i64 2, .int .i64 3, .int .i64 4, .int .i64 5, .int .i64 6, .int .i64 8]) wz ∧ (SlOld csEnc 2 158 w2.heap.size none A0 4 cs) wz ∧ (SlOld skEnc 2 211 w2.heap.size none A1 n1 sl) wz ∧ (SlOld bkEnc 6 92 w2.heap.size none A n l) wz ∧ True) mixed (fun _ hm => ⟨hm.fa 0, hm.fa 1, hm.fa 2, hm.fa 3, hm.fa 4, trivial⟩) fun z => ?_
   refine wt 0 10 1 rfl z (ov_loads (vs := [.slice A0 4 c0, .slice A1 n1 c1, .slice A n c, .int .i64 (stockE cs sl), .int .i64 (checkE cs l)]) rz78 rfl (fun _ hm => (hm.1).2) rfl rfl) ?_
   refine wt 2 10 5 rfl z (ov_field fo78_2 rfl rfl) ?_
   refine wt 3 10 13 rfl z (ov_load (v := .slice A n c) sc76 rfl (fun _ hm => (hm.1).2) rfl) ?_
   refine wt 4 10 29 rfl z (ov_len es76 rfl) ?_
   refine wt 5 10 61 rfl z (ov_gtr rfl rfl) ?_
   refine wa1 1 rfl ?_
   refine wl_callv rfl cb37 rfl rfl (fun wx hm => (call_any _ _ _ _ _ _ _ _ _ _ _ wx)) ?_
   refine wl_nil ?_
   refine nw 10 63 (fun _ hm => ⟨hm.fa 0, hm.fa 1, hm.fa 2, hm.fa 3, hm.fa 4, trivial⟩) fun z => ?_
   refine wa1 6 rfl ?_
   refine wl_callw rfl cb38 rfl rfl (fun wx hm => (rwhen_any _ _ wx)) ?_
   refine wl_nil ?_
   refine nw 10 127 (fun _ hm => ⟨hm.fa 0, hm.fa 1, hm.fa 2, hm.fa 3, hm.fa 4, trivial⟩) fun z => ?_
   refine wa1 7 rfl ?_
   refine wl_buildSlice (e := 33) (cs := [.int .i64 (firstE [stockE cs sl, checkE cs l]), .int .i64 (whenE (decide (7 < ((n : Nat) : Int))) 2)]) rfl (by kernel_rfl) rfl fun g3 => ?_
   refine wl_nil ?_
   refine nw 10 255 (fun _ hm => ⟨hm.fa 0, hm.fa 1, hm.fa 2, hm.fa 3, hm.fa 4, trivial⟩) fun z => ?_
   refine wa1 8 rfl ?_
   refine wl_callw rfl cb36 rfl rfl (fun wx hm => (errs_any [firstE [stockE cs sl, checkE cs l], whenE (decide (7 < ((n : Nat) : Int))) 2] _ _ _ wx (hm.blkI 0 rfl) (by simp))) ?_
   refine wl_nil ?_
   refine nw 10 511 (fun _ hm => ⟨hm.fa 0, hm.fa 1, hm.fa 2, hm.fa 3, hm.fa 4, trivial⟩) fun z => ?_
   refine wt 9 10 1023 rfl z (ov_assign rfl) ?_
   refine wa_done (by kernel_rfl) ?_
   refine nx_then (sr_ (sg_ rfl (nn_ (gw_seq (sr_ (mv_ rfl (wl_ov (ov_eql rfl rfl) rfl ?_)))))))
   refine wl_set 39 (v' := .bool true) rfl (congrArg Value.bool (by rw [← hEE, h0]; rfl)) ?_
   refine nn_ (ct_ rfl (sr_ (fd_ fo78_0 rfl rfl ?_)))
   refine wl_ov (ov_load (v := .slice A0 4 c0) sc58 rfl (fun _ hm => (hm.fact 0 rfl).2) rfl) rfl ?_
   refine fd_ fo78_1 rfl rfl ?_
   refine wl_ov (ov_load (v := .slice A1 n1 c1) sc75 rfl (fun _ hm => (hm.fact 0 rfl).2) rfl) rfl ?_
   refine fd_ fo78_2 rfl rfl ?_
   refine wl_ov (ov_load (v := .slice A n c) sc76 rfl (fun _ hm => (hm.fact 0 rfl).2) rfl) rfl ?_
   refine wl_callv rfl cb39 rfl rfl (fun wx hm => ((assignOf_any cs A0 4 c0 sl A1 n1 c1 l A n c wx (hm.fact 2 rfl).1 hco (by omega) hcl hlo (hm.fact 3 rfl).1 hso (by omega) hmany (hm.fact 4 rfl).1 (keys_ix hkeys) htm (by omega)).mono fun _ _ ⟨h, hg⟩ => by
    rcases h with ⟨_, he⟩ | ⟨o, A2, c2, h2, _⟩
    ·exact ⟨he, hg⟩
    rw [hao] at h2; cases h2)) ?_
   refine mv_ rfl (wl_ov (ov_extract rfl rfl) rfl (wl_ov (ov_extract rfl rfl) rfl (sg_ rfl (sg_ rfl (nn_ (gw_region (mv_ rfl (mv_ rfl (wl_ov (ov_un_not rfl) rfl ?_)))))))))
   refine wl_set 52 (v' := .bool true) rfl (congrArg Value.bool (by decide)) ?_
   refine wl_callw rfl cb38 rfl rfl (fun wx hm => (rwhen_any _ _ wx)) ?_
   refine sg_ rfl (sg_ rfl (nn_ (sr_ (mv_ rfl (mv_ rfl (wl_ov (ov_eql rfl rfl) rfl ?_))))))
   refine wl_set 56 (v' := .bool true) rfl (congrArg Value.bool (by rfl)) ?_
   refine mv_ rfl (wl_guard_on rfl rfl rfl (mv_ rfl (wl_guard_on rfl rfl rfl (mv_ rfl (wl_guard_on rfl rfl rfl ?_)))))
   refine wl_callv rfl cb40 rfl rfl (fun wx hm => (equal_gv [] none none 0 0 0 wx (SlT.nil_ _ _) (SlT.nil_ _ _) (by omega))) ?_
   refine pt_ rfl rfl (mv_ rfl (wl_guard_on rfl rfl rfl ?_))
   refine wl_callv rfl cb41 rfl rfl (fun wx hm => (booked_any wx)) ?_
   refine pt_ rfl rfl (sg_ rfl (nn_ ?_))
   refine gw_ret ?_
   refine nx_ret1 rfl rfl fun wx hm => ?_
   exact ⟨rfl, law_end hg1 hsb (grow_trans hm_w2.g (grow_weak hm.g))⟩
  refine wl_callx (γ := Option Addr × Nat) (val := (fun g => .tuple #[.slice g.1 n g.2, .int .i64 0])) (φ := (fun g => True)) (Y := (fun g => fun wy => SlT gvEnc 3 90 wy g.1 n (gvO l o))) rfl cb35 rfl rfl (fun wx hm => (assignA_right cs A0 4 c0 sl A1 n1 c1 l A n c wx (hm.fact 2 rfl).1 hco (by omega) (hm.fact 3 rfl).1 hso (by omega) (hm.fact 4 rfl).1 hok (by omega) h0).mono fun _ _ ⟨h, hg⟩ => by
   rcases h with ⟨h2, _⟩ | ⟨o2, A2, c2, h2, he, hs⟩
   ·rw [hao] at h2; cases h2
   rw [hao] at h2; cases h2; exact ⟨(A2, c2), he, trivial, hg, hs⟩) (fun _ => SlT.lasts2 rfl) ?_
  rintro ⟨A2, c2⟩ hphi
  dsimp only
  clear hphi
  refine mv_ rfl (wl_ov (ov_extract rfl rfl) rfl (wl_ov (ov_extract rfl rfl) rfl (sg_ rfl (sg_ rfl (nn_ (gw_seq ?_))))))
  refine gd (fun wz => (fun wy => SlT gvEnc 3 90 wy A2 n (gvO l o)) wz ∧ (BlkOld w2.heap.size none g2 78 [.slice A0 4 c0, .slice A1 n1 c1, .slice A n c, .int .i64 (stockE cs sl), .int .i64 (checkE cs l)]) wz ∧ (BlkOld w2.heap.size none g1 3 [.int .i64 0, .int .i64 2, .int .i64 3, .int .i64 4, .int .i64 5, .int .i64 6, .int .i64 8]) wz ∧ (SlOld csEnc 2 158 w2.heap.size none A0 4 cs) wz ∧ (SlOld skEnc 2 211 w2.heap.size none A1 n1 sl) wz ∧ (SlOld bkEnc 6 92 w2.heap.size none A n l) wz ∧ True) mixed (fun _ hm => ⟨hm.fa 0, hm.fa 1, hm.fa 2, hm.fa 3, hm.fa 4, hm.fa 5, trivial⟩) fun z => ?_
  refine wt 0 10 1 rfl z (ov_loads (vs := [.slice A0 4 c0, .slice A1 n1 c1, .slice A n c, .int .i64 (stockE cs sl), .int .i64 (checkE cs l)]) rz78 rfl (fun _ hm => (hm.2.1).2) rfl rfl) ?_
  refine wt 2 10 5 rfl z (ov_field fo78_2 rfl rfl) ?_
  refine wt 3 10 13 rfl z (ov_load (v := .slice A n c) sc76 rfl (fun _ hm => (hm.2.1).2) rfl) ?_
  refine wt 4 10 29 rfl z (ov_len es76 rfl) ?_
  refine wt 5 10 61 rfl z (ov_gtr rfl rfl) ?_
  refine wa1 1 rfl ?_
  refine wl_callv rfl cb37 rfl rfl (fun wx hm => (call_any _ _ _ _ _ _ _ _ _ _ _ wx)) ?_
  refine wl_nil ?_
  refine nw 10 63 (fun _ hm => ⟨hm.fa 0, hm.fa 1, hm.fa 2, hm.fa 3, hm.fa 4, hm.fa 5, trivial⟩) fun z => ?_
  refine wa1 6 rfl ?_
  refine wl_callw rfl cb38 rfl rfl (fun wx hm => (rwhen_any _ _ wx)) ?_
  refine wl_nil ?_
  refine nw 10 127 (fun _ hm => ⟨hm.fa 0, hm.fa 1, hm.fa 2, hm.fa 3, hm.fa 4, hm.fa 5, trivial⟩) fun z => ?_
  refine wa1 7 rfl ?_
  refine wl_buildSlice (e := 33) (cs := [.int .i64 (firstE [stockE cs sl, checkE cs l]), .int .i64 (whenE (decide (7 < ((n : Nat) : Int))) 2)]) rfl (by kernel_rfl) rfl fun g4 => ?_
  refine wl_nil ?_
  refine nw 10 255 (fun _ hm => ⟨hm.fa 0, hm.fa 1, hm.fa 2, hm.fa 3, hm.fa 4, hm.fa 5, trivial⟩) fun z => ?_
  refine wa1 8 rfl ?_
  refine wl_callw rfl cb36 rfl rfl (fun wx hm => (errs_any [firstE [stockE cs sl, checkE cs l], whenE (decide (7 < ((n : Nat) : Int))) 2] _ _ _ wx (hm.blkI 0 rfl) (by simp))) ?_
  refine wl_nil ?_
  refine nw 10 511 (fun _ hm => ⟨hm.fa 0, hm.fa 1, hm.fa 2, hm.fa 3, hm.fa 4, hm.fa 5, trivial⟩) fun z => ?_
  refine wt 9 10 1023 rfl z (ov_assign rfl) ?_
  refine wa_done (by kernel_rfl) ?_
  refine nx_then (sr_ (sg_ rfl (nn_ (gw_seq (sr_ (mv_ rfl (wl_ov (ov_eql rfl rfl) rfl ?_)))))))
  refine wl_set 39 (v' := .bool true) rfl (congrArg Value.bool (by rw [← hEE, h0]; rfl)) ?_
  refine nn_ (ct_ rfl (sr_ (fd_ fo78_0 rfl rfl ?_)))
  refine wl_ov (ov_load (v := .slice A0 4 c0) sc58 rfl (fun _ hm => (hm.fact 1 rfl).2) rfl) rfl ?_
  refine fd_ fo78_1 rfl rfl ?_
  refine wl_ov (ov_load (v := .slice A1 n1 c1) sc75 rfl (fun _ hm => (hm.fact 1 rfl).2) rfl) rfl ?_
  refine fd_ fo78_2 rfl rfl ?_
  refine wl_ov (ov_load (v := .slice A n c) sc76 rfl (fun _ hm => (hm.fact 1 rfl).2) rfl) rfl ?_
  refine wl_callx (γ := Option Addr × Nat) (val := (fun g => .tuple #[.slice g.1 n g.2, .bool true])) (φ := (fun g => True)) (Y := (fun g => fun wy => SlT gvEnc 3 90 wy g.1 n (gvO l o))) rfl cb39 rfl rfl (fun wx hm => (assignOf_any cs A0 4 c0 sl A1 n1 c1 l A n c wx (hm.fact 3 rfl).1 hco (by omega) hcl hlo (hm.fact 4 rfl).1 hso (by omega) hmany (hm.fact 5 rfl).1 (keys_ix hkeys) htm (by omega)).mono fun _ _ ⟨h, hg⟩ => by
   rcases h with ⟨h2, _⟩ | ⟨o2, A2, c2, h2, he, hs⟩
   ·rw [hao] at h2; cases h2
   rw [hao] at h2; cases h2; exact ⟨(A2, c2), he, trivial, hg, hs⟩) (fun _ => SlT.lasts2 rfl) ?_
  rintro ⟨B2, d2⟩ hphi
  dsimp only
  clear hphi
  refine mv_ rfl (wl_ov (ov_extract rfl rfl) rfl (wl_ov (ov_extract rfl rfl) rfl (sg_ rfl (sg_ rfl (nn_ (gw_region (mv_ rfl (mv_ rfl (wl_ov (ov_un_not rfl) rfl ?_)))))))))
  refine wl_set 52 (v' := .bool false) rfl (congrArg Value.bool (by decide)) ?_
  refine wl_callw rfl cb38 rfl rfl (fun wx hm => (rwhen_any _ _ wx)) ?_
  refine sg_ rfl (sg_ rfl (nn_ (sr_ (mv_ rfl (mv_ rfl (wl_ov (ov_eql rfl rfl) rfl ?_))))))
  refine wl_set 56 (v' := .bool true) rfl (congrArg Value.bool (by rfl)) ?_
  refine mv_ rfl (wl_guard_on rfl rfl rfl (mv_ rfl (wl_guard_on rfl rfl rfl (mv_ rfl (wl_guard_on rfl rfl rfl ?_)))))
  refine wl_callv rfl cb40 rfl rfl (fun wx hm => (equal_gv (gvO l o) A2 B2 n c2 d2 wx (hm.fact 1 rfl) (hm.fact 0 rfl) (by omega))) ?_
  refine pt_ rfl rfl (mv_ rfl (wl_guard_on rfl rfl rfl ?_))
  refine wl_callv rfl cb41 rfl rfl (fun wx hm => (booked_any wx)) ?_
  refine pt_ rfl rfl (sg_ rfl (nn_ ?_))
  refine gw_ret ?_
  refine nx_ret1 rfl rfl fun wx hm => ?_
  exact ⟨rfl, law_end hg1 hsb (grow_trans hm_w2.g (grow_weak hm.g))⟩
 refine wl_callv rfl cb35 rfl rfl (fun wx hm => (assignA_bad cs A0 4 c0 sl A1 n1 c1 l A n c wx (hm.fact 2 rfl).1 hco (by omega) (hm.fact 3 rfl).1 hso (by omega) (hm.fact 4 rfl).1 hok (by omega) h0)) ?_
 refine mv_ rfl (wl_ov (ov_extract rfl rfl) rfl (wl_ov (ov_extract rfl rfl) rfl (sg_ rfl (sg_ rfl (nn_ (gw_seq ?_))))))
 refine gd (fun wz => (BlkOld w2.heap.size none g2 78 [.slice A0 4 c0, .slice A1 n1 c1, .slice A n c, .int .i64 (stockE cs sl), .int .i64 (checkE cs l)]) wz ∧ (BlkOld w2.heap.size none g1 3 [.int .i64 0, .int .i64 2, .int .i64 3, .int .i64 4, .int .i64 5, .int .i64 6, .int .i64 8]) wz ∧ (SlOld csEnc 2 158 w2.heap.size none A0 4 cs) wz ∧ (SlOld skEnc 2 211 w2.heap.size none A1 n1 sl) wz ∧ (SlOld bkEnc 6 92 w2.heap.size none A n l) wz ∧ True) mixed (fun _ hm => ⟨hm.fa 0, hm.fa 1, hm.fa 2, hm.fa 3, hm.fa 4, trivial⟩) fun z => ?_
 refine wt 0 10 1 rfl z (ov_loads (vs := [.slice A0 4 c0, .slice A1 n1 c1, .slice A n c, .int .i64 (stockE cs sl), .int .i64 (checkE cs l)]) rz78 rfl (fun _ hm => (hm.1).2) rfl rfl) ?_
 refine wt 2 10 5 rfl z (ov_field fo78_2 rfl rfl) ?_
 refine wt 3 10 13 rfl z (ov_load (v := .slice A n c) sc76 rfl (fun _ hm => (hm.1).2) rfl) ?_
 refine wt 4 10 29 rfl z (ov_len es76 rfl) ?_
 refine wt 5 10 61 rfl z (ov_gtr rfl rfl) ?_
 refine wa1 1 rfl ?_
 refine wl_callv rfl cb37 rfl rfl (fun wx hm => (call_any _ _ _ _ _ _ _ _ _ _ _ wx)) ?_
 refine wl_nil ?_
 refine nw 10 63 (fun _ hm => ⟨hm.fa 0, hm.fa 1, hm.fa 2, hm.fa 3, hm.fa 4, trivial⟩) fun z => ?_
 refine wa1 6 rfl ?_
 refine wl_callw rfl cb38 rfl rfl (fun wx hm => (rwhen_any _ _ wx)) ?_
 refine wl_nil ?_
 refine nw 10 127 (fun _ hm => ⟨hm.fa 0, hm.fa 1, hm.fa 2, hm.fa 3, hm.fa 4, trivial⟩) fun z => ?_
 refine wa1 7 rfl ?_
 refine wl_buildSlice (e := 33) (cs := [.int .i64 (firstE [stockE cs sl, checkE cs l]), .int .i64 (whenE (decide (7 < ((n : Nat) : Int))) 2)]) rfl (by kernel_rfl) rfl fun g5 => ?_
 refine wl_nil ?_
 refine nw 10 255 (fun _ hm => ⟨hm.fa 0, hm.fa 1, hm.fa 2, hm.fa 3, hm.fa 4, trivial⟩) fun z => ?_
 refine wa1 8 rfl ?_
 refine wl_callw rfl cb36 rfl rfl (fun wx hm => (errs_any [firstE [stockE cs sl, checkE cs l], whenE (decide (7 < ((n : Nat) : Int))) 2] _ _ _ wx (hm.blkI 0 rfl) (by simp))) ?_
 refine wl_nil ?_
 refine nw 10 511 (fun _ hm => ⟨hm.fa 0, hm.fa 1, hm.fa 2, hm.fa 3, hm.fa 4, trivial⟩) fun z => ?_
 refine wt 9 10 1023 rfl z (ov_assign rfl) ?_
 refine wa_done (by kernel_rfl) ?_
 refine nx_then (sr_ (sg_ rfl (nn_ (gw_seq (sr_ (mv_ rfl (wl_ov (ov_eql rfl rfl) rfl ?_)))))))
 refine wl_set 39 (v' := .bool false) rfl (congrArg Value.bool (by rw [← hEE, decide_eq_false h0])) ?_
 refine nn_ (cf_ rfl (gw_skip (nx_then (sr_ (mv_ rfl (mv_ rfl (wl_ov (ov_eql rfl rfl) rfl ?_)))))))
 refine wl_set 56 (v' := .bool true) rfl (congrArg Value.bool (by rw [hEE]; exact decide_eq_true rfl)) ?_
 refine mv_ rfl (wl_guard_on rfl rfl rfl (mv_ rfl (wl_guard_on rfl rfl rfl (mv_ rfl (wl_guard_on rfl rfl rfl ?_)))))
 refine wl_callv rfl cb40 rfl rfl (fun wx hm => (equal_gv [] none none 0 0 0 wx (SlT.nil_ _ _) (SlT.nil_ _ _) (by omega))) ?_
 refine pt_ rfl rfl (mv_ rfl (wl_guard_on rfl rfl rfl ?_))
 refine wl_callv rfl cb41 rfl rfl (fun wx hm => (booked_any wx)) ?_
 refine pt_ rfl rfl (sg_ rfl (nn_ ?_))
 refine gw_ret ?_
 refine nx_ret1 rfl rfl fun wx hm => ?_
 exact ⟨rfl, law_end hg1 hsb (grow_trans hm_w2.g (grow_weak hm.g))⟩
end Go.Proofs.YtempjmpfdniecaaGreatDoor
