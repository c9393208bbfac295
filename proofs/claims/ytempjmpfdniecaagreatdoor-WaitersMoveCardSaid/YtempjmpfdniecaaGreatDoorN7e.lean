/- Several texts as one: Dea Deb Bwc Bwg Bwh Bwi Ifc Wmv -/
import Derived.Test.YtempjmpfdniecaaGreatDoorN7d
import Derived.Test.YtempjmpfdniecaaGreatDoorN7b
import Derived.Test.YtempjmpfdniecaaGreatDoorN7c
import Derived.Laws.Build
import Derived.Laws.Slices
import Derived.Laws.Strings
import Derived.Laws.Runes
import Derived.Test.YtempjmpfdniecaaGreatDoorN7a
set_option maxRecDepth 100000
set_option maxHeartbeats 4000000
namespace Go.Proofs.YtempjmpfdniecaaGreatDoor
open Go.RowKit
theorem gvO_nil (l : List Bk) : gvO l [] = [] := by unfold gvO; simp
def gvQ (c : ByteArray) (u : Int) (z : Gv) : Bool := z.cls.toList == c.toList && decide (z.unit = u)
theorem gv_used {c : ByteArray} {u : Nat} : ∀ (l : List Bk) (st : List (ByteArray × Nat)), st.length ≤ l.length → ((gvO l st).any (gvQ c (u : Int)) = true ↔ (c, u) ∈ st)
  | l, [], _ => by rw [gvO_nil]; simp
  | [], _ :: _, h => absurd h (Nat.not_succ_le_zero _)
  | x :: l, p :: st, h => by
    have ih := gv_used (c := c) (u := u) l st (by simpa using h)
    have e : gvO (x :: l) (p :: st) = ⟨x.key, p.1, (p.2 : Int)⟩ :: gvO l st := rfl
    rw [e, List.any_cons, Bool.or_eq_true, ih, List.mem_cons]
    obtain ⟨p1, p2⟩ := p
    unfold gvQ
    dsimp only
    rw [Bool.and_eq_true, beq_iff_eq, decide_eq_true_eq, Prod.mk.injEq]
    constructor
    · rintro (⟨h1, h2⟩ | h1)
      · exact .inl ⟨(ba_ext h1).symm, by omega⟩
      · exact .inr h1
    · rintro (⟨h1, h2⟩ | h1)
      · exact .inl ⟨by rw [h1], by omega⟩
      · exact .inr h1
theorem fPut_iff {F : ByteArray → Option Bool} {fr fr2 : List ByteArray} {c : ByteArray} {b : Bool} (h : ∀ k, (F k).getD false = true ↔ k ∈ fr) (hc : b = true ↔ c ∈ fr2) (h2 : ∀ k, k ≠ c → (k ∈ fr2 ↔ k ∈ fr)) : ∀ k, (fPut F c b k).getD false = true ↔ k ∈ fr2 := fun k => by
  by_cases e : k = c
  · rw [e, fPut_same]; exact hc
  · rw [fPut_other _ _ e, h2 k e]; exact h k
section
variable {P : Program} {c : Cx} {ops : Array Oper} {Q : Exit → Act → World → Prop} {rest : List Oper} {S : List (Nat × Value)} {K : World → Prop} {L : List (Nat × TypeId × List Value)} {O : List Own} {X : List (World → Prop)} {d : Nat} {ty : TypeId} {pos : String} {aft : Array Edge}
/-- append of nil. -/
theorem wl_appendN {t e : TypeId} {sz by_ : Nat} {x y : Operand} {n : Nat} {v : Value} {xs : List Value} (i : Nat) (ht : appB P t = some (e, sz, by_)) (hx : rd S x = some v) (hO : O[i]? = some ⟨v, e, sz, n, xs⟩) (hy : rd S y = some (.slice none 0 0)) (hd : Nat.ble (d + 1) c.n = true) (h : WL P c ops Q rest ((d, v) :: S) K L O X) : WL P c ops Q (⟨some d, .call ⟨.builtin .append, #[x, y], #[t, t]⟩, ty, pos, aft, none⟩ :: rest) S K L O X := by
  intro a w ha hm
  unfold appB at ht
  split at ht
  · rename_i e' hu
    split at ht
    · rename_i inf hi
      split at ht
      · rename_i z hz
        split at ht
        · simp only [Option.some.injEq, Prod.mk.injEq] at ht
          obtain ⟨rfl, rfl, rfl⟩ := ht
          exact wpList_append_own_none rfl x y t rfl c.w0.heap.size e' inf inf.size hu hi v n xs (ha.eval hx) (hm.o _ (List.mem_of_getElem? hO)) (ha.eval hy) (h _ _ (ha.put hd _) hm)
        · cases ht
      · cases ht
    · cases ht
  · cases ht
end
/-- A row that is not empty is a slice of a block. -/
theorem own_some {P : List (ByteArray × Nat) → Prop} {st : List (ByteArray × Nat)} {l : List Bk} {w' : World} {N n : Nat} {e : TypeId} {v : Value} (h : P st) (hn : 0 < n) (ho : w'.ownsRow N e 3 v (0 + n) ([] ++ (gvO l st).flatMap gvEnc)) {E : Prop} : (E ∨ ∃ (o : List (ByteArray × Nat)) (g' c' : Nat), P o ∧ Ending.returned v = .returned (.slice (some ⟨g', 0, none⟩) n c') ∧ w'.ownsRow N e 3 (.slice (some ⟨g', 0, none⟩) n c') n ((gvO l o).flatMap gvEnc)) := by
  rw [Nat.zero_add, List.nil_append] at ho
  have ho2 := ho
  rcases ho2.2 with ⟨_, h0⟩ | ⟨g, cap, cur, rfl, _⟩
  · omega
  · exact .inr ⟨st, g, cap, h, rfl, ho⟩
theorem agGiven1_any (y0 y1 : ByteArray) (y2 : Int) (gk : Nat) (k0 c : ByteArray) (u : Int) (w : World) (hk : Blk w gk 90 [.string k0, .string c, .int .i64 u]) :
  Calls Tryz.prog 130 #[.agg #[.string y0, .string y1, .int .i64 y2], .pointer (some ⟨gk, 0, none⟩)] w (fun e w' => e = .returned (.bool (gvQ c u ⟨y0, y1, y2⟩)) ∧ w.grownBy w' none) := by
 refine gw_enter ⟨16, w, none, []⟩ Tryz.func130 rfl Tryz.ntmps130 rfl (mem0 (X := [BlkOld w.heap.size none gk 90 [.string k0, .string c, .int .i64 u]]) (allF_cons hk.old allF_nil) (allL_cons BlkOld.lasts allL_nil)) ?_
 refine sr_ ?_
 refine wl_box rfl rfl rfl fun g1 => ?_
 refine sg_ rfl (nn_ (sr_ (fd_ fo90_1 rfl rfl (lk_ sc9 0 rfl rfl rfl (fd_ fo90_1 rfl rfl ?_)))))
 refine wl_ov (ov_load (v := .string c) sc9 rfl (fun _ hm => (hm.fact 0 rfl).2) rfl) rfl ?_
 refine wl_ov (ov_seql rfl rfl) rfl (mv_ rfl ?_)
 rcases Bool.eq_false_or_eq_true (y1.toList == c.toList) with hb2 | hb2
 ·refine wl_set 9 rfl (congrArg Value.bool hb2) ?_
  refine wl_guard_on rfl rfl rfl (fd_ fo90_2 rfl rfl (wl_guard_on rfl rfl rfl (lk_ sc3 0 rfl rfl rfl (wl_guard_on rfl rfl rfl (fd_ fo90_2 rfl rfl (wl_guard_on rfl rfl rfl ?_))))))
  refine wl_ov (ov_load (v := .int .i64 u) sc3 rfl (fun _ hm => (hm.fact 0 rfl).2) rfl) rfl ?_
  refine wl_guard_on rfl rfl rfl (wl_ov (ov_eql rfl rfl) rfl (pt_ rfl rfl (sg_ rfl (nn_ ?_))))
  refine gw_ret ?_
  refine nx_ret1 rfl rfl fun wx hm => ?_
  exact ⟨by unfold gvQ; simp [hb2], hm.g⟩
 refine wl_set 9 rfl (congrArg Value.bool hb2) ?_
 refine goff rfl rfl rfl (goff rfl rfl rfl (goff rfl rfl rfl (goff rfl rfl rfl (goff rfl rfl rfl (pf_ rfl rfl (sg_ rfl (nn_ ?_)))))))
 refine gw_ret ?_
 refine nx_ret1 rfl rfl fun wx hm => ?_
 exact ⟨by unfold gvQ; simp [hb2], hm.g⟩
theorem ixGiven_any (zs : List Gv) (Z : Option Addr) (n c0 gk : Nat) (k0 c : ByteArray) (u : Int) (w : World) (hz : SlT gvEnc 3 90 w Z n zs) (hn : n ≤ 1000000) (hk : Blk w gk 90 [.string k0, .string c, .int .i64 u]) :
  Calls Tryz.prog 225 #[.slice Z n c0, .func (.func 130) #[] #[.pointer (some ⟨gk, 0, none⟩)]] w (GotE w (ixP (gvQ c u) zs 0)) := by
 refine gw_enter ⟨19, w, none, []⟩ Tryz.func225 rfl Tryz.ntmps225 rfl (mem0 (X := [SlOld gvEnc 3 90 w.heap.size none Z n zs, BlkOld w.heap.size none gk 90 [.string k0, .string c, .int .i64 u]]) (allF_cons hz.old (allF_cons hk.old allF_nil)) (allL_cons SlOld.lasts (allL_cons BlkOld.lasts allL_nil))) ?_
 refine sr_ ?_
 have hlen := hz.len
 refine sg_ rfl (nn_ (gw_seq (sr_ (mv_ rfl (wl_ov (ov_len es80 rfl) rfl (mv_ rfl (nn_ (gw_block ?_))))))))
 refine gw_loop (γ := Nat) (fun (j : Nat) => j ≤ n ∧ ixP (gvQ c u) zs 0 = ixP (gvQ c u) (zs.drop j) j) (fun (j : Nat) => [(0, .slice Z n c0), (1, .func (.func 130) #[] #[.pointer (some ⟨gk, 0, none⟩)]), (7, .int .i64 ((n : Nat) : Int)), (8, .int .i64 ((j : Nat) : Int))]) (fun (j : Nat) => fun _ => True) (fun (j : Nat) => []) (fun (j : Nat) => []) (fun (j : Nat) => [SlOld gvEnc 3 90 w.heap.size none Z n zs, BlkOld w.heap.size none gk 90 [.string k0, .string c, .int .i64 u]]) (fun (j : Nat) => n - j) 0 ⟨Nat.zero_le _, rfl⟩ ⟨rfl, rfl, rfl, rfl, trivial⟩ (fun _ hm => hm.pick [] [] [0, 1] rfl rfl) ?_
 intro j hinv
 replace hinv : j ≤ n ∧ ixP (gvQ c u) zs 0 = ixP (gvQ c u) (zs.drop j) j := hinv
 refine sr_ (wl_ov (ov_lss rfl rfl) rfl (nn_ (gw_seq ?_)))
 refine gw_cond rfl (fun hh => ?_) (fun hh => ?_)
 ·have hj : ((j : Nat) : Int) < ((n : Nat) : Int) := by simpa using hh
  clear hh
  refine gw_skip (nx_then (gw_seq (gw_block (sr_ ?_))))
  obtain ⟨b, off, hA, _, _⟩ := hz.get (by omega)
  subst hA
  obtain ⟨x, hx⟩ : ∃ x, zs[j]? = some x := ⟨_, List.getElem?_eq_getElem (by omega)⟩
  obtain ⟨y0, y1, y2⟩ := x
  have hat := ixP_at (p := gvQ c u) hx
  refine mv_ rfl (sg_ rfl (nn_ (sr_ (mv_ rfl (mv_ rfl (mv_ rfl ?_))))))
  refine wl_ov (ov_index (j := j) es80 rfl rfl (by omega)) rfl ?_
  refine wl_ov (ov_elem (vs := [.string y0, .string y1, .int .i64 y2]) rz90 rfl (fun _ hm => (hm.fact 0 rfl).1) hx rfl rfl) rfl ?_
  refine wl_callv rfl cb130 rfl rfl (fun wx hm => (agGiven1_any y0 y1 y2 gk k0 c u wx (hm.fact 1 rfl).2)) ?_
  refine nn_ ?_
  refine gw_cond rfl (fun hh => ?_) (fun hh => ?_)
  ·have hq : (gvQ c u ⟨y0, y1, y2⟩) = true := by simpa using hh
   clear hh
   refine sr_ (mv_ rfl (sg_ rfl (nn_ ?_)))
   refine gw_ret ?_
   refine nx_blk_ret (nx_then_ret (nx_then_ret (nx_blk_ret (nx_then_ret ?_))))
   refine nx_ret1 rfl rfl fun wx hm => ?_
   exact ⟨ret_int (by rw [hinv.2, hat, if_pos hq]), hm.g⟩
  have hq : (gvQ c u ⟨y0, y1, y2⟩) = false := by simpa using hh
  clear hh
  refine gw_skip (nx_blk_nrm (nx_then (gw_region (ad_ rfl rfl (mv_ rfl (wl_nil ?_))))))
  exact nx_round (j + 1) ⟨by omega, by rw [hinv.2, hat, if_neg (by rw [hq]; decide)]⟩ (by omega) ⟨rfl, rfl, rfl, (some_int (by omega)), trivial⟩ (fun _ hm => hm.pick [] [] [0, 1] rfl rfl)
 have hj : ¬ (((j : Nat) : Int) < ((n : Nat) : Int)) := by simpa using hh
 clear hh
 refine gw_exit ?_
 refine nx_then_exit (nx_then_exit ?_)
 refine nx_blk_here ?_
 refine nx_then (sr_ (sg_ rfl ?_))
 refine wl_set 4 (v' := .int .i64 (-1)) rfl rfl ?_
 refine nn_ ?_
 refine gw_ret ?_
 refine nx_ret1 rfl rfl fun wx hm => ?_
 exact ⟨ret_int (by rw [hinv.2, List.drop_eq_nil_of_le (by omega)]; rfl), hm.g⟩
theorem hasGiven_any (zs : List Gv) (Z : Option Addr) (n c0 gk : Nat) (k0 c : ByteArray) (u : Int) (w : World) (hz : SlT gvEnc 3 90 w Z n zs) (hn : n ≤ 1000000) (hk : Blk w gk 90 [.string k0, .string c, .int .i64 u]) :
  Calls Tryz.prog 129 #[.slice Z n c0, .func (.func 130) #[] #[.pointer (some ⟨gk, 0, none⟩)]] w (fun e w' => e = .returned (.bool (zs.any (gvQ c u))) ∧ w.grownBy w' none) := by
 refine gw_enter ⟨9, w, none, []⟩ Tryz.func129 rfl Tryz.ntmps129 rfl (mem0 (X := [SlOld gvEnc 3 90 w.heap.size none Z n zs, BlkOld w.heap.size none gk 90 [.string k0, .string c, .int .i64 u]]) (allF_cons hz.old (allF_cons hk.old allF_nil)) (allL_cons SlOld.lasts (allL_cons BlkOld.lasts allL_nil))) ?_
 refine sr_ (sg_ rfl (nn_ (sr_ (mv_ rfl (mv_ rfl ?_)))))
 refine wl_callv rfl cb225 rfl rfl (fun wx hm => (ixGiven_any zs Z n c0 gk k0 c u wx (hm.fact 0 rfl).1 hn (hm.fact 1 rfl).2)) ?_
 refine wl_ov (ov_geq rfl rfl) rfl ?_
 refine sg_ rfl (nn_ ?_)
 refine gw_ret ?_
 refine nx_ret1 rfl rfl fun wx hm => ?_
 exact ⟨by rw [← ix_dec], hm.g⟩
/-- What the document's fill does, with so many given. -/
def FlSpec (cs : List Cs) (A0 : Option Addr) (n0 c0 : Nat) (sl : List Sk) (A1 : Option Addr) (n1 c1 : Nat) (l : List Bk) (A : Option Addr) (n cb gl gc gs gf : Nat) (gn : Nat) : Prop := ∀ (st : List (ByteArray × Nat)) (left : Nat) (G : Option Addr) (gq : Nat) (w : World), st.length = gn → left ≤ 1000000 → (gn = 0 → G = none ∧ gq = 0) → SlT csEnc 2 158 w A0 n0 cs → SlT skEnc 2 211 w A1 n1 sl → SlT bkEnc 6 92 w A n l → Blk w gl 76 [.slice A n cb] → Blk w gc 58 [.slice A0 n0 c0] → Blk w gs 75 [.slice A1 n1 c1] → Blk w gf 187 [.func (.func 126) #[] #[.pointer (some ⟨gl, 0, none⟩), .pointer (some ⟨gc, 0, none⟩), .pointer (some ⟨gs, 0, none⟩), .pointer (some ⟨gf, 0, none⟩)]] → SlT gvEnc 3 90 w G gn (gvO l st) →
    Calls Tryz.prog 126 #[.slice G gn gq, .int .i64 ((left : Nat) : Int), .pointer (some ⟨gl, 0, none⟩), .pointer (some ⟨gc, 0, none⟩), .pointer (some ⟨gs, 0, none⟩), .pointer (some ⟨gf, 0, none⟩)] w (fun e w' => ((asgD cs sl l st left = none ∧ e = .returned (.slice none 0 0)) ∨ ∃ (o : List (ByteArray × Nat)) (g' c' : Nat), asgD cs sl l st left = some o ∧ e = .returned (.slice (some ⟨g', 0, none⟩) n c') ∧ w'.ownsRow w.heap.size 90 3 (.slice (some ⟨g', 0, none⟩) n c') n ((gvO l o).flatMap gvEnc)) ∧ w.grownBy w' none)
theorem fl_step (cs : List Cs) (A0 : Option Addr) (n0 c0 : Nat) (sl : List Sk) (A1 : Option Addr) (n1 c1 : Nat) (l : List Bk) (A : Option Addr) (n cb gl gc gs gf : Nat) (gn : Nat) (ih : gn < n → FlSpec cs A0 n0 c0 sl A1 n1 c1 l A n cb gl gc gs gf (gn + 1)) (hgnn : gn ≤ n) (hco : ∀ x ∈ cs, CsOk x) (hn0 : n0 ≤ 30) (hcl : Closed cs) (hlo : loopB cs cs.length = false) (hso : ∀ x ∈ sl, SkOk x) (hn1 : n1 ≤ 1000) (hmany : ∀ k, manyV sl k ≤ 100) (hix : ∀ b ∈ l, 0 ≤ ixP (csP b.cls) cs 0) (htm : BkTim l) (hn : n ≤ 12) : FlSpec cs A0 n0 c0 sl A1 n1 c1 l A n cb gl gc gs gf gn := by
 intro st left G gq w hss hleft hGn hcs hs hl hgl hgc hgs hgf hg
 refine gw_enter ⟨94, w, none, []⟩ Tryz.func126 rfl Tryz.ntmps126 rfl (mem0 (X := [SlOld csEnc 2 158 w.heap.size none A0 n0 cs, SlOld skEnc 2 211 w.heap.size none A1 n1 sl, SlOld bkEnc 6 92 w.heap.size none A n l, BlkOld w.heap.size none gl 76 [.slice A n cb], BlkOld w.heap.size none gc 58 [.slice A0 n0 c0], BlkOld w.heap.size none gs 75 [.slice A1 n1 c1], BlkOld w.heap.size none gf 187 [.func (.func 126) #[] #[.pointer (some ⟨gl, 0, none⟩), .pointer (some ⟨gc, 0, none⟩), .pointer (some ⟨gs, 0, none⟩), .pointer (some ⟨gf, 0, none⟩)]], SlOld gvEnc 3 90 w.heap.size none G gn (gvO l st)]) (allF_cons hcs.old (allF_cons hs.old (allF_cons hl.old (allF_cons hgl.old (allF_cons hgc.old (allF_cons hgs.old (allF_cons hgf.old (allF_cons hg.old allF_nil)))))))) (allL_cons SlOld.lasts (allL_cons SlOld.lasts (allL_cons SlOld.lasts (allL_cons BlkOld.lasts (allL_cons BlkOld.lasts (allL_cons BlkOld.lasts (allL_cons BlkOld.lasts (allL_cons SlOld.lasts allL_nil))))))))) ?_
 refine sr_ ?_
 have hlen := hl.len
 have hlen0 := hcs.len
 obtain ⟨RR, hRR⟩ : ∃ z, z = asgD cs sl l st left := ⟨_, rfl⟩
 rw [← hRR]
 refine sg_ rfl (nn_ (gw_seq (sr_ (mv_ rfl (wl_ov (ov_len es80 rfl) rfl ?_)))))
 refine wl_ov (ov_load (v := .slice A n cb) sc76 rfl (fun _ hm => (hm.fact 3 rfl).2) rfl) rfl ?_
 refine wl_ov (ov_len es76 rfl) rfl (wl_ov (ov_eql rfl rfl) rfl (nn_ ?_))
 refine gw_cond rfl (fun hh => ?_) (fun hh => ?_)
 ·have he : ((gn : Nat) : Int) = ((n : Nat) : Int) := by simpa using hh
  clear hh
  refine gw_seq (sr_ (mv_ rfl (wl_ov (ov_eql rfl rfl) rfl (nn_ ?_))))
  refine gw_cond rfl (fun hh => ?_) (fun hh => ?_)
  ·have hl0 : ((left : Nat) : Int) = 0 := by simpa using hh
   clear hh
   refine sr_ ?_
   have hRs : RR = some st := by rw [hRR, asgD_end (by omega), if_pos (by omega)]
   refine wl_buildSlice0 (e := 90) (sz := 3) (by kernel_rfl) (by kernel_rfl) rfl fun g1 => ?_
   refine mv_ rfl ?_
   refine wl_toOwn (sz := 3) (n := 0) 0 [] rfl rfl rfl (by unfold maxLen; omega) ?_
   have hng : n = gn := by omega
   subst hng
   by_cases hn00 : n = 0
   ·obtain ⟨hG1, hG2⟩ := hGn hn00
    subst hn00
    subst hG1
    subst hG2
    refine wl_appendN 0 ap80 rfl rfl rfl rfl ?_
    refine sg_ rfl (nn_ ?_)
    refine gw_ret ?_
    refine nx_then_ret (nx_then_ret ?_)
    refine nx_ret1 rfl rfl fun wx hm => ?_
    exact ⟨.inr ⟨st, g1, 0, hRs, rfl, by have hz : st = [] := List.length_eq_zero_iff.1 hss; rw [hz, gvO_nil]; exact (hm.ownI 0 rfl)⟩, hm.g⟩
   refine wl_appendS (T := 90) (l := gvO l st) 0 ap80 rfl rfl rfl (fun _ hm => (hm.fact 7 rfl).1) (fun h => absurd h hn00) gv_len gv_one (by omega) (by unfold maxLen; omega) rfl rfl fun v1 => ?_
   refine sg_ rfl (nn_ ?_)
   refine gw_ret ?_
   refine nx_then_ret (nx_then_ret ?_)
   refine nx_ret1 rfl rfl fun wx hm => ?_
   exact ⟨own_some (P := fun o => RR = some o) hRs (by omega) (hm.ownI 0 rfl), hm.g⟩
  have hl0 : ¬ (((left : Nat) : Int) = 0) := by simpa using hh
  clear hh
  refine gw_skip (nx_then (sr_ ?_))
  have hRs : RR = none := by rw [hRR, asgD_end (by omega), if_neg (by omega)]
  refine sg_ rfl (nn_ ?_)
  refine gw_ret ?_
  refine nx_then_ret ?_
  refine nx_ret1 rfl rfl fun wx hm => ?_
  exact ⟨.inl ⟨hRs, rfl⟩, hm.g⟩
 have he : ¬ (((gn : Nat) : Int) = ((n : Nat) : Int)) := by simpa using hh
 clear hh
 refine gw_skip (nx_then (sr_ ?_))
 have hgn : gn < n := by omega
 obtain ⟨b, off, hA, _, _⟩ := hl.get (by omega)
 subst hA
 obtain ⟨x, hx⟩ : ∃ x, l[gn]? = some x := ⟨_, List.getElem?_eq_getElem (by omega)⟩
 obtain ⟨x0, x1, x2, x3, x4, x5⟩ := x
 have hbm := List.mem_of_getElem? hx
 have hti := htm _ hbm
 have hixb := hix _ hbm
 dsimp only at hti hixb
 rw [← hss] at hx
 have hRa := asgD_at (cs := cs) (sl := sl) (left := left) hx
 rw [← hRR] at hRa
 have hsn := fun k => gvO_snoc (k := k) hx
 rw [hss] at hx
 obtain ⟨DL, hDL⟩ : ∃ z, z = dnB cs sl l st (⟨x0, x1, x2, x3, x4, x5⟩ : Bk) := ⟨_, rfl⟩
 have hch := dn_ch (cs := cs) (sl := sl) (l := l) (st := st) (b := (⟨x0, x1, x2, x3, x4, x5⟩ : Bk))
 rw [← hDL] at hRa hch
 have hdm : ∀ k ∈ DL, stepsV cs x1 k.1 = (k.2.1 : Int) ∧ k.2.1 ≤ cs.length ∧ 1 ≤ k.2.2 ∧ k.2.2 ≤ capB sl k.1 := fun k hk => dn_mem hcl hlo hixb (by rw [hDL] at hk; exact hk)
 refine wl_ov (ov_load (v := .slice (some ⟨b, off, none⟩) n cb) sc76 rfl (fun _ hm => (hm.fact 3 rfl).2) rfl) rfl ?_
 refine mv_ rfl (wl_ov (ov_len es80 rfl) rfl ?_)
 refine wl_ov (ov_index (j := gn) es76 rfl rfl (by omega)) rfl ?_
 refine wl_ov (ov_elem (vs := [.string x0, .string x1, .int .i64 x2, .int .i64 x3, .int .i64 x4, .int .i64 x5]) rz92 rfl (fun _ hm => (hm.fact 2 rfl).1) hx rfl rfl) rfl ?_
 refine wl_alloc zc92 rfl fun g2 => ?_
 refine wl_stores (cs' := [.string x0, .string x1, .int .i64 x2, .int .i64 x3, .int .i64 x4, .int .i64 x5]) 0 rz92 rfl rfl rfl rfl rfl rfl rfl rfl ?_
 refine nn_ (sr_ ?_)
 refine wl_makeMapF (enc := Value.bool) rfl fun g3 => ?_
 refine sg_ rfl (nn_ (gw_seq (sr_ ?_)))
 refine wl_ov (ov_load (v := .slice A0 n0 c0) sc58 rfl (fun _ hm => (hm.fact 5 rfl).2) rfl) rfl ?_
 refine wl_ov (ov_load (v := .slice A1 n1 c1) sc75 rfl (fun _ hm => (hm.fact 6 rfl).2) rfl) rfl ?_
 refine wl_ov (ov_load (v := .slice (some ⟨b, off, none⟩) n cb) sc76 rfl (fun _ hm => (hm.fact 4 rfl).2) rfl) rfl ?_
 refine mv_ rfl ?_
 refine wl_ov (ov_loads rz92 rfl (fun _ hm => hm.blkI 0 rfl) rfl rfl) rfl ?_
 refine wl_callgo (γ := Option Addr × Nat × Nat) (val := (fun g => .slice g.1 g.2.1 g.2.2)) (φ := (fun g => DL.length = g.2.1 ∧ g.2.1 ≤ 3100)) (fun g => ⟨.slice g.1 g.2.1 g.2.2, 90, 3, g.2.1, (DL.map (dcG (⟨x0, x1, x2, x3, x4, x5⟩ : Bk))).flatMap gvEnc⟩) rfl cb127 rfl rfl (fun wx hm => (by have h := choicesW_any cs A0 n0 c0 sl A1 n1 c1 l (gvO l st) (some ⟨b, off, none⟩) G n gn cb gq x0 x1 x2 x3 x4 x5 wx (hm.fact 1 rfl).1 hco hn0 hcl hlo (hm.fact 2 rfl).1 hso hn1 hmany (hm.fact 3 rfl).1 (hm.fact 8 rfl).1 (by omega) (by omega) (fun q hq => (htm q hq).2.1) hti.2.1; rw [hch] at h; exact h.mono fun _ _ ⟨A8, k2, c8, he, ho, hln, hk3, hg⟩ => ⟨(A8, k2, c8), he, ⟨by rw [List.length_map] at hln; exact hln, hk3⟩, ho, hg⟩)) ?_
 rintro ⟨A5, n5, c5⟩ hch5
 dsimp only at hch5 ⊢
 obtain ⟨hn5, h5b⟩ := hch5
 refine wl_ov (ov_len es80 rfl) rfl (mv_ rfl (nn_ (gw_block ?_)))
 refine gw_loop (γ := Nat × (ByteArray → Option Bool) × List ByteArray) (fun gg => gg.1 ≤ n5 ∧ (∀ k, (gg.2.1 k).getD false = true ↔ k ∈ gg.2.2) ∧ RR = docS st left (fun k => asgD cs sl l (st ++ [(k.1, k.2.2)]) (left - k.2.1)) (DL.drop (gg.1)) (gg.2.2)) (fun gg => [(0, .slice G gn gq), (1, .int .i64 ((left : Nat) : Int)), (3, .pointer (some ⟨gc, 0, none⟩)), (5, .pointer (some ⟨gf, 0, none⟩)), (9, .pointer (some ⟨g2, 0, none⟩)), (10, .map (some g3)), (38, .slice A5 n5 c5), (39, .int .i64 ((n5 : Nat) : Int)), (40, .int .i64 ((gg.1 : Nat) : Int))]) (fun gg => fun _ => True) (fun gg => [(g2, 92, [.string x0, .string x1, .int .i64 x2, .int .i64 x3, .int .i64 x4, .int .i64 x5])]) (fun gg => [⟨.slice A5 n5 c5, 90, 3, n5, (DL.map (dcG (⟨x0, x1, x2, x3, x4, x5⟩ : Bk))).flatMap gvEnc⟩]) (fun gg => [MapF Value.bool w.heap.size g3 (gg.2.1), SlOld csEnc 2 158 w.heap.size none A0 n0 cs, SlOld skEnc 2 211 w.heap.size none A1 n1 sl, SlOld bkEnc 6 92 w.heap.size none (some ⟨b, off, none⟩) n l, BlkOld w.heap.size none gl 76 [.slice (some ⟨b, off, none⟩) n cb], BlkOld w.heap.size none gc 58 [.slice A0 n0 c0], BlkOld w.heap.size none gs 75 [.slice A1 n1 c1], BlkOld w.heap.size none gf 187 [.func (.func 126) #[] #[.pointer (some ⟨gl, 0, none⟩), .pointer (some ⟨gc, 0, none⟩), .pointer (some ⟨gs, 0, none⟩), .pointer (some ⟨gf, 0, none⟩)]], SlOld gvEnc 3 90 w.heap.size none G gn (gvO l st)]) (fun gg => n5 - gg.1) (0, fNil, []) ⟨Nat.zero_le _, fun k => ⟨fun h => (by cases h), fun h => (by cases h)⟩, hRa⟩ ⟨rfl, rfl, rfl, rfl, rfl, rfl, rfl, rfl, rfl, trivial⟩ (fun _ hm => hm.pick [0] [0] [0, 1, 2, 3, 4, 5, 6, 7, 8] rfl rfl) ?_
 rintro ⟨j, F, fr⟩ hinv
 replace hinv : j ≤ n5 ∧ (∀ k, (F k).getD false = true ↔ k ∈ fr) ∧ RR = docS st left (fun k => asgD cs sl l (st ++ [(k.1, k.2.2)]) (left - k.2.1)) (DL.drop (j)) (fr) := hinv
 dsimp only
 refine sr_ ?_
 obtain ⟨hj0, hF, hRj⟩ := hinv
 refine wl_ov (ov_lss rfl rfl) rfl (nn_ (gw_seq ?_))
 refine gw_cond rfl (fun hh => ?_) (fun hh => ?_)
 ·have hj : ((j : Nat) : Int) < ((n5 : Nat) : Int) := by simpa using hh
  clear hh
  refine gw_skip (nx_then (gw_seq (gw_block (sr_ ?_))))
  refine wl_look (R := ∃ g, A5 = some ⟨g, 0, none⟩) (fun wx hm => own_addr (hm.ownI 0 rfl) (by omega)) ?_
  rintro ⟨g7, rfl⟩
  obtain ⟨q, hq⟩ : ∃ x, DL[j]? = some x := ⟨_, List.getElem?_eq_getElem (by omega)⟩
  obtain ⟨hst, hsl5, hu1, hu2⟩ := hdm q (List.mem_of_getElem? hq)
  have hmx := hmany q.1
  obtain ⟨cl, sp, u⟩ := q
  dsimp only at hst hsl5 hu1 hu2 hmx
  have hu3 : u ≤ 100 := by unfold capB at hu2; omega
  have hgq : (DL.map (dcG (⟨x0, x1, x2, x3, x4, x5⟩ : Bk)))[j]? = some ⟨x0, cl, ((u : Nat) : Int)⟩ := by rw [List.getElem?_map, hq]; rfl
  obtain ⟨US, hUS⟩ : ∃ z, z = (gvO l st).any (gvQ cl ((u : Nat) : Int)) := ⟨_, rfl⟩
  have hused : US = true ↔ (cl, u) ∈ st := by rw [hUS]; exact gv_used l st (by omega)
  refine wl_ov (ov_index (j := j) es80 rfl rfl (by omega)) rfl ?_
  refine wl_ov (ov_elem (vs := [.string x0, .string cl, .int .i64 ((u : Nat) : Int)]) rz90 rfl (fun _ hm => (SlT.ofOwn gv_len (hm.ownI 0 rfl) (by rw [List.length_map]; exact hn5))) hgq rfl rfl) rfl ?_
  refine wl_alloc zc90 rfl fun g4 => ?_
  refine wl_stores (cs' := [.string x0, .string cl, .int .i64 ((u : Nat) : Int)]) 0 rz90 rfl rfl rfl rfl rfl rfl rfl rfl ?_
  refine nn_ (sr_ ?_)
  refine wl_ov (ov_load (v := .slice A0 n0 c0) sc58 rfl (fun _ hm => (hm.fact 5 rfl).2) rfl) rfl ?_
  refine fd_ fo92_1 rfl rfl (lk_ sc9 1 rfl rfl rfl (fd_ fo90_1 rfl rfl (lk_ sc9 0 rfl rfl rfl ?_)))
  refine wl_callv (v := .tuple #[.int .i64 ((sp : Nat) : Int), .bool true]) rfl cb128 rfl rfl (fun wx hm => (by have h := stepsOf_any cs A0 n0 c0 x1 cl wx (hm.fact 1 rfl).1 hco (by omega) hcl hlo; rw [hst, show max ((sp : Nat) : Int) 0 = ((sp : Nat) : Int) by omega, decide_eq_true (show 0 ≤ ((sp : Nat) : Int) by omega)] at h; exact h)) ?_
  refine mv_ rfl (wl_ov (ov_extract rfl rfl) rfl (wl_ov (ov_extract rfl rfl) rfl (sg_ rfl (sg_ rfl (nn_ (sr_ (mv_ rfl (wl_ov (ov_makeFunc rfl rfl) rfl ?_))))))))
  refine wl_callv (v := .bool US) rfl cb129 rfl rfl (fun wx hm => (by rw [hUS]; exact hasGiven_any (gvO l st) G gn gq g4 x0 cl ((u : Nat) : Int) wx (hm.fact 8 rfl).1 (by omega) (hm.blkI 0 rfl))) ?_
  refine sg_ rfl (nn_ ?_)
  refine gw_cut (γ := Unit) (I := (fun (uu : Unit) => sp ≤ left ∧ ¬ (left < (cl, sp, u).2.1 ∨ (((cl, sp, u).1, (cl, sp, u).2.2) ∉ st ∧ (cl, sp, u).1 ∈ fr)))) (S' := (fun (uu : Unit) => [(0, .slice G gn gq), (1, .int .i64 ((left : Nat) : Int)), (3, .pointer (some ⟨gc, 0, none⟩)), (5, .pointer (some ⟨gf, 0, none⟩)), (9, .pointer (some ⟨g2, 0, none⟩)), (10, .map (some g3)), (12, .pointer (some ⟨g4, 0, none⟩)), (13, .int .i64 ((sp : Nat) : Int)), (15, .bool US), (38, .slice (some ⟨g7, 0, none⟩) n5 c5), (39, .int .i64 ((n5 : Nat) : Int)), (40, .int .i64 ((j : Nat) : Int))])) (K' := (fun (uu : Unit) => fun _ => True)) (L' := (fun (uu : Unit) => [(g4, 90, [.string x0, .string cl, .int .i64 ((u : Nat) : Int)]), (g2, 92, [.string x0, .string x1, .int .i64 x2, .int .i64 x3, .int .i64 x4, .int .i64 x5])])) (O' := (fun (uu : Unit) => [⟨.slice (some ⟨g7, 0, none⟩) n5 c5, 90, 3, n5, (DL.map (dcG (⟨x0, x1, x2, x3, x4, x5⟩ : Bk))).flatMap gvEnc⟩])) (X' := (fun (uu : Unit) => [MapF Value.bool w.heap.size g3 (F), SlOld csEnc 2 158 w.heap.size none A0 n0 cs, SlOld skEnc 2 211 w.heap.size none A1 n1 sl, SlOld bkEnc 6 92 w.heap.size none (some ⟨b, off, none⟩) n l, BlkOld w.heap.size none gl 76 [.slice (some ⟨b, off, none⟩) n cb], BlkOld w.heap.size none gc 58 [.slice A0 n0 c0], BlkOld w.heap.size none gs 75 [.slice A1 n1 c1], BlkOld w.heap.size none gf 187 [.func (.func 126) #[] #[.pointer (some ⟨gl, 0, none⟩), .pointer (some ⟨gc, 0, none⟩), .pointer (some ⟨gs, 0, none⟩), .pointer (some ⟨gf, 0, none⟩)]], SlOld gvEnc 3 90 w.heap.size none G gn (gvO l st)])) ?_ ?_
  ·refine sr_ (mv_ rfl (mv_ rfl ?_))
   refine wl_ov (ov_gtr rfl rfl) rfl ?_
   refine mv_ rfl ?_
   rcases Bool.eq_false_or_eq_true (decide (((left : Nat) : Int) < ((sp : Nat) : Int))) with hb1 | hb1
   ·refine wl_set 59 rfl (congrArg Value.bool hb1) ?_
    replace hb1 := of_decide_eq_true hb1
    refine goff rfl rfl rfl (goff rfl rfl rfl (goff rfl rfl rfl (gnd rfl rfl rfl (gnd rfl rfl rfl (gnd rfl rfl rfl (gnd rfl rfl rfl (goff rfl rfl rfl (pt_ rfl rfl (nn_ (ct_ rfl ?_))))))))))
    refine gw_exit ?_
    refine nx_then_exit ?_
    refine nx_blk_here ?_
    refine nx_then (gw_region (ad_ rfl rfl (mv_ rfl (wl_nil ?_))))
    rw [docS_skip1 hq (.inl (by dsimp only; omega))] at hRj
    exact nx_round (j + 1, F, fr) ⟨by dsimp only; omega, hF, hRj⟩ (by dsimp only; omega) ⟨rfl, rfl, rfl, rfl, rfl, rfl, rfl, rfl, (some_int (by omega)), trivial⟩ (fun _ hm => hm.pick [1] [0] [0, 1, 2, 3, 4, 5, 6, 7, 8] rfl rfl)
   refine wl_set 59 rfl (congrArg Value.bool hb1) ?_
   replace hb1 := of_decide_eq_false hb1
   refine wl_guard_on rfl rfl rfl (mv_ rfl (wl_guard_on rfl rfl rfl (wl_ov (ov_un_not rfl) rfl (wl_guard_on rfl rfl rfl (mv_ rfl ?_)))))
   rcases Bool.eq_false_or_eq_true (!US) with hb2 | hb2
   ·refine wl_set 62 rfl (congrArg Value.bool hb2) ?_
    refine wl_guard_on rfl rfl rfl (mv_ rfl (wl_guard_on rfl rfl rfl (fd_ fo90_1 rfl rfl (wl_guard_on rfl rfl rfl (lk_ sc9 0 rfl rfl rfl (wl_guard_on rfl rfl rfl ?_))))))
    refine wl_ov (ov_lookF (enc := Value.bool) (k := 9) (e := 4) false (by kernel_rfl) (by kernel_rfl) (by kernel_rfl) rfl rfl (fun _ hm => (hm.fact 0 rfl))) rfl ?_
    refine wl_guard_on rfl rfl rfl (pt_ rfl rfl (pf_ rfl rfl (nn_ ?_)))
    refine gw_cond rfl (fun hh => ?_) (fun hh => ?_)
    ·have hc3 : (((F) cl).getD false) = true := by simpa using hh
     clear hh
     refine gw_exit ?_
     refine nx_then_exit ?_
     refine nx_blk_here ?_
     refine nx_then (gw_region (ad_ rfl rfl (mv_ rfl (wl_nil ?_))))
     rw [docS_skip1 hq (.inr ⟨fun h => (by have h5 := hused.2 h; rw [h5] at hb2; cases hb2), (hF cl).1 hc3⟩)] at hRj
     exact nx_round (j + 1, F, fr) ⟨by dsimp only; omega, hF, hRj⟩ (by dsimp only; omega) ⟨rfl, rfl, rfl, rfl, rfl, rfl, rfl, rfl, (some_int (by omega)), trivial⟩ (fun _ hm => hm.pick [1] [0] [0, 1, 2, 3, 4, 5, 6, 7, 8] rfl rfl)
    have hc3 : (((F) cl).getD false) = false := by simpa using hh
    clear hh
    refine gw_skip ?_
    exact nx_meet () ⟨by omega, fun h => h.elim (fun h1 => (by dsimp only at h1; omega)) (fun h2 => (by have h5 := (hF cl).2 h2.2; rw [hc3] at h5; cases h5))⟩ ⟨rfl, rfl, rfl, rfl, rfl, rfl, rfl, rfl, rfl, rfl, rfl, rfl, trivial⟩ (fun _ hm => hm.pick [0, 1] [0] [0, 1, 2, 3, 4, 5, 6, 7, 8] rfl rfl)
   refine wl_set 62 rfl (congrArg Value.bool hb2) ?_
   refine goff rfl rfl rfl (goff rfl rfl rfl (goff rfl rfl rfl (goff rfl rfl rfl (wl_guard_on rfl rfl rfl (pf_ rfl rfl (pf_ rfl rfl (nn_ (cf_ rfl (gw_skip ?_)))))))))
   exact nx_meet () ⟨by omega, fun h => h.elim (fun h1 => (by dsimp only at h1; omega)) (fun h2 => h2.1 (hused.1 (by simpa using hb2)))⟩ ⟨rfl, rfl, rfl, rfl, rfl, rfl, rfl, rfl, rfl, rfl, rfl, rfl, trivial⟩ (fun _ hm => hm.pick [0, 1] [0] [0, 1, 2, 3, 4, 5, 6, 7, 8] rfl rfl)
  intro uu hinv
  replace hinv : sp ≤ left ∧ ¬ (left < (cl, sp, u).2.1 ∨ (((cl, sp, u).1, (cl, sp, u).2.2) ∉ st ∧ (cl, sp, u).1 ∈ fr)) := hinv
  obtain ⟨hle, hgo⟩ := hinv
  refine gw_cut (γ := ByteArray → Option Bool) (I := (fun (F2 : ByteArray → Option Bool) => ∀ k, (F2 k).getD false = true ↔ k ∈ docR st (cl, sp, u) fr)) (S' := (fun (F2 : ByteArray → Option Bool) => [(0, .slice G gn gq), (1, .int .i64 ((left : Nat) : Int)), (3, .pointer (some ⟨gc, 0, none⟩)), (5, .pointer (some ⟨gf, 0, none⟩)), (9, .pointer (some ⟨g2, 0, none⟩)), (10, .map (some g3)), (12, .pointer (some ⟨g4, 0, none⟩)), (13, .int .i64 ((sp : Nat) : Int)), (38, .slice (some ⟨g7, 0, none⟩) n5 c5), (39, .int .i64 ((n5 : Nat) : Int)), (40, .int .i64 ((j : Nat) : Int))])) (K' := (fun (F2 : ByteArray → Option Bool) => fun _ => True)) (L' := (fun (F2 : ByteArray → Option Bool) => [(g4, 90, [.string x0, .string cl, .int .i64 ((u : Nat) : Int)]), (g2, 92, [.string x0, .string x1, .int .i64 x2, .int .i64 x3, .int .i64 x4, .int .i64 x5])])) (O' := (fun (F2 : ByteArray → Option Bool) => [⟨.slice (some ⟨g7, 0, none⟩) n5 c5, 90, 3, n5, (DL.map (dcG (⟨x0, x1, x2, x3, x4, x5⟩ : Bk))).flatMap gvEnc⟩])) (X' := (fun (F2 : ByteArray → Option Bool) => [MapF Value.bool w.heap.size g3 (F2), SlOld csEnc 2 158 w.heap.size none A0 n0 cs, SlOld skEnc 2 211 w.heap.size none A1 n1 sl, SlOld bkEnc 6 92 w.heap.size none (some ⟨b, off, none⟩) n l, BlkOld w.heap.size none gl 76 [.slice (some ⟨b, off, none⟩) n cb], BlkOld w.heap.size none gc 58 [.slice A0 n0 c0], BlkOld w.heap.size none gs 75 [.slice A1 n1 c1], BlkOld w.heap.size none gf 187 [.func (.func 126) #[] #[.pointer (some ⟨gl, 0, none⟩), .pointer (some ⟨gc, 0, none⟩), .pointer (some ⟨gs, 0, none⟩), .pointer (some ⟨gf, 0, none⟩)]], SlOld gvEnc 3 90 w.heap.size none G gn (gvO l st)])) ?_ ?_
  ·refine gw_region (mv_ rfl (fd_ fo90_1 rfl rfl (lk_ sc9 0 rfl rfl rfl (mv_ rfl (fd_ fo90_1 rfl rfl (lk_ sc9 0 rfl rfl rfl ?_))))))
   refine wl_ov (ov_lookF (enc := Value.bool) (k := 9) (e := 4) false (by kernel_rfl) (by kernel_rfl) (by kernel_rfl) rfl rfl (fun _ hm => (hm.fact 0 rfl))) rfl ?_
   refine mv_ rfl ?_
   rcases Bool.eq_false_or_eq_true (((F) cl).getD false) with hb4 | hb4
   ·refine wl_set 76 rfl (congrArg Value.bool hb4) ?_
    refine goff rfl rfl rfl (goff rfl rfl rfl (pt_ rfl rfl ?_))
    refine wl_mapPut (enc := Value.bool) (v := true) (k := 9) (e := 4) (X' := [SlOld csEnc 2 158 w.heap.size none A0 n0 cs, SlOld skEnc 2 211 w.heap.size none A1 n1 sl, SlOld bkEnc 6 92 w.heap.size none (some ⟨b, off, none⟩) n l, BlkOld w.heap.size none gl 76 [.slice (some ⟨b, off, none⟩) n cb], BlkOld w.heap.size none gc 58 [.slice A0 n0 c0], BlkOld w.heap.size none gs 75 [.slice A1 n1 c1], BlkOld w.heap.size none gf 187 [.func (.func 126) #[] #[.pointer (some ⟨gl, 0, none⟩), .pointer (some ⟨gc, 0, none⟩), .pointer (some ⟨gs, 0, none⟩), .pointer (some ⟨gf, 0, none⟩)]], SlOld gvEnc 3 90 w.heap.size none G gn (gvO l st)]) 0 (by kernel_rfl) (by kernel_rfl) rfl rfl rfl rfl (far_cons (i := 1) SlOld.far rfl (far_cons (i := 2) SlOld.far rfl (far_cons (i := 3) SlOld.far rfl (far_cons (i := 4) BlkOld.far rfl (far_cons (i := 5) BlkOld.far rfl (far_cons (i := 6) BlkOld.far rfl (far_cons (i := 7) BlkOld.far rfl (far_cons (i := 8) SlOld.far rfl far_nil)))))))) ?_
    refine wl_nil ?_
    have hk0 : ∀ k, k ≠ cl → (k ∈ docR st (cl, sp, u) fr ↔ k ∈ fr) := fun k hk => docR_mem (st := st) (k := (cl, sp, u)) (fr := fr).trans ⟨fun h => h.elim id (fun h2 => absurd h2.1 hk), .inl⟩
    have hk1 : true = true ↔ cl ∈ docR st (cl, sp, u) fr := ⟨fun _ => docR_mem (st := st) (k := (cl, sp, u)) (fr := fr).2 (.inl ((hF cl).1 hb4)), fun _ => rfl⟩
    exact nx_meet (fPut (F) cl true) (fPut_iff hF hk1 hk0) ⟨rfl, rfl, rfl, rfl, rfl, rfl, rfl, rfl, rfl, rfl, rfl, trivial⟩ (fun _ hm => hm.pick [0, 1] [0] [0, 1, 2, 3, 4, 5, 6, 7, 8] rfl rfl)
   refine wl_set 76 rfl (congrArg Value.bool hb4) ?_
   refine wl_guard_on rfl rfl rfl (mv_ rfl (wl_guard_on rfl rfl rfl (wl_ov (ov_un_not rfl) rfl (pf_ rfl rfl ?_))))
   refine wl_mapPut (enc := Value.bool) (v := !US) (k := 9) (e := 4) (X' := [SlOld csEnc 2 158 w.heap.size none A0 n0 cs, SlOld skEnc 2 211 w.heap.size none A1 n1 sl, SlOld bkEnc 6 92 w.heap.size none (some ⟨b, off, none⟩) n l, BlkOld w.heap.size none gl 76 [.slice (some ⟨b, off, none⟩) n cb], BlkOld w.heap.size none gc 58 [.slice A0 n0 c0], BlkOld w.heap.size none gs 75 [.slice A1 n1 c1], BlkOld w.heap.size none gf 187 [.func (.func 126) #[] #[.pointer (some ⟨gl, 0, none⟩), .pointer (some ⟨gc, 0, none⟩), .pointer (some ⟨gs, 0, none⟩), .pointer (some ⟨gf, 0, none⟩)]], SlOld gvEnc 3 90 w.heap.size none G gn (gvO l st)]) 0 (by kernel_rfl) (by kernel_rfl) rfl rfl rfl rfl (far_cons (i := 1) SlOld.far rfl (far_cons (i := 2) SlOld.far rfl (far_cons (i := 3) SlOld.far rfl (far_cons (i := 4) BlkOld.far rfl (far_cons (i := 5) BlkOld.far rfl (far_cons (i := 6) BlkOld.far rfl (far_cons (i := 7) BlkOld.far rfl (far_cons (i := 8) SlOld.far rfl far_nil)))))))) ?_
   refine wl_nil ?_
   have hk0 : ∀ k, k ≠ cl → (k ∈ docR st (cl, sp, u) fr ↔ k ∈ fr) := fun k hk => docR_mem (st := st) (k := (cl, sp, u)) (fr := fr).trans ⟨fun h => h.elim id (fun h2 => absurd h2.1 hk), .inl⟩
   have hk1 : (!US) = true ↔ cl ∈ docR st (cl, sp, u) fr := by
    rw [docR_mem (st := st) (k := (cl, sp, u)) (fr := fr)]
    constructor
    ·exact fun h => .inr ⟨rfl, fun h2 => (by have h5 := hused.2 h2; rw [h5] at h; cases h)⟩
    rintro (h | h)
    ·have h5 := (hF cl).2 h; rw [hb4] at h5; cases h5
    cases hu : US with
    | false => rfl
    | true => exact absurd (hused.1 hu) h.2
   exact nx_meet (fPut (F) cl (!US)) (fPut_iff hF hk1 hk0) ⟨rfl, rfl, rfl, rfl, rfl, rfl, rfl, rfl, rfl, rfl, rfl, trivial⟩ (fun _ hm => hm.pick [0, 1] [0] [0, 1, 2, 3, 4, 5, 6, 7, 8] rfl rfl)
  intro F2 hinv
  replace hinv : ∀ k, (F2 k).getD false = true ↔ k ∈ docR st (cl, sp, u) fr := hinv
  refine gw_seq ?_
  have hF2 : ∀ k, (F2 k).getD false = true ↔ k ∈ docR st (cl, sp, u) fr := hinv
  have hsn2 := hsn (cl, u)
  dsimp only at hsn2
  rcases hV : asgD cs sl l (st ++ [(cl, u)]) (left - sp) with _ | o2
  ·refine gd (fun wz => Blk wz g4 90 [.string x0, .string cl, .int .i64 ((u : Nat) : Int)] ∧ Blk wz g2 92 [.string x0, .string x1, .int .i64 x2, .int .i64 x3, .int .i64 x4, .int .i64 x5] ∧ (MapF Value.bool w.heap.size g3 (F2)) wz ∧ (SlOld csEnc 2 158 w.heap.size none A0 n0 cs) wz ∧ (SlOld skEnc 2 211 w.heap.size none A1 n1 sl) wz ∧ (SlOld bkEnc 6 92 w.heap.size none (some ⟨b, off, none⟩) n l) wz ∧ (BlkOld w.heap.size none gl 76 [.slice (some ⟨b, off, none⟩) n cb]) wz ∧ (BlkOld w.heap.size none gc 58 [.slice A0 n0 c0]) wz ∧ (BlkOld w.heap.size none gs 75 [.slice A1 n1 c1]) wz ∧ (BlkOld w.heap.size none gf 187 [.func (.func 126) #[] #[.pointer (some ⟨gl, 0, none⟩), .pointer (some ⟨gc, 0, none⟩), .pointer (some ⟨gs, 0, none⟩), .pointer (some ⟨gf, 0, none⟩)]]) wz ∧ (SlOld gvEnc 3 90 w.heap.size none G gn (gvO l st)) wz ∧ True) mixed (fun _ hm => ⟨hm.bl 0, hm.bl 1, hm.fa 0, hm.fa 1, hm.fa 2, hm.fa 3, hm.fa 4, hm.fa 5, hm.fa 6, hm.fa 7, hm.fa 8, trivial⟩) fun z => ?_
   refine wt 0 11 1 rfl z (ov_load (v := .func (.func 126) #[] #[.pointer (some ⟨gl, 0, none⟩), .pointer (some ⟨gc, 0, none⟩), .pointer (some ⟨gs, 0, none⟩), .pointer (some ⟨gf, 0, none⟩)]) sc187 rfl (fun _ hm => (hm.2.2.2.2.2.2.2.2.2.1).2) rfl) ?_
   refine wt 1 11 3 rfl z (ov_move rfl) ?_
   refine wt 3 11 11 rfl z (ov_loads rz90 rfl (fun _ hm => hm.1) rfl rfl) ?_
   refine wt 6 11 75 rfl z (ov_move rfl) ?_
   refine wt 7 11 203 rfl z (ov_move rfl) ?_
   refine wt 8 11 459 rfl z (ov_sub rfl rfl (by omega) (by omega)) ?_
   refine wa_set 88 (v' := .int .i64 ((left - sp : Nat) : Int)) rfl (congrArg (Value.int .i64) (by omega)) ?_
   refine wa_all [2, 4] (by kernel_rfl) rfl ⟨⟨_, rfl, ?_⟩, ⟨_, rfl, ?_⟩, trivial⟩
   ·refine wl_callgo (γ := Option Addr × Nat) (val := (fun g => .slice g.1 gn g.2)) (φ := (fun g => True)) (fun g => ⟨.slice g.1 gn g.2, 90, 3, gn, (gvO l st).flatMap gvEnc⟩) rfl cb131 rfl rfl (fun wx hm => (cloneGvs_any (gvO l st) G gn gq wx (hm.fact 8 rfl).1 (by omega)).mono fun _ _ ⟨A, c, he, ho, hg⟩ => ⟨(A, c), he, trivial, ho, hg⟩) ?_
    rintro ⟨A2, c2⟩ hphi
    dsimp only at hphi ⊢
    refine wl_nil ?_
    refine nw 11 463 (fun _ hm => ⟨hm.bl 0, hm.bl 1, hm.fa 0, hm.fa 1, hm.fa 2, hm.fa 3, hm.fa 4, hm.fa 5, hm.fa 6, hm.fa 7, hm.fa 8, trivial⟩) fun z => ?_
    refine wa1 4 rfl ?_
    refine wl_buildSlice (e := 90) (cs := [.string x0, .string cl, .int .i64 ((u : Nat) : Int)]) rfl (by kernel_rfl) rfl fun g5 => ?_
    refine wl_nil ?_
    refine nw 11 479 (fun _ hm => ⟨hm.bl 1, hm.bl 2, hm.fa 0, hm.fa 1, hm.fa 2, hm.fa 3, hm.fa 4, hm.fa 5, hm.fa 6, hm.fa 7, hm.fa 8, trivial⟩) fun z => ?_
    refine wa1 5 rfl ?_
    refine wl_append (news := [.string x0, .string cl, .int .i64 ((u : Nat) : Int)]) 0 0 ap80 rfl rfl rfl rfl rfl rfl rfl (by omega) (by unfold maxLen; omega) rfl rfl fun v6 hv6 => ?_
    rw [show (gvO l st).flatMap gvEnc ++ ([.string x0, .string cl, .int .i64 ((u : Nat) : Int)] : List Value) = (gvO l (st ++ [(cl, u)])).flatMap gvEnc from by rw [hsn2]; simp [gvEnc]]
    refine wl_look (R := ∃ A cc, v6 = .slice A (gn + 1) cc) (fun wx hm => own_slice (hm.ownI 0 rfl)) ?_
    rintro ⟨A6, c6, rfl⟩
    refine wl_nil ?_
    refine nw 11 511 (fun _ hm => ⟨hm.bl 1, hm.bl 2, hm.fa 0, hm.fa 1, hm.fa 2, hm.fa 3, hm.fa 4, hm.fa 5, hm.fa 6, hm.fa 7, hm.fa 8, trivial⟩) fun z => ?_
    refine wa1 9 rfl ?_
    refine wl_callv rfl cb126 rfl rfl (fun wx hm => ((ih hgn (st ++ [(cl, u)]) (left - sp) A6 c6 wx (by rw [List.length_append, hss]; rfl) (by omega) (fun h => absurd h (by omega)) (hm.fact 1 rfl).1 (hm.fact 2 rfl).1 (hm.fact 3 rfl).1 (hm.fact 4 rfl).2 (hm.fact 5 rfl).2 (hm.fact 6 rfl).2 (hm.fact 7 rfl).2 (SlT.ofOwn gv_len (hm.ownI 0 rfl) (by rw [gvO_len (by rw [List.length_append, List.length_singleton]; omega), List.length_append, List.length_singleton]; omega))).mono fun _ _ ⟨h, hg⟩ => by
     rcases h with ⟨_, he⟩ | ⟨o, g8, c8, h2, _⟩
     ·exact ⟨he, hg⟩
     rw [hV] at h2; cases h2)) ?_
    refine wl_nil ?_
    refine nw 11 1023 (fun _ hm => ⟨hm.bl 1, hm.bl 2, hm.fa 0, hm.fa 1, hm.fa 2, hm.fa 3, hm.fa 4, hm.fa 5, hm.fa 6, hm.fa 7, hm.fa 8, trivial⟩) fun z => ?_
    refine wt 10 11 2047 rfl z (ov_assign rfl) ?_
    refine wa_done (by kernel_rfl) ?_
    refine nx_then (sr_ (mv_ rfl ?_))
    refine wl_ov (ov_bin (v := .bool false) rfl rfl (fun _ => rfl)) rfl ?_
    refine nn_ (cf_ rfl (gw_skip (nx_blk_nrm (nx_then (gw_region (ad_ rfl rfl (mv_ rfl (wl_nil ?_))))))))
    rw [docS_next hq hgo hV] at hRj
    exact nx_round (j + 1, F2, docR st (cl, sp, u) fr) ⟨by dsimp only; omega, hF2, hRj⟩ (by dsimp only; omega) ⟨rfl, rfl, rfl, rfl, rfl, rfl, rfl, rfl, (some_int (by omega)), trivial⟩ (fun _ hm => hm.pick [2] [1] [0, 1, 2, 3, 4, 5, 6, 7, 8] rfl rfl)
   refine wl_buildSlice (e := 90) (cs := [.string x0, .string cl, .int .i64 ((u : Nat) : Int)]) rfl (by kernel_rfl) rfl fun g6 => ?_
   refine wl_nil ?_
   refine nw 11 475 (fun _ hm => ⟨hm.bl 1, hm.bl 2, hm.fa 0, hm.fa 1, hm.fa 2, hm.fa 3, hm.fa 4, hm.fa 5, hm.fa 6, hm.fa 7, hm.fa 8, trivial⟩) fun z => ?_
   refine wa1 2 rfl ?_
   refine wl_callgo (γ := Option Addr × Nat) (val := (fun g => .slice g.1 gn g.2)) (φ := (fun g => True)) (fun g => ⟨.slice g.1 gn g.2, 90, 3, gn, (gvO l st).flatMap gvEnc⟩) rfl cb131 rfl rfl (fun wx hm => (cloneGvs_any (gvO l st) G gn gq wx (hm.fact 8 rfl).1 (by omega)).mono fun _ _ ⟨A, c, he, ho, hg⟩ => ⟨(A, c), he, trivial, ho, hg⟩) ?_
   rintro ⟨A2, c2⟩ hphi
   dsimp only at hphi ⊢
   refine wl_nil ?_
   refine nw 11 479 (fun _ hm => ⟨hm.bl 1, hm.bl 2, hm.fa 0, hm.fa 1, hm.fa 2, hm.fa 3, hm.fa 4, hm.fa 5, hm.fa 6, hm.fa 7, hm.fa 8, trivial⟩) fun z => ?_
   refine wa1 5 rfl ?_
   refine wl_append (news := [.string x0, .string cl, .int .i64 ((u : Nat) : Int)]) 0 0 ap80 rfl rfl rfl rfl rfl rfl rfl (by omega) (by unfold maxLen; omega) rfl rfl fun v6 hv6 => ?_
   rw [show (gvO l st).flatMap gvEnc ++ ([.string x0, .string cl, .int .i64 ((u : Nat) : Int)] : List Value) = (gvO l (st ++ [(cl, u)])).flatMap gvEnc from by rw [hsn2]; simp [gvEnc]]
   refine wl_look (R := ∃ A cc, v6 = .slice A (gn + 1) cc) (fun wx hm => own_slice (hm.ownI 0 rfl)) ?_
   rintro ⟨A6, c6, rfl⟩
   refine wl_nil ?_
   refine nw 11 511 (fun _ hm => ⟨hm.bl 1, hm.bl 2, hm.fa 0, hm.fa 1, hm.fa 2, hm.fa 3, hm.fa 4, hm.fa 5, hm.fa 6, hm.fa 7, hm.fa 8, trivial⟩) fun z => ?_
   refine wa1 9 rfl ?_
   refine wl_callv rfl cb126 rfl rfl (fun wx hm => ((ih hgn (st ++ [(cl, u)]) (left - sp) A6 c6 wx (by rw [List.length_append, hss]; rfl) (by omega) (fun h => absurd h (by omega)) (hm.fact 1 rfl).1 (hm.fact 2 rfl).1 (hm.fact 3 rfl).1 (hm.fact 4 rfl).2 (hm.fact 5 rfl).2 (hm.fact 6 rfl).2 (hm.fact 7 rfl).2 (SlT.ofOwn gv_len (hm.ownI 0 rfl) (by rw [gvO_len (by rw [List.length_append, List.length_singleton]; omega), List.length_append, List.length_singleton]; omega))).mono fun _ _ ⟨h, hg⟩ => by
    rcases h with ⟨_, he⟩ | ⟨o, g8, c8, h2, _⟩
    ·exact ⟨he, hg⟩
    rw [hV] at h2; cases h2)) ?_
   refine wl_nil ?_
   refine nw 11 1023 (fun _ hm => ⟨hm.bl 1, hm.bl 2, hm.fa 0, hm.fa 1, hm.fa 2, hm.fa 3, hm.fa 4, hm.fa 5, hm.fa 6, hm.fa 7, hm.fa 8, trivial⟩) fun z => ?_
   refine wt 10 11 2047 rfl z (ov_assign rfl) ?_
   refine wa_done (by kernel_rfl) ?_
   refine nx_then (sr_ (mv_ rfl ?_))
   refine wl_ov (ov_bin (v := .bool false) rfl rfl (fun _ => rfl)) rfl ?_
   refine nn_ (cf_ rfl (gw_skip (nx_blk_nrm (nx_then (gw_region (ad_ rfl rfl (mv_ rfl (wl_nil ?_))))))))
   rw [docS_next hq hgo hV] at hRj
   exact nx_round (j + 1, F2, docR st (cl, sp, u) fr) ⟨by dsimp only; omega, hF2, hRj⟩ (by dsimp only; omega) ⟨rfl, rfl, rfl, rfl, rfl, rfl, rfl, rfl, (some_int (by omega)), trivial⟩ (fun _ hm => hm.pick [2] [1] [0, 1, 2, 3, 4, 5, 6, 7, 8] rfl rfl)
  refine gd (fun wz => Blk wz g4 90 [.string x0, .string cl, .int .i64 ((u : Nat) : Int)] ∧ Blk wz g2 92 [.string x0, .string x1, .int .i64 x2, .int .i64 x3, .int .i64 x4, .int .i64 x5] ∧ (MapF Value.bool w.heap.size g3 (F2)) wz ∧ (SlOld csEnc 2 158 w.heap.size none A0 n0 cs) wz ∧ (SlOld skEnc 2 211 w.heap.size none A1 n1 sl) wz ∧ (SlOld bkEnc 6 92 w.heap.size none (some ⟨b, off, none⟩) n l) wz ∧ (BlkOld w.heap.size none gl 76 [.slice (some ⟨b, off, none⟩) n cb]) wz ∧ (BlkOld w.heap.size none gc 58 [.slice A0 n0 c0]) wz ∧ (BlkOld w.heap.size none gs 75 [.slice A1 n1 c1]) wz ∧ (BlkOld w.heap.size none gf 187 [.func (.func 126) #[] #[.pointer (some ⟨gl, 0, none⟩), .pointer (some ⟨gc, 0, none⟩), .pointer (some ⟨gs, 0, none⟩), .pointer (some ⟨gf, 0, none⟩)]]) wz ∧ (SlOld gvEnc 3 90 w.heap.size none G gn (gvO l st)) wz ∧ True) mixed (fun _ hm => ⟨hm.bl 0, hm.bl 1, hm.fa 0, hm.fa 1, hm.fa 2, hm.fa 3, hm.fa 4, hm.fa 5, hm.fa 6, hm.fa 7, hm.fa 8, trivial⟩) fun z => ?_
  refine wt 0 11 1 rfl z (ov_load (v := .func (.func 126) #[] #[.pointer (some ⟨gl, 0, none⟩), .pointer (some ⟨gc, 0, none⟩), .pointer (some ⟨gs, 0, none⟩), .pointer (some ⟨gf, 0, none⟩)]) sc187 rfl (fun _ hm => (hm.2.2.2.2.2.2.2.2.2.1).2) rfl) ?_
  refine wt 1 11 3 rfl z (ov_move rfl) ?_
  refine wt 3 11 11 rfl z (ov_loads rz90 rfl (fun _ hm => hm.1) rfl rfl) ?_
  refine wt 6 11 75 rfl z (ov_move rfl) ?_
  refine wt 7 11 203 rfl z (ov_move rfl) ?_
  refine wt 8 11 459 rfl z (ov_sub rfl rfl (by omega) (by omega)) ?_
  refine wa_set 88 (v' := .int .i64 ((left - sp : Nat) : Int)) rfl (congrArg (Value.int .i64) (by omega)) ?_
  refine wa_all [2, 4] (by kernel_rfl) rfl ⟨⟨_, rfl, ?_⟩, ⟨_, rfl, ?_⟩, trivial⟩
  ·refine wl_callgo (γ := Option Addr × Nat) (val := (fun g => .slice g.1 gn g.2)) (φ := (fun g => True)) (fun g => ⟨.slice g.1 gn g.2, 90, 3, gn, (gvO l st).flatMap gvEnc⟩) rfl cb131 rfl rfl (fun wx hm => (cloneGvs_any (gvO l st) G gn gq wx (hm.fact 8 rfl).1 (by omega)).mono fun _ _ ⟨A, c, he, ho, hg⟩ => ⟨(A, c), he, trivial, ho, hg⟩) ?_
   rintro ⟨A2, c2⟩ hphi
   dsimp only at hphi ⊢
   refine wl_nil ?_
   refine nw 11 463 (fun _ hm => ⟨hm.bl 0, hm.bl 1, hm.fa 0, hm.fa 1, hm.fa 2, hm.fa 3, hm.fa 4, hm.fa 5, hm.fa 6, hm.fa 7, hm.fa 8, trivial⟩) fun z => ?_
   refine wa1 4 rfl ?_
   refine wl_buildSlice (e := 90) (cs := [.string x0, .string cl, .int .i64 ((u : Nat) : Int)]) rfl (by kernel_rfl) rfl fun g7 => ?_
   refine wl_nil ?_
   refine nw 11 479 (fun _ hm => ⟨hm.bl 1, hm.bl 2, hm.fa 0, hm.fa 1, hm.fa 2, hm.fa 3, hm.fa 4, hm.fa 5, hm.fa 6, hm.fa 7, hm.fa 8, trivial⟩) fun z => ?_
   refine wa1 5 rfl ?_
   refine wl_append (news := [.string x0, .string cl, .int .i64 ((u : Nat) : Int)]) 0 0 ap80 rfl rfl rfl rfl rfl rfl rfl (by omega) (by unfold maxLen; omega) rfl rfl fun v6 hv6 => ?_
   rw [show (gvO l st).flatMap gvEnc ++ ([.string x0, .string cl, .int .i64 ((u : Nat) : Int)] : List Value) = (gvO l (st ++ [(cl, u)])).flatMap gvEnc from by rw [hsn2]; simp [gvEnc]]
   refine wl_look (R := ∃ A cc, v6 = .slice A (gn + 1) cc) (fun wx hm => own_slice (hm.ownI 0 rfl)) ?_
   rintro ⟨A6, c6, rfl⟩
   refine wl_nil ?_
   refine nw 11 511 (fun _ hm => ⟨hm.bl 1, hm.bl 2, hm.fa 0, hm.fa 1, hm.fa 2, hm.fa 3, hm.fa 4, hm.fa 5, hm.fa 6, hm.fa 7, hm.fa 8, trivial⟩) fun z => ?_
   refine wa1 9 rfl ?_
   refine wl_callgo (γ := Nat × Nat) (val := (fun g => .slice (some ⟨g.1, 0, none⟩) n g.2)) (φ := (fun g => True)) (fun g => ⟨.slice (some ⟨g.1, 0, none⟩) n g.2, 90, 3, n, (gvO l o2).flatMap gvEnc⟩) rfl cb126 rfl rfl (fun wx hm => (ih hgn (st ++ [(cl, u)]) (left - sp) A6 c6 wx (by rw [List.length_append, hss]; rfl) (by omega) (fun h => absurd h (by omega)) (hm.fact 1 rfl).1 (hm.fact 2 rfl).1 (hm.fact 3 rfl).1 (hm.fact 4 rfl).2 (hm.fact 5 rfl).2 (hm.fact 6 rfl).2 (hm.fact 7 rfl).2 (SlT.ofOwn gv_len (hm.ownI 0 rfl) (by rw [gvO_len (by rw [List.length_append, List.length_singleton]; omega), List.length_append, List.length_singleton]; omega))).mono fun _ _ ⟨h, hg⟩ => by
    rcases h with ⟨h2, _⟩ | ⟨o, g8, c8, h2, he, ho⟩
    ·rw [hV] at h2; cases h2
    rw [hV] at h2; cases h2; exact ⟨(g8, c8), he, trivial, ho, hg⟩) ?_
   rintro ⟨g8, c8⟩ hphi
   dsimp only at hphi ⊢
   refine wl_nil ?_
   refine nw 11 1023 (fun _ hm => ⟨hm.bl 1, hm.bl 2, hm.fa 0, hm.fa 1, hm.fa 2, hm.fa 3, hm.fa 4, hm.fa 5, hm.fa 6, hm.fa 7, hm.fa 8, trivial⟩) fun z => ?_
   refine wt 10 11 2047 rfl z (ov_assign rfl) ?_
   refine wa_done (by kernel_rfl) ?_
   refine nx_then (sr_ (mv_ rfl ?_))
   refine wl_ov (ov_bin (v := .bool true) rfl rfl (fun _ => rfl)) rfl ?_
   refine nn_ (ct_ rfl (sr_ (mv_ rfl (sg_ rfl (nn_ ?_)))))
   refine gw_ret ?_
   refine nx_blk_ret (nx_then_ret (nx_then_ret (nx_blk_ret (nx_then_ret ?_))))
   have hRo : RR = some o2 := by rw [hRj]; exact docS_got hq hgo hV
   refine nx_ret1 rfl rfl fun wx hm => ?_
   exact ⟨.inr ⟨o2, g8, c8, hRo, rfl, (hm.ownI 0 rfl)⟩, hm.g⟩
  refine wl_buildSlice (e := 90) (cs := [.string x0, .string cl, .int .i64 ((u : Nat) : Int)]) rfl (by kernel_rfl) rfl fun g8 => ?_
  refine wl_nil ?_
  refine nw 11 475 (fun _ hm => ⟨hm.bl 1, hm.bl 2, hm.fa 0, hm.fa 1, hm.fa 2, hm.fa 3, hm.fa 4, hm.fa 5, hm.fa 6, hm.fa 7, hm.fa 8, trivial⟩) fun z => ?_
  refine wa1 2 rfl ?_
  refine wl_callgo (γ := Option Addr × Nat) (val := (fun g => .slice g.1 gn g.2)) (φ := (fun g => True)) (fun g => ⟨.slice g.1 gn g.2, 90, 3, gn, (gvO l st).flatMap gvEnc⟩) rfl cb131 rfl rfl (fun wx hm => (cloneGvs_any (gvO l st) G gn gq wx (hm.fact 8 rfl).1 (by omega)).mono fun _ _ ⟨A, c, he, ho, hg⟩ => ⟨(A, c), he, trivial, ho, hg⟩) ?_
  rintro ⟨A2, c2⟩ hphi
  dsimp only at hphi ⊢
  refine wl_nil ?_
  refine nw 11 479 (fun _ hm => ⟨hm.bl 1, hm.bl 2, hm.fa 0, hm.fa 1, hm.fa 2, hm.fa 3, hm.fa 4, hm.fa 5, hm.fa 6, hm.fa 7, hm.fa 8, trivial⟩) fun z => ?_
  refine wa1 5 rfl ?_
  refine wl_append (news := [.string x0, .string cl, .int .i64 ((u : Nat) : Int)]) 0 0 ap80 rfl rfl rfl rfl rfl rfl rfl (by omega) (by unfold maxLen; omega) rfl rfl fun v6 hv6 => ?_
  rw [show (gvO l st).flatMap gvEnc ++ ([.string x0, .string cl, .int .i64 ((u : Nat) : Int)] : List Value) = (gvO l (st ++ [(cl, u)])).flatMap gvEnc from by rw [hsn2]; simp [gvEnc]]
  refine wl_look (R := ∃ A cc, v6 = .slice A (gn + 1) cc) (fun wx hm => own_slice (hm.ownI 0 rfl)) ?_
  rintro ⟨A6, c6, rfl⟩
  refine wl_nil ?_
  refine nw 11 511 (fun _ hm => ⟨hm.bl 1, hm.bl 2, hm.fa 0, hm.fa 1, hm.fa 2, hm.fa 3, hm.fa 4, hm.fa 5, hm.fa 6, hm.fa 7, hm.fa 8, trivial⟩) fun z => ?_
  refine wa1 9 rfl ?_
  refine wl_callgo (γ := Nat × Nat) (val := (fun g => .slice (some ⟨g.1, 0, none⟩) n g.2)) (φ := (fun g => True)) (fun g => ⟨.slice (some ⟨g.1, 0, none⟩) n g.2, 90, 3, n, (gvO l o2).flatMap gvEnc⟩) rfl cb126 rfl rfl (fun wx hm => (ih hgn (st ++ [(cl, u)]) (left - sp) A6 c6 wx (by rw [List.length_append, hss]; rfl) (by omega) (fun h => absurd h (by omega)) (hm.fact 1 rfl).1 (hm.fact 2 rfl).1 (hm.fact 3 rfl).1 (hm.fact 4 rfl).2 (hm.fact 5 rfl).2 (hm.fact 6 rfl).2 (hm.fact 7 rfl).2 (SlT.ofOwn gv_len (hm.ownI 0 rfl) (by rw [gvO_len (by rw [List.length_append, List.length_singleton]; omega), List.length_append, List.length_singleton]; omega))).mono fun _ _ ⟨h, hg⟩ => by
   rcases h with ⟨h2, _⟩ | ⟨o, g8, c8, h2, he, ho⟩
   ·rw [hV] at h2; cases h2
   rw [hV] at h2; cases h2; exact ⟨(g8, c8), he, trivial, ho, hg⟩) ?_
  rintro ⟨g8, c8⟩ hphi
  dsimp only at hphi ⊢
  refine wl_nil ?_
  refine nw 11 1023 (fun _ hm => ⟨hm.bl 1, hm.bl 2, hm.fa 0, hm.fa 1, hm.fa 2, hm.fa 3, hm.fa 4, hm.fa 5, hm.fa 6, hm.fa 7, hm.fa 8, trivial⟩) fun z => ?_
  refine wt 10 11 2047 rfl z (ov_assign rfl) ?_
  refine wa_done (by kernel_rfl) ?_
  refine nx_then (sr_ (mv_ rfl ?_))
  refine wl_ov (ov_bin (v := .bool true) rfl rfl (fun _ => rfl)) rfl ?_
  refine nn_ (ct_ rfl (sr_ (mv_ rfl (sg_ rfl (nn_ ?_)))))
  refine gw_ret ?_
  refine nx_blk_ret (nx_then_ret (nx_then_ret (nx_blk_ret (nx_then_ret ?_))))
  have hRo : RR = some o2 := by rw [hRj]; exact docS_got hq hgo hV
  refine nx_ret1 rfl rfl fun wx hm => ?_
  exact ⟨.inr ⟨o2, g8, c8, hRo, rfl, (hm.ownI 0 rfl)⟩, hm.g⟩
 have hj : ¬ (((j : Nat) : Int) < ((n5 : Nat) : Int)) := by simpa using hh
 clear hh
 refine gw_exit ?_
 refine nx_then_exit (nx_then_exit ?_)
 refine nx_blk_here ?_
 refine nx_then (sr_ (sg_ rfl (nn_ ?_)))
 refine gw_ret ?_
 rw [docS_end (by omega)] at hRj
 refine nx_ret1 rfl rfl fun wx hm => ?_
 exact ⟨.inl ⟨hRj, rfl⟩, hm.g⟩
theorem fl_all (cs : List Cs) (A0 : Option Addr) (n0 c0 : Nat) (sl : List Sk) (A1 : Option Addr) (n1 c1 : Nat) (l : List Bk) (A : Option Addr) (n cb gl gc gs gf : Nat) (hco : ∀ x ∈ cs, CsOk x) (hn0 : n0 ≤ 30) (hcl : Closed cs) (hlo : loopB cs cs.length = false) (hso : ∀ x ∈ sl, SkOk x) (hn1 : n1 ≤ 1000) (hmany : ∀ k, manyV sl k ≤ 100) (hix : ∀ b ∈ l, 0 ≤ ixP (csP b.cls) cs 0) (htm : BkTim l) (hn : n ≤ 12) : ∀ (d gn : Nat), gn + d = n → FlSpec cs A0 n0 c0 sl A1 n1 c1 l A n cb gl gc gs gf gn
  | 0, gn, h => fl_step cs A0 n0 c0 sl A1 n1 c1 l A n cb gl gc gs gf gn (fun h2 => absurd h2 (by omega)) (by omega) hco hn0 hcl hlo hso hn1 hmany hix htm hn
  | d + 1, gn, h => fl_step cs A0 n0 c0 sl A1 n1 c1 l A n cb gl gc gs gf gn (fun _ => fl_all cs A0 n0 c0 sl A1 n1 c1 l A n cb gl gc gs gf hco hn0 hcl hlo hso hn1 hmany hix htm hn d (gn + 1) (by omega)) (by omega) hco hn0 hcl hlo hso hn1 hmany hix htm hn
end Go.Proofs.YtempjmpfdniecaaGreatDoor
namespace Go.Proofs.YtempjmpfdniecaaGreatDoor
open Go.RowKit
theorem zc187 : zeroCs Tryz.prog 187 = some [.nilFunc] := by kernel_rfl
theorem assignOf_any (cs : List Cs) (A0 : Option Addr) (n0 c0 : Nat) (sl : List Sk) (A1 : Option Addr) (n1 c1 : Nat) (l : List Bk) (A : Option Addr) (n c : Nat) (w : World) (hcs : SlT csEnc 2 158 w A0 n0 cs) (hco : ∀ x ∈ cs, CsOk x) (hn0 : n0 ≤ 30) (hcl : Closed cs) (hlo : loopB cs cs.length = false) (hs : SlT skEnc 2 211 w A1 n1 sl) (hso : ∀ x ∈ sl, SkOk x) (hn1 : n1 ≤ 1000) (hmany : ∀ k, manyV sl k ≤ 100) (hl : SlT bkEnc 6 92 w A n l) (hix : ∀ b ∈ l, 0 ≤ ixP (csP b.cls) cs 0) (htm : BkTim l) (hn : n ≤ 12) :
  Calls Tryz.prog 39 #[.slice A0 n0 c0, .slice A1 n1 c1, .slice A n c] w (fun e w' => ((asgO cs sl l = none ∧ e = .returned (.tuple #[.slice none 0 0, .bool false])) ∨ ∃ (o : List (ByteArray × Nat)) (A' : Option Addr) (c' : Nat), asgO cs sl l = some o ∧ e = .returned (.tuple #[.slice A' n c', .bool true]) ∧ SlT gvEnc 3 90 w' A' n (gvO l o)) ∧ w.grownBy w' none) := by
 refine gw_enter ⟨28, w, none, []⟩ Tryz.func39 rfl Tryz.ntmps39 rfl (mem0 (X := [SlOld csEnc 2 158 w.heap.size none A0 n0 cs, SlOld skEnc 2 211 w.heap.size none A1 n1 sl, SlOld bkEnc 6 92 w.heap.size none A n l]) (allF_cons hcs.old (allF_cons hs.old (allF_cons hl.old allF_nil))) (allL_cons SlOld.lasts (allL_cons SlOld.lasts (allL_cons SlOld.lasts allL_nil)))) ?_
 refine sr_ ?_
 have hlen := hl.len
 have hlen0 := hcs.len
 have hN : n * n0 ≤ 360 := Nat.mul_le_mul hn hn0
 refine wl_box rfl rfl rfl fun g1 => ?_
 refine wl_box rfl rfl rfl fun g2 => ?_
 refine wl_box rfl rfl rfl fun g3 => ?_
 refine sg_ rfl (sg_ rfl (nn_ (sr_ ?_)))
 refine wl_alloc zc187 rfl fun g4 => ?_
 refine nn_ (sr_ (wl_ov (ov_makeFunc rfl rfl) rfl ?_))
 refine wl_store 0 sc187 rfl rfl rfl rfl rfl rfl ?_
 refine nn_ (gw_seq (sr_ (lk_ sc76 1 rfl rfl rfl (wl_ov (ov_len es76 rfl) rfl (lk_ sc58 3 rfl rfl rfl (wl_ov (ov_len es58 rfl) rfl ?_))))))
 refine wl_ov (ov_mul rfl rfl (by rw [← Int.natCast_mul]; omega) (by rw [← Int.natCast_mul]; omega)) rfl ?_
 refine wl_set 16 (v' := .int .i64 ((n * n0 : Nat) : Int)) rfl (congrArg (Value.int .i64) (Int.natCast_mul n n0).symm) ?_
 refine ad_ rfl rfl ?_
 refine wl_set 17 (v' := .int .i64 ((n * n0 + 1 : Nat) : Int)) rfl (congrArg (Value.int .i64) (by omega)) ?_
 refine mv_ rfl (nn_ (gw_block ?_))
 refine gw_loop (γ := Nat) (fun (i : Nat) => i ≤ n * n0 + 1 ∧ ∀ k, k < i → asgF cs sl l k = none) (fun (i : Nat) => [(8, .pointer (some ⟨g4, 0, none⟩)), (17, .int .i64 ((n * n0 + 1 : Nat) : Int)), (18, .int .i64 ((i : Nat) : Int))]) (fun (i : Nat) => fun _ => True) (fun (i : Nat) => [(g4, 187, [.func (.func 126) #[] #[.pointer (some ⟨g3, 0, none⟩), .pointer (some ⟨g1, 0, none⟩), .pointer (some ⟨g2, 0, none⟩), .pointer (some ⟨g4, 0, none⟩)]]), (g3, 76, [.slice A n c]), (g2, 75, [.slice A1 n1 c1]), (g1, 58, [.slice A0 n0 c0])]) (fun (i : Nat) => []) (fun (i : Nat) => [SlOld csEnc 2 158 w.heap.size none A0 n0 cs, SlOld skEnc 2 211 w.heap.size none A1 n1 sl, SlOld bkEnc 6 92 w.heap.size none A n l]) (fun (i : Nat) => n * n0 + 1 - i) 0 ⟨Nat.zero_le _, fun k h => absurd h (Nat.not_lt_zero k)⟩ ⟨rfl, rfl, rfl, trivial⟩ (fun _ hm => hm.pick [0, 1, 2, 3] [] [0, 1, 2] rfl rfl) ?_
 intro i hinv
 replace hinv : i ≤ n * n0 + 1 ∧ ∀ k, k < i → asgF cs sl l k = none := hinv
 refine sr_ ?_
 obtain ⟨hi0, hno⟩ := hinv
 refine wl_ov (ov_lss rfl rfl) rfl (nn_ (gw_seq ?_))
 refine gw_cond rfl (fun hh => ?_) (fun hh => ?_)
 ·have hi : ((i : Nat) : Int) < ((n * n0 + 1 : Nat) : Int) := by simpa using hh
  clear hh
  refine gw_skip (nx_then (gw_seq (gw_block (sr_ (mv_ rfl (sg_ rfl (nn_ (sr_ (lk_ sc187 0 rfl rfl rfl (mv_ rfl ?_))))))))))
  rcases hV : asgF cs sl l i with _ | o
  ·refine wl_callv rfl cb126 rfl rfl (fun wx hm => ((fl_all cs A0 n0 c0 sl A1 n1 c1 l A n c g3 g1 g2 g4 hco hn0 hcl hlo hso hn1 hmany hix htm hn n 0 (by omega) [] i none 0 wx rfl (by omega) (fun _ => ⟨rfl, rfl⟩) (hm.fact 0 rfl).1 (hm.fact 1 rfl).1 (hm.fact 2 rfl).1 (hm.blkI 1 rfl) (hm.blkI 3 rfl) (hm.blkI 2 rfl) (hm.blkI 0 rfl) (by rw [gvO_nil]; exact SlT.nil_ _ _)).mono fun _ _ ⟨h, hg⟩ => by
    rcases h with ⟨_, he⟩ | ⟨o, g8, c8, h2, _⟩
    ·exact ⟨he, hg⟩
    rw [← asgF_D, hV] at h2; cases h2)) ?_
   refine sg_ rfl (nn_ (sr_ (mv_ rfl ?_)))
   refine wl_ov (ov_bin (v := .bool false) rfl rfl (fun _ => rfl)) rfl ?_
   refine nn_ (cf_ rfl (gw_skip (nx_blk_nrm (nx_then (gw_region (ad_ rfl rfl (mv_ rfl (wl_nil ?_))))))))
   exact nx_round (i + 1) ⟨by omega, fun k hk => by
    by_cases e : k = i
    ·rw [e]; exact hV
    exact hno k (by omega)⟩ (by omega) ⟨rfl, rfl, (some_int (by omega)), trivial⟩ (fun _ hm => hm.pick [0, 1, 2, 3] [] [0, 1, 2] rfl rfl)
  refine wl_callgo (γ := Nat × Nat) (val := (fun g => .slice (some ⟨g.1, 0, none⟩) n g.2)) (φ := (fun g => True)) (fun g => ⟨.slice (some ⟨g.1, 0, none⟩) n g.2, 90, 3, n, (gvO l o).flatMap gvEnc⟩) rfl cb126 rfl rfl (fun wx hm => (fl_all cs A0 n0 c0 sl A1 n1 c1 l A n c g3 g1 g2 g4 hco hn0 hcl hlo hso hn1 hmany hix htm hn n 0 (by omega) [] i none 0 wx rfl (by omega) (fun _ => ⟨rfl, rfl⟩) (hm.fact 0 rfl).1 (hm.fact 1 rfl).1 (hm.fact 2 rfl).1 (hm.blkI 1 rfl) (hm.blkI 3 rfl) (hm.blkI 2 rfl) (hm.blkI 0 rfl) (by rw [gvO_nil]; exact SlT.nil_ _ _)).mono fun _ _ ⟨h, hg⟩ => by
   rcases h with ⟨h2, _⟩ | ⟨o, g8, c8, h2, he, ho⟩
   ·rw [← asgF_D, hV] at h2; cases h2
   rw [← asgF_D, hV] at h2; cases h2; exact ⟨(g8, c8), he, trivial, ho, hg⟩) ?_
  rintro ⟨g8, c8⟩ hphi
  dsimp only at hphi ⊢
  refine sg_ rfl (nn_ (sr_ (mv_ rfl ?_)))
  refine wl_ov (ov_bin (v := .bool true) rfl rfl (fun _ => rfl)) rfl ?_
  refine nn_ (ct_ rfl (sr_ (mv_ rfl (sg_ rfl (sg_ rfl (nn_ ?_))))))
  refine gw_ret ?_
  refine nx_blk_ret (nx_then_ret (nx_then_ret (nx_blk_ret (nx_then_ret ?_))))
  have hao : asgO cs sl l = some o := range_find hno hV (by rw [hlen, hlen0]; omega)
  have hol : (gvO l o).length = n := by rw [gvO_len (by rw [asgO_len hao]; exact Nat.le_refl _), asgO_len hao]; exact hlen
  refine nx_ret2 rfl rfl rfl fun wx hm => ?_
  exact ⟨.inr ⟨o, _, c8, hao, rfl, SlT.ofOwn gv_len (hm.ownI 0 rfl) hol⟩, hm.g⟩
 have hi : ¬ (((i : Nat) : Int) < ((n * n0 + 1 : Nat) : Int)) := by simpa using hh
 clear hh
 refine gw_exit ?_
 refine nx_then_exit (nx_then_exit ?_)
 refine nx_blk_here ?_
 refine nx_then (sr_ (sg_ rfl (sg_ rfl (nn_ ?_))))
 refine gw_ret ?_
 have hao : asgO cs sl l = none := fs_none fun k hk => hno k (by have := List.mem_range.1 hk; rw [hlen, hlen0] at this; omega)
 refine nx_ret2 rfl rfl rfl fun wx hm => ?_
 exact ⟨.inl ⟨hao, rfl⟩, hm.g⟩
end Go.Proofs.YtempjmpfdniecaaGreatDoor
namespace Go.Proofs.YtempjmpfdniecaaGreatDoor
open Go.RowKit
theorem whenE_no {b : Bool} {e : Int} (h : whenE b e = 0) (he : e ≠ 0) : b = false := by
  cases b
  · rfl
  · exact absurd h he
/-- It can be added. -/
def canB (cs : List Cs) (sl : List Sk) (l : List Bk) (b : Bk) : Bool := (asgO cs sl (withB l b)).isSome
theorem canOf_any (cs : List Cs) (A0 : Option Addr) (n0 c0 : Nat) (sl : List Sk) (A1 : Option Addr) (n1 c1 : Nat) (l : List Bk) (A : Option Addr) (n c : Nat) (x0 x1 : ByteArray) (x2 x3 x4 x5 : Int) (w : World) (hcs : SlT csEnc 2 158 w A0 n0 cs) (hco : ∀ x ∈ cs, CsOk x) (hn0 : n0 ≤ 30) (hcl : Closed cs) (hlo : loopB cs cs.length = false) (hs : SlT skEnc 2 211 w A1 n1 sl) (hso : ∀ x ∈ sl, SkOk x) (hn1 : n1 ≤ 1000) (hmany : ∀ k, manyV sl k ≤ 100) (hl : SlT bkEnc 6 92 w A n l) (hn : n ≤ 11) (hkw : ∀ x ∈ (withB l (⟨x0, x1, x2, x3, x4, x5⟩ : Bk)), keysE cs [x.cls] = 0) (htw : BkTim (withB l (⟨x0, x1, x2, x3, x4, x5⟩ : Bk))) :
  Calls Tryz.prog 46 #[.slice A0 n0 c0, .slice A1 n1 c1, .slice A n c, .agg #[.string x0, .string x1, .int .i64 x2, .int .i64 x3, .int .i64 x4, .int .i64 x5]] w (fun e w' => e = .returned (.bool (canB cs sl l (⟨x0, x1, x2, x3, x4, x5⟩ : Bk))) ∧ w.grownBy w' none) := by
 refine gw_enter ⟨21, w, none, [92]⟩ Tryz.func46 rfl Tryz.ntmps46 rfl (mem0 (X := [SlOld csEnc 2 158 w.heap.size none A0 n0 cs, SlOld skEnc 2 211 w.heap.size none A1 n1 sl, SlOld bkEnc 6 92 w.heap.size none A n l]) (allF_cons hcs.old (allF_cons hs.old (allF_cons hl.old allF_nil))) (allL_cons SlOld.lasts (allL_cons SlOld.lasts (allL_cons SlOld.lasts allL_nil)))) ?_
 refine sr_ ?_
 have hlen := hl.len
 refine wl_box rfl rfl rfl fun g1 => ?_
 refine sg_ rfl (nn_ (sr_ (mv_ rfl (mv_ rfl (mv_ rfl ?_)))))
 refine wl_ov (ov_loads rz92 rfl (fun _ hm => hm.blkI 0 rfl) rfl rfl) rfl ?_
 refine wl_callx (γ := Option Addr × Nat) (val := (fun g => .slice g.1 (n + 1) g.2)) (φ := (fun g => True)) (Y := (fun g => fun wy => SlT bkEnc 6 92 wy g.1 (n + 1) (withB l (⟨x0, x1, x2, x3, x4, x5⟩ : Bk)))) rfl cb140 rfl rfl (fun wx hm => (with_kz l A n c x0 x1 x2 x3 x4 x5 wx (hm.fact 2 rfl).1 hn).mono fun _ _ ⟨A2, c2, he, hs, hg⟩ => ⟨(A2, c2), he, trivial, hg, hs⟩) (fun _ => SlT.lasts2 rfl) ?_
 rintro ⟨A2, c2⟩ hphi
 dsimp only
 clear hphi
 refine wl_callx (γ := Option Addr × Nat × Nat × Bool) (val := (fun g => .tuple #[.slice g.1 g.2.1 g.2.2.1, .bool g.2.2.2])) (φ := (fun g => g.2.2.2 = canB cs sl l (⟨x0, x1, x2, x3, x4, x5⟩ : Bk))) (Y := (fun g => fun _ => True)) rfl cb39 rfl rfl (fun wx hm => (assignOf_any cs A0 n0 c0 sl A1 n1 c1 (withB l (⟨x0, x1, x2, x3, x4, x5⟩ : Bk)) A2 (n + 1) c2 wx (hm.fact 1 rfl).1 hco hn0 hcl hlo (hm.fact 2 rfl).1 hso hn1 hmany (hm.fact 0 rfl) (keys_ix hkw) htw (by omega)).mono fun _ _ ⟨h, hg⟩ => by
  rcases h with ⟨ha, he⟩ | ⟨o, A3, c3, ha, he, _⟩
  ·exact ⟨(none, 0, 0, false), he, (by unfold canB; rw [ha]; rfl), hg, trivial⟩
  exact ⟨(A3, n + 1, c3, true), he, (by unfold canB; rw [ha]; rfl), hg, trivial⟩) (fun _ => Lasts2.true_) ?_
 rintro ⟨A3, n3, c3, bb⟩ hbb
 dsimp only at hbb ⊢
 refine mv_ rfl (wl_ov (ov_extract rfl rfl) rfl (wl_ov (ov_extract rfl rfl) rfl (sg_ rfl (sg_ rfl (nn_ (sr_ (mv_ rfl (sg_ rfl (nn_ ?_)))))))))
 refine gw_ret ?_
 refine nx_ret1 rfl rfl fun wx hm => ?_
 exact ⟨by rw [hbb], hm.g⟩
end Go.Proofs.YtempjmpfdniecaaGreatDoor
namespace Go.Proofs.YtempjmpfdniecaaGreatDoor
open Go.RowKit
def mdLt (x y : Bk) : Bool := decide (cmpI x.made y.made < 0)
/-- One who waits. -/
def prS (cs : List Cs) (sl : List Sk) (st : List Bk × List ByteArray) (b : Bk) : List Bk × List ByteArray := if 7 ≤ st.1.length then st else if canB cs sl st.1 b = true then (withB st.1 b, st.2 ++ [b.key]) else st
/-- Those who wait, one after the other. -/
def prF (cs : List Cs) (sl : List Sk) (l Q : List Bk) : List Bk × List ByteArray := Q.foldl (prS cs sl) (l, [])
def prV (cs : List Cs) (sl : List Sk) (l wl : List Bk) : List ByteArray := (prF cs sl l (isort mdLt wl)).2
theorem prF_at {cs : List Cs} {sl : List Sk} {l Q : List Bk} {i : Nat} {x : Bk} (h : Q[i]? = some x) : prF cs sl l (Q.take (i + 1)) = prS cs sl (prF cs sl l (Q.take i)) x := by
  unfold prF
  rw [List.take_add_one, h, Option.toList_some, List.foldl_append]; rfl
theorem prS_full {cs : List Cs} {sl : List Sk} : ∀ (Q : List Bk) {st : List Bk × List ByteArray}, 7 ≤ st.1.length → Q.foldl (prS cs sl) st = st
  | [], _, _ => rfl
  | b :: Q, st, h => by
    rw [List.foldl_cons, show prS cs sl st b = st from if_pos h]
    exact prS_full Q h
theorem prF_full {cs : List Cs} {sl : List Sk} {l Q : List Bk} {i : Nat} (h : 7 ≤ (prF cs sl l (Q.take i)).1.length) : prF cs sl l Q = prF cs sl l (Q.take i) := by
  conv => lhs; rw [← List.take_append_drop i Q]
  unfold prF at h ⊢
  rw [List.foldl_append]
  exact prS_full _ h
theorem with_has2 {cs : List Cs} {l : List Bk} {b : Bk} (h2 : ∀ x ∈ l, keysE cs [x.cls] = 0) (h3 : BkTim l) (hk : keysE cs [b.cls] = 0) (ht : 0 ≤ b.fr ∧ b.fr < b.to_ ∧ b.to_ ≤ 5761439) : (∀ x ∈ withB l b, keysE cs [x.cls] = 0) ∧ BkTim (withB l b) := by
  refine ⟨fun x hx => ?_, fun x hx => ?_⟩
  · rcases withB_mem.1 hx with hx | rfl
    · exact h2 x hx
    · exact hk
  · rcases withB_mem.1 hx with hx | rfl
    · exact h3 x hx
    · exact ht
/-- One of those who wait is there already. -/
def twB (l wl : List Bk) : Bool := decide (0 ≤ ixP (fun b => hasB l b.key) wl 0)
/-- The error of Promote. -/
def prE (cs : List Cs) (sl : List Sk) (l wl : List Bk) : Int := firstE [firstE [firstE [stockE cs sl, checkE cs l], checkE cs wl], whenE (twB l wl) 6, whenE (decide (7 < ((l.length : Nat) : Int))) 2, whenE ((asgO cs sl l).isNone) 12]
theorem prom2_any (x0 x1 y0 y1 : ByteArray) (x2 x3 x4 x5 y2 y3 y4 y5 : Int) (w : World) :
  Calls Tryz.prog 146 #[.agg #[.string x0, .string x1, .int .i64 x2, .int .i64 x3, .int .i64 x4, .int .i64 x5], .agg #[.string y0, .string y1, .int .i64 y2, .int .i64 y3, .int .i64 y4, .int .i64 y5]] w (fun e w' => e = .returned (.int .i64 (cmpI x4 y4)) ∧ w.grownBy w' none) := by
 refine gw_enter ⟨10, w, none, []⟩ Tryz.func146 rfl Tryz.ntmps146 rfl (mem0 (X := []) allF_nil allL_nil) ?_
 refine sr_ ?_
 refine wl_box rfl rfl rfl fun g1 => ?_
 refine wl_box rfl rfl rfl fun g2 => ?_
 refine sg_ rfl (nn_ (sr_ (fd_ fo92_3 rfl rfl (lk_ sc3 1 rfl rfl rfl (fd_ fo92_3 rfl rfl (lk_ sc3 0 rfl rfl rfl ?_))))))
 refine wl_callv rfl cb83 rfl rfl (fun wx hm => (cmp_int _ _ wx)) ?_
 refine sg_ rfl (nn_ ?_)
 refine gw_ret ?_
 refine nx_ret1 rfl rfl fun wx hm => ?_
 exact ⟨rfl, hm.g⟩
theorem ins_md  (l0 : List Bk) (br n cap base : Nat) (w : World) (h : w.ownsRow base 92 6 (.slice (some ⟨br, 0, none⟩) n cap) n (l0.flatMap bkEnc)) (hl0 : l0.length = n) (hn : n ≤ 1000000)  :
  Calls Tryz.prog 294 #[.slice (some ⟨br, 0, none⟩) n cap, .int .i64 0, .int .i64 ((n : Nat) : Int), .func (.func 146) #[] #[]] w (fun e w' => e = .returned (.tuple #[]) ∧ w'.ownsRow base 92 6 (.slice (some ⟨br, 0, none⟩) n cap) n ((isort (mdLt) l0).flatMap bkEnc) ∧ w.grownBy w' (some br)) := by
 obtain ⟨R, hR⟩ : ∃ z, z = isort (mdLt) l0 := ⟨_, rfl⟩
 rw [← hR]
 refine gw_enter ⟨53, w, (some br), []⟩ Tryz.func294 rfl Tryz.ntmps294 rfl (memR (X := []) h allF_nil allL_nil) ?_
 refine sr_ (mv_ rfl (ad_ rfl rfl ?_))
 refine wl_set 11 (v' := .int .i64 1) rfl rfl ?_
 refine sg_ rfl (nn_ (gw_block ?_))
 refine gw_loop (γ := Nat × List Bk) (fun gg => (1 ≤ gg.1 ∧ gg.1 ≤ n + 1) ∧ gg.2.length = n ∧ isortF (mdLt) (n - gg.1) gg.1 gg.2 = R) (fun gg => [(0, .slice (some ⟨br, 0, none⟩) n cap), (1, .int .i64 0), (2, .int .i64 ((n : Nat) : Int)), (3, .func (.func 146) #[] #[]), (8, .int .i64 ((gg.1 : Nat) : Int))]) (fun gg => RowK base 92 6 n cap br ((gg.2).flatMap bkEnc)) (fun gg => []) (fun gg => []) (fun gg => []) (fun gg => n + 1 - gg.1) (1, l0) ⟨⟨Nat.le_refl _, by omega⟩, hl0, by rw [hR]; unfold isort; rw [hl0]⟩ ⟨rfl, rfl, rfl, rfl, (some_int (by omega)), trivial⟩ (fun _ hm => hm.pick [] [] [] rfl rfl) ?_
 rintro ⟨i, l⟩ hinv
 replace hinv : (1 ≤ i ∧ i ≤ n + 1) ∧ l.length = n ∧ isortF (mdLt) (n - i) i l = R := hinv
 dsimp only
 refine gw_seq (sr_ ?_)
 obtain ⟨⟨hi1, hi2⟩, hl1, hR1⟩ := hinv
 refine mv_ rfl (mv_ rfl (wl_ov (ov_lss rfl rfl) rfl (nn_ ?_)))
 refine gw_cond rfl (fun hh => ?_) (fun hh => ?_)
 ·have hi : ((i : Nat) : Int) < ((n : Nat) : Int) := by simpa using hh
  clear hh
  refine gw_skip (nx_then (gw_seq (gw_block (sr_ ?_))))
  have hRi : isortF (mdLt) (n - (i + 1)) (i + 1) (sink (mdLt) i l) = R := by rw [← hR1, show n - i = (n - (i + 1)) + 1 by omega]; rfl
  obtain ⟨S, hS⟩ : ∃ z, z = sink (mdLt) i l := ⟨_, rfl⟩
  rw [← hS] at hRi
  have hSl : S.length = n := by rw [hS, sink_len]; exact hl1
  refine mv_ rfl (sg_ rfl (nn_ (gw_block ?_)))
  refine gw_loop (γ := Nat × List Bk) (fun gg => (gg.1 ≤ i) ∧ gg.2.length = n ∧ sink (mdLt) gg.1 gg.2 = S) (fun gg => [(0, .slice (some ⟨br, 0, none⟩) n cap), (1, .int .i64 0), (2, .int .i64 ((n : Nat) : Int)), (3, .func (.func 146) #[] #[]), (8, .int .i64 ((i : Nat) : Int)), (9, .int .i64 ((gg.1 : Nat) : Int))]) (fun gg => RowK base 92 6 n cap br ((gg.2).flatMap bkEnc)) (fun gg => []) (fun gg => []) (fun gg => []) (fun gg => gg.1) (i, l) ⟨Nat.le_refl _, hl1, hS.symm⟩ ⟨rfl, rfl, rfl, rfl, rfl, rfl, trivial⟩ (fun _ hm => hm.pick [] [] [] rfl rfl) ?_
  rintro ⟨jj, m⟩ hinv
  replace hinv : (jj ≤ i) ∧ m.length = n ∧ sink (mdLt) jj m = S := hinv
  dsimp only
  refine gw_seq (gw_seq ?_)
  obtain ⟨hj1, hm1, hS1⟩ := hinv
  rcases jj with _ | j
  ·refine gd (fun wz => True) mixed (fun _ _ => trivial) fun z => ?_
   refine wt 0 17 1 rfl z (ov_move rfl) ?_
   refine wa_set 18 (v' := .int .i64 0) rfl rfl ?_
   refine wt 1 17 3 rfl z (ov_move rfl) ?_
   refine wt 2 17 7 rfl z (ov_gtr rfl rfl) ?_
   refine wa_set 20 (v' := .bool false) rfl (congrArg Value.bool (by decide)) ?_
   refine wt 3 17 15 rfl z (ov_move rfl) ?_
   refine wtf 4 17 31 rfl rfl rfl z ?_
   refine wtf 5 17 63 rfl rfl rfl z ?_
   refine wtf 6 17 127 rfl rfl rfl z ?_
   refine wtf 7 17 255 rfl rfl rfl z ?_
   refine wtf 8 17 511 rfl rfl rfl z ?_
   refine wtf 9 17 1023 rfl rfl rfl z ?_
   refine wtf 10 17 2047 rfl rfl rfl z ?_
   refine wtf 11 17 4095 rfl rfl rfl z ?_
   refine wtf 12 17 8191 rfl rfl rfl z ?_
   refine wtf 13 17 16383 rfl rfl rfl z ?_
   refine wtf 14 17 32767 rfl rfl rfl z ?_
   refine wtf 15 17 65535 rfl rfl rfl z ?_
   refine wt 16 17 131071 rfl z (ov_pick_f rfl rfl) ?_
   refine wa_done (by kernel_rfl) ?_
   refine nx_then (cf_ rfl ?_)
   refine gw_exit ?_
   refine nx_then_exit (nx_then_exit ?_)
   refine nx_blk_here ?_
   refine nx_blk_nrm (nx_then (gw_region (mv_ rfl (ad_ rfl rfl (sg_ rfl (wl_nil ?_))))))
   have hm2 : m = S := hS1
   exact nx_round (i + 1, m) ⟨⟨by dsimp only; omega, by dsimp only; omega⟩, by rw [hm2]; exact hSl, by rw [hm2]; exact hRi⟩ (by dsimp only; omega) ⟨rfl, rfl, rfl, rfl, (some_int (by omega)), trivial⟩ (fun _ hm => hm.pick [] [] [] rfl rfl)
  have hj2 : j + 1 < n := by omega
  obtain ⟨xx, hx⟩ : ∃ x, m[j + 1]? = some x := ⟨_, List.getElem?_eq_getElem (by omega)⟩
  obtain ⟨x0, x1, x2, x3, x4, x5⟩ := xx
  obtain ⟨yy, hy⟩ : ∃ x, m[j]? = some x := ⟨_, List.getElem?_eq_getElem (by omega)⟩
  obtain ⟨y0, y1, y2, y3, y4, y5⟩ := yy
  refine gd (fun wz => (RowK base 92 6 n cap br ((m).flatMap bkEnc)) wz ∧ True) mixed (fun _ hm => ⟨hm.k, trivial⟩) fun z => ?_
  refine wt 0 17 1 rfl z (ov_move rfl) ?_
  refine wt 1 17 3 rfl z (ov_move rfl) ?_
  refine wt 2 17 7 rfl z (ov_gtr rfl rfl) ?_
  refine wa_set 20 (v' := .bool true) rfl (congrArg Value.bool (decide_eq_true (by omega))) ?_
  refine wt 3 17 15 rfl z (ov_move rfl) ?_
  refine wto 4 17 31 rfl rfl rfl z (ov_move rfl) ?_
  refine wto 5 17 63 rfl rfl rfl z (ov_move rfl) ?_
  refine wto 6 17 127 rfl rfl rfl z (ov_move rfl) ?_
  refine wto 7 17 255 rfl rfl rfl z (ov_index (j := (j + 1)) es76 rfl rfl (by omega)) ?_
  refine wto 8 17 511 rfl rfl rfl z (ov_elem (vs := [.string x0, .string x1, .int .i64 x2, .int .i64 x3, .int .i64 x4, .int .i64 x5]) rz92 rfl (fun _ hm => (RowK.get (hm.1) bk_len hm1)) hx rfl rfl) ?_
  refine wto 9 17 1023 rfl rfl rfl z (ov_move rfl) ?_
  refine wto 10 17 2047 rfl rfl rfl z (ov_move rfl) ?_
  refine wto 11 17 4095 rfl rfl rfl z (ov_sub rfl rfl (by omega) (by omega)) ?_
  refine wa_set 29 (v' := .int .i64 ((j : Nat) : Int)) rfl (congrArg (Value.int .i64) (by omega)) ?_
  refine wto 12 17 8191 rfl rfl rfl z (ov_index (j := j) es76 rfl rfl (by omega)) ?_
  refine wto 13 17 16383 rfl rfl rfl z (ov_elem (vs := [.string y0, .string y1, .int .i64 y2, .int .i64 y3, .int .i64 y4, .int .i64 y5]) rz92 rfl (fun _ hm => (RowK.get (hm.1) bk_len hm1)) hy rfl rfl) ?_
  refine wa1 14 rfl ?_
  refine wl_guard_on rfl rfl rfl ?_
  refine wl_callv rfl cb146 rfl rfl (fun wx hm => (prom2_any x0 x1 y0 y1 x2 x3 x4 x5 y2 y3 y4 y5 wx)) ?_
  refine wl_nil ?_
  refine nw 17 32767 (fun _ hm => ⟨hm.k, trivial⟩) fun z => ?_
  refine wto 15 17 65535 rfl rfl rfl z (ov_lss rfl rfl) ?_
  refine wt 16 17 131071 rfl z (ov_pick_t rfl rfl) ?_
  refine wa_done (by kernel_rfl) ?_
  refine nx_then ?_
  refine gw_cond rfl (fun hh => ?_) (fun hh => ?_)
  ·have hlt : cmpI x4 y4 < 0 := by simpa using hh
   clear hh
   refine gw_skip (nx_then (gw_seq (gw_block ?_)))
   have hlt2 : (mdLt) ⟨x0, x1, x2, x3, x4, x5⟩ ⟨y0, y1, y2, y3, y4, y5⟩ = true := decide_eq_true (show cmpI x4 y4 < 0 from hlt)
   have hS2 := (sink_yes hx hy hlt2).symm.trans hS1
   refine gd (fun wz => True) mixed (fun _ _ => trivial) fun z => ?_
   refine wt 0 18 1 rfl z (ov_move rfl) ?_
   refine wt 1 18 3 rfl z (ov_move rfl) ?_
   refine wt 2 18 7 rfl z (ov_move rfl) ?_
   refine wt 3 18 15 rfl z (ov_move rfl) ?_
   refine wt 4 18 31 rfl z (ov_sub rfl rfl (by omega) (by omega)) ?_
   refine wa_set 41 (v' := .int .i64 ((j : Nat) : Int)) rfl (congrArg (Value.int .i64) (by omega)) ?_
   refine wt 5 18 63 rfl z (ov_move rfl) ?_
   refine wt 6 18 127 rfl z (ov_move rfl) ?_
   refine wt 7 18 255 rfl z (ov_sub rfl rfl (by omega) (by omega)) ?_
   refine wa_set 44 (v' := .int .i64 ((j : Nat) : Int)) rfl (congrArg (Value.int .i64) (by omega)) ?_
   refine wt 8 18 511 rfl z (ov_index (j := j) es76 rfl rfl (by omega)) ?_
   refine wt 10 18 1535 rfl z (ov_move rfl) ?_
   refine wt 11 18 3583 rfl z (ov_move rfl) ?_
   refine wt 12 18 7679 rfl z (ov_index (j := (j + 1)) es76 rfl rfl (by omega)) ?_
   refine wa_all [9, 13] (by kernel_rfl) rfl ⟨⟨_, rfl, ?_⟩, ⟨_, rfl, ?_⟩, trivial⟩
   ·refine wl_ov (ov_elem (vs := [.string y0, .string y1, .int .i64 y2, .int .i64 y3, .int .i64 y4, .int .i64 y5]) rz92 rfl (fun _ hm => (RowK.get hm.k bk_len hm1)) hy rfl rfl) rfl ?_
    refine wl_nil ?_
    refine nw 18 8191 (fun _ _ => trivial) fun z => ?_
    refine wa1 13 rfl ?_
    refine wl_ov (ov_elem (vs := [.string x0, .string x1, .int .i64 x2, .int .i64 x3, .int .i64 x4, .int .i64 x5]) rz92 rfl (fun _ hm => (RowK.get hm.k bk_len hm1)) hx rfl rfl) rfl ?_
    refine wl_nil ?_
    refine nw 18 16383 (fun _ _ => trivial) fun z => ?_
    refine wt 14 18 32767 rfl z (ov_index (j := (j + 1)) es76 rfl rfl (by omega)) ?_
    refine wa1 15 rfl ?_
    refine wl_storesRow (l := m) (j := j + 1) (r := 0) (el := ⟨x0, x1, x2, x3, x4, x5⟩) (el' := ⟨y0, y1, y2, y3, y4, y5⟩) rfl rz92 rfl rfl rfl rfl bk_len rfl hx hm1 (by decide) rfl rfl ?_
    refine wl_nil ?_
    refine nw 18 65535 (fun _ _ => trivial) fun z => ?_
    refine wt 16 18 131071 rfl z (ov_index (j := j) es76 rfl rfl (by omega)) ?_
    refine wa1 17 rfl ?_
    refine wl_storesRow (l := m.set (j + 1) ⟨y0, y1, y2, y3, y4, y5⟩) (j := j) (r := 0) (el := ⟨y0, y1, y2, y3, y4, y5⟩) (el' := ⟨x0, x1, x2, x3, x4, x5⟩) rfl rz92 rfl rfl rfl rfl bk_len rfl (by rw [List.getElem?_set_ne (by omega)]; exact hy) (by rw [List.length_set]; exact hm1) (by decide) rfl rfl ?_
    refine wl_nil ?_
    refine nw 18 262143 (fun _ _ => trivial) fun z => ?_
    refine wa_done (by kernel_rfl) ?_
    refine nx_blk_nrm (nx_then (gw_region (mv_ rfl ?_)))
    refine wl_ov (ov_sub rfl rfl (by omega) (by omega)) rfl ?_
    refine wl_set 36 (v' := .int .i64 ((j : Nat) : Int)) rfl (congrArg (Value.int .i64) (by omega)) ?_
    refine sg_ rfl (wl_nil ?_)
    exact nx_round (j, (m.set (j + 1) ⟨y0, y1, y2, y3, y4, y5⟩).set j ⟨x0, x1, x2, x3, x4, x5⟩) ⟨by dsimp only; omega, by simp [hm1], hS2⟩ (by dsimp only; omega) ⟨rfl, rfl, rfl, rfl, rfl, (some_int (by omega)), trivial⟩ (fun _ hm => hm.pick [] [] [] rfl rfl)
   refine wl_ov (ov_elem (vs := [.string x0, .string x1, .int .i64 x2, .int .i64 x3, .int .i64 x4, .int .i64 x5]) rz92 rfl (fun _ hm => (RowK.get hm.k bk_len hm1)) hx rfl rfl) rfl ?_
   refine wl_nil ?_
   refine nw 18 15871 (fun _ _ => trivial) fun z => ?_
   refine wa1 9 rfl ?_
   refine wl_ov (ov_elem (vs := [.string y0, .string y1, .int .i64 y2, .int .i64 y3, .int .i64 y4, .int .i64 y5]) rz92 rfl (fun _ hm => (RowK.get hm.k bk_len hm1)) hy rfl rfl) rfl ?_
   refine wl_nil ?_
   refine nw 18 16383 (fun _ _ => trivial) fun z => ?_
   refine wt 14 18 32767 rfl z (ov_index (j := (j + 1)) es76 rfl rfl (by omega)) ?_
   refine wa1 15 rfl ?_
   refine wl_storesRow (l := m) (j := j + 1) (r := 0) (el := ⟨x0, x1, x2, x3, x4, x5⟩) (el' := ⟨y0, y1, y2, y3, y4, y5⟩) rfl rz92 rfl rfl rfl rfl bk_len rfl hx hm1 (by decide) rfl rfl ?_
   refine wl_nil ?_
   refine nw 18 65535 (fun _ _ => trivial) fun z => ?_
   refine wt 16 18 131071 rfl z (ov_index (j := j) es76 rfl rfl (by omega)) ?_
   refine wa1 17 rfl ?_
   refine wl_storesRow (l := m.set (j + 1) ⟨y0, y1, y2, y3, y4, y5⟩) (j := j) (r := 0) (el := ⟨y0, y1, y2, y3, y4, y5⟩) (el' := ⟨x0, x1, x2, x3, x4, x5⟩) rfl rz92 rfl rfl rfl rfl bk_len rfl (by rw [List.getElem?_set_ne (by omega)]; exact hy) (by rw [List.length_set]; exact hm1) (by decide) rfl rfl ?_
   refine wl_nil ?_
   refine nw 18 262143 (fun _ _ => trivial) fun z => ?_
   refine wa_done (by kernel_rfl) ?_
   refine nx_blk_nrm (nx_then (gw_region (mv_ rfl ?_)))
   refine wl_ov (ov_sub rfl rfl (by omega) (by omega)) rfl ?_
   refine wl_set 36 (v' := .int .i64 ((j : Nat) : Int)) rfl (congrArg (Value.int .i64) (by omega)) ?_
   refine sg_ rfl (wl_nil ?_)
   exact nx_round (j, (m.set (j + 1) ⟨y0, y1, y2, y3, y4, y5⟩).set j ⟨x0, x1, x2, x3, x4, x5⟩) ⟨by dsimp only; omega, by simp [hm1], hS2⟩ (by dsimp only; omega) ⟨rfl, rfl, rfl, rfl, rfl, (some_int (by omega)), trivial⟩ (fun _ hm => hm.pick [] [] [] rfl rfl)
  have hlt : ¬ (cmpI x4 y4 < 0) := by simpa using hh
  clear hh
  refine gw_exit ?_
  refine nx_then_exit (nx_then_exit ?_)
  refine nx_blk_here ?_
  refine nx_blk_nrm (nx_then (gw_region ?_))
  have hlt2 : (mdLt) ⟨x0, x1, x2, x3, x4, x5⟩ ⟨y0, y1, y2, y3, y4, y5⟩ = false := decide_eq_false (show ¬ cmpI x4 y4 < 0 from hlt)
  have hS2 := (sink_no hx hy hlt2).symm.trans hS1
  refine mv_ rfl (ad_ rfl rfl (sg_ rfl (wl_nil ?_)))
  have hm2 : m = S := hS2
  exact nx_round (i + 1, m) ⟨⟨by dsimp only; omega, by dsimp only; omega⟩, by rw [hm2]; exact hSl, by rw [hm2]; exact hRi⟩ (by dsimp only; omega) ⟨rfl, rfl, rfl, rfl, (some_int (by omega)), trivial⟩ (fun _ hm => hm.pick [] [] [] rfl rfl)
 have hi : ¬ (((i : Nat) : Int) < ((n : Nat) : Int)) := by simpa using hh
 clear hh
 refine gw_exit ?_
 refine nx_then_exit (nx_then_exit ?_)
 refine nx_blk_here ?_
 obtain rfl : l = R := by rw [← hR1, show n - i = 0 by omega]; rfl
 refine nx_ret0 rfl fun wx hm => ?_
 exact ⟨rfl, fin_row hm.k hm.g⟩
theorem stb_md (l0 : List Bk) (br n cap base : Nat) (w : World) (h : w.ownsRow base 92 6 (.slice (some ⟨br, 0, none⟩) n cap) n (l0.flatMap bkEnc)) (hl0 : l0.length = n) (hn : n ≤ 19)  :
  Calls Tryz.prog 234 #[.slice (some ⟨br, 0, none⟩) n cap, .int .i64 ((n : Nat) : Int), .func (.func 146) #[] #[]] w (fun e w' => e = .returned (.tuple #[]) ∧ w'.ownsRow base 92 6 (.slice (some ⟨br, 0, none⟩) n cap) n ((isort mdLt l0).flatMap bkEnc) ∧ w.grownBy w' (some br)) := by
 refine gw_enter ⟨63, w, (some br), []⟩ Tryz.func234 rfl Tryz.ntmps234 rfl (memR (X := []) h allF_nil allL_nil) ?_
 refine sr_ (sg_ rfl (nn_ (sr_ (mv_ rfl (sg_ rfl (sg_ rfl (nn_ (gw_seq (gw_block ?_)))))))))
 refine gw_rounds 1 ?_
 refine gr_next ?_
 refine gw_seq (sr_ (mv_ rfl (mv_ rfl (wl_ov (ov_leq rfl rfl) rfl ?_))))
 refine wl_set 13 (v' := .bool false) rfl (congrArg Value.bool (decide_eq_false (by omega))) ?_
 refine nn_ (cf_ rfl ?_)
 refine gw_exit ?_
 refine nx_then_exit (nx_then_exit ?_)
 refine nx_blk_here ?_
 refine nx_then (sr_ (mv_ rfl (mv_ rfl (mv_ rfl (mv_ rfl ?_)))))
 refine wl_callK rfl rfl rfl cb294 rfl rfl (fun wx hm => (ins_md l0 br n cap base wx hm.k hl0 (by omega) )) ?_
 refine nn_ (gw_block ?_)
 refine gw_rounds 1 ?_
 refine gr_next ?_
 refine gw_seq (sr_ (mv_ rfl (mv_ rfl (wl_ov (ov_lss rfl rfl) rfl ?_))))
 refine wl_set 30 (v' := .bool false) rfl (congrArg Value.bool (decide_eq_false (by omega))) ?_
 refine nn_ (cf_ rfl ?_)
 refine gw_exit ?_
 refine nx_then_exit (nx_then_exit ?_)
 refine nx_blk_here ?_
 refine nx_ret0 rfl fun wx hm => ?_
 exact ⟨rfl, fin_row hm.k hm.g⟩
set_option maxRecDepth 100000 in
set_option maxHeartbeats 400000 in
theorem stable_md (l0 : List Bk) (br n cap base : Nat) (w : World) (h : w.ownsRow base 92 6 (.slice (some ⟨br, 0, none⟩) n cap) n (l0.flatMap bkEnc)) (hl0 : l0.length = n) (hn : n ≤ 19)  :
    Calls Tryz.prog 145 #[.slice (some ⟨br, 0, none⟩) n cap, .func (.func 146) #[] #[]] w (fun e w' => e = .returned (.tuple #[]) ∧ w'.ownsRow base 92 6 (.slice (some ⟨br, 0, none⟩) n cap) n ((isort mdLt l0).flatMap bkEnc) ∧ w.grownBy w' (some br)) := by
  refine gw_enter ⟨9, w, (some br), []⟩ Tryz.func145 rfl Tryz.ntmps145 rfl (memR (X := []) h allF_nil allL_nil) ?_
  refine gw_region ?_
  refine wl_ov (ov_move rfl) rfl ?_
  refine wl_ov (ov_move rfl) rfl ?_
  refine wl_ov (ov_len es76 rfl) rfl ?_
  refine wl_ov (ov_move rfl) rfl ?_
  refine wl_callK rfl rfl rfl cb234 rfl rfl (fun wx hm => (stb_md l0 br n cap base wx hm.k hl0 (by omega) )) ?_
  refine wl_nil ?_
  refine nx_ret0 rfl fun wx hm => ?_
  exact ⟨rfl, fin_row hm.k hm.g⟩
theorem ins0_md (A : Option Addr) (cap : Nat) (w : World) : Calls Tryz.prog 294 #[.slice A 0 cap, .int .i64 0, .int .i64 0, .func (.func 146) #[] #[]] w (fun e w' => e = .returned (.tuple #[]) ∧ w.grownBy w' none) := by
 refine gw_enter ⟨53, w, none, []⟩ Tryz.func294 rfl Tryz.ntmps294 rfl (mem0 (X := []) allF_nil allL_nil) ?_
 refine sr_ (mv_ rfl (ad_ rfl rfl ?_))
 refine wl_set 11 (v' := .int .i64 1) rfl rfl ?_
 refine sg_ rfl (nn_ (gw_block ?_))
 refine gw_rounds 1 ?_
 refine gr_next ?_
 refine gw_seq (sr_ (mv_ rfl (mv_ rfl (wl_ov (ov_lss rfl rfl) rfl ?_))))
 refine wl_set 14 (v' := .bool false) rfl (congrArg Value.bool (by decide)) ?_
 refine nn_ (cf_ rfl ?_)
 refine gw_exit ?_
 refine nx_then_exit (nx_then_exit ?_)
 refine nx_blk_here ?_
 refine nx_ret0 rfl fun wx hm => ?_
 exact ⟨rfl, hm.g⟩
theorem stb0_md (A : Option Addr) (cap : Nat) (w : World) : Calls Tryz.prog 234 #[.slice A 0 cap, .int .i64 0, .func (.func 146) #[] #[]] w (fun e w' => e = .returned (.tuple #[]) ∧ w.grownBy w' none) := by
 refine gw_enter ⟨63, w, none, []⟩ Tryz.func234 rfl Tryz.ntmps234 rfl (mem0 (X := []) allF_nil allL_nil) ?_
 refine sr_ (sg_ rfl (nn_ (sr_ (mv_ rfl (sg_ rfl (sg_ rfl (nn_ (gw_seq (gw_block ?_)))))))))
 refine gw_rounds 1 ?_
 refine gr_next ?_
 refine gw_seq (sr_ (mv_ rfl (mv_ rfl (wl_ov (ov_leq rfl rfl) rfl ?_))))
 refine wl_set 13 (v' := .bool false) rfl (congrArg Value.bool (by decide)) ?_
 refine nn_ (cf_ rfl ?_)
 refine gw_exit ?_
 refine nx_then_exit (nx_then_exit ?_)
 refine nx_blk_here ?_
 refine nx_then (sr_ (mv_ rfl (mv_ rfl (mv_ rfl (mv_ rfl ?_)))))
 refine wl_callv rfl cb294 rfl rfl (fun wx hm => (ins0_md A cap wx)) ?_
 refine nn_ (gw_block ?_)
 refine gw_rounds 1 ?_
 refine gr_next ?_
 refine gw_seq (sr_ (mv_ rfl (mv_ rfl (wl_ov (ov_lss rfl rfl) rfl ?_))))
 refine wl_set 30 (v' := .bool false) rfl (congrArg Value.bool (by decide)) ?_
 refine nn_ (cf_ rfl ?_)
 refine gw_exit ?_
 refine nx_then_exit (nx_then_exit ?_)
 refine nx_blk_here ?_
 refine nx_ret0 rfl fun wx hm => ?_
 exact ⟨rfl, hm.g⟩
set_option maxRecDepth 100000 in
set_option maxHeartbeats 400000 in
theorem stable0_md (A : Option Addr) (cap : Nat) (w : World) : Calls Tryz.prog 145 #[.slice A 0 cap, .func (.func 146) #[] #[]] w (fun e w' => e = .returned (.tuple #[]) ∧ w.grownBy w' none) := by
  refine gw_enter ⟨9, w, none, []⟩ Tryz.func145 rfl Tryz.ntmps145 rfl (mem0 (X := []) allF_nil allL_nil) ?_
  refine gw_region ?_
  refine wl_ov (ov_move rfl) rfl ?_
  refine wl_ov (ov_move rfl) rfl ?_
  refine wl_ov (ov_len es76 rfl) rfl ?_
  refine wl_set 6 (v' := .int .i64 0) rfl rfl ?_
  refine wl_ov (ov_move rfl) rfl ?_
  refine wl_callv rfl cb234 rfl rfl (fun wx hm => (stb0_md A cap wx)) ?_
  refine wl_nil ?_
  refine nx_ret0 rfl fun wx hm => ?_
  exact ⟨rfl, hm.g⟩
theorem pred_prom (y0 y1 : ByteArray) (y2 y3 y4 y5 : Int) (l : List Bk) (A : Option Addr) (n c : Nat) (gk : Nat) (w : World) (hl : SlT bkEnc 6 92 w A n l) (hn : n ≤ 1000) (hk : Blk w gk 76 [.slice A n c]) :
  Calls Tryz.prog 142 #[.agg #[.string y0, .string y1, .int .i64 y2, .int .i64 y3, .int .i64 y4, .int .i64 y5], .pointer (some ⟨gk, 0, none⟩)] w (fun e w' => e = .returned (.bool (hasB l y0)) ∧ w.grownBy w' none) := by
 refine gw_enter ⟨8, w, none, []⟩ Tryz.func142 rfl Tryz.ntmps142 rfl (mem0 (X := [SlOld bkEnc 6 92 w.heap.size none A n l, BlkOld w.heap.size none gk 76 [.slice A n c]]) (allF_cons hl.old (allF_cons hk.old allF_nil)) (allL_cons SlOld.lasts (allL_cons BlkOld.lasts allL_nil))) ?_
 refine sr_ ?_
 refine wl_box rfl rfl rfl fun g1 => ?_
 refine sg_ rfl (nn_ (sr_ ?_))
 refine wl_ov (ov_load (v := .slice A n c) sc76 rfl (fun _ hm => (hm.fact 1 rfl).2) rfl) rfl ?_
 refine fd_ fo92_0 rfl rfl (lk_ sc9 0 rfl rfl rfl ?_)
 refine wl_callv rfl cb143 rfl rfl (fun wx hm => (hasKey_any l A n c y0 wx (hm.fact 0 rfl).1 hn)) ?_
 refine sg_ rfl (nn_ ?_)
 refine gw_ret ?_
 refine nx_ret1 rfl rfl fun wx hm => ?_
 exact ⟨rfl, hm.g⟩
theorem index_prom (l : List Bk) (A : Option Addr) (n c : Nat) (wl : List Bk) (W : Option Addr) (p d : Nat) (gk : Nat) (w : World) (hl : SlT bkEnc 6 92 w A n l) (hn : n ≤ 1000) (hw : SlT bkEnc 6 92 w W p wl) (hp : p ≤ 1000) (hk : Blk w gk 76 [.slice A n c]) :
  Calls Tryz.prog 151 #[.slice W p d, .func (.func 142) #[] #[.pointer (some ⟨gk, 0, none⟩)]] w (GotE w (ixP (fun b => hasB l b.key) wl 0)) := by
 refine gw_enter ⟨19, w, none, []⟩ Tryz.func151 rfl Tryz.ntmps151 rfl (mem0 (X := [SlOld bkEnc 6 92 w.heap.size none A n l, BlkOld w.heap.size none gk 76 [.slice A n c], SlOld bkEnc 6 92 w.heap.size none W p wl]) (allF_cons hl.old (allF_cons hk.old (allF_cons hw.old allF_nil))) (allL_cons SlOld.lasts (allL_cons BlkOld.lasts (allL_cons SlOld.lasts allL_nil)))) ?_
 refine sr_ ?_
 have hlen := hw.len
 refine sg_ rfl (nn_ (gw_seq (sr_ (mv_ rfl (wl_ov (ov_len es76 rfl) rfl (mv_ rfl (nn_ (gw_block ?_))))))))
 refine gw_loop (γ := Nat) (fun (i : Nat) => i ≤ p ∧ ixP (fun b => hasB l b.key) wl 0 = ixP (fun b => hasB l b.key) (wl.drop i) i) (fun (i : Nat) => [(0, .slice W p d), (1, .func (.func 142) #[] #[.pointer (some ⟨gk, 0, none⟩)]), (7, .int .i64 ((p : Nat) : Int)), (8, .int .i64 ((i : Nat) : Int))]) (fun (i : Nat) => fun _ => True) (fun (i : Nat) => []) (fun (i : Nat) => []) (fun (i : Nat) => [SlOld bkEnc 6 92 w.heap.size none A n l, BlkOld w.heap.size none gk 76 [.slice A n c], SlOld bkEnc 6 92 w.heap.size none W p wl]) (fun (i : Nat) => p - i) 0 ⟨Nat.zero_le _, rfl⟩ ⟨rfl, rfl, rfl, rfl, trivial⟩ (fun _ hm => hm.pick [] [] [0, 1, 2] rfl rfl) ?_
 intro i hinv
 replace hinv : i ≤ p ∧ ixP (fun b => hasB l b.key) wl 0 = ixP (fun b => hasB l b.key) (wl.drop i) i := hinv
 refine sr_ (wl_ov (ov_lss rfl rfl) rfl (nn_ (gw_seq ?_)))
 refine gw_cond rfl (fun hh => ?_) (fun hh => ?_)
 ·have hi : ((i : Nat) : Int) < ((p : Nat) : Int) := by simpa using hh
  clear hh
  refine gw_skip (nx_then (gw_seq (gw_block (sr_ ?_))))
  obtain ⟨b, off, hA, _, _⟩ := hw.get (by omega)
  subst hA
  obtain ⟨x, hx⟩ : ∃ x, wl[i]? = some x := ⟨_, List.getElem?_eq_getElem (by omega)⟩
  obtain ⟨y0, y1, y2, y3, y4, y5⟩ := x
  have hat := ixP_at (p := (fun b => hasB l b.key)) hx
  refine mv_ rfl (sg_ rfl (nn_ (sr_ (mv_ rfl (mv_ rfl (mv_ rfl ?_))))))
  refine wl_ov (ov_index (j := i) es76 rfl rfl (by omega)) rfl ?_
  refine wl_ov (ov_elem (vs := [.string y0, .string y1, .int .i64 y2, .int .i64 y3, .int .i64 y4, .int .i64 y5]) rz92 rfl (fun _ hm => (hm.fact 2 rfl).1) hx rfl rfl) rfl ?_
  refine wl_callv rfl cb142 rfl rfl (fun wx hm => (pred_prom y0 y1 y2 y3 y4 y5 l A n c gk wx (hm.fact 0 rfl).1 hn (hm.fact 1 rfl).2)) ?_
  refine nn_ ?_
  refine gw_cond rfl (fun hh => ?_) (fun hh => ?_)
  ·have hq : (hasB l y0) = true := by simpa using hh
   clear hh
   refine sr_ (mv_ rfl (sg_ rfl (nn_ ?_)))
   refine gw_ret ?_
   refine nx_blk_ret (nx_then_ret (nx_then_ret (nx_blk_ret (nx_then_ret ?_))))
   refine nx_ret1 rfl rfl fun wx hm => ?_
   exact ⟨ret_int (by rw [hinv.2, hat, if_pos hq]), hm.g⟩
  have hq : (hasB l y0) = false := by simpa using hh
  clear hh
  refine gw_skip (nx_blk_nrm (nx_then (gw_region (ad_ rfl rfl (mv_ rfl (wl_nil ?_))))))
  exact nx_round (i + 1) ⟨by omega, by rw [hinv.2, hat, if_neg (by dsimp only; rw [hq]; decide)]⟩ (by omega) ⟨rfl, rfl, rfl, (some_int (by omega)), trivial⟩ (fun _ hm => hm.pick [] [] [0, 1, 2] rfl rfl)
 have hi : ¬ (((i : Nat) : Int) < ((p : Nat) : Int)) := by simpa using hh
 clear hh
 refine gw_exit ?_
 refine nx_then_exit (nx_then_exit ?_)
 refine nx_blk_here ?_
 refine nx_then (sr_ (sg_ rfl ?_))
 refine wl_set 4 (v' := .int .i64 (-1)) rfl rfl ?_
 refine nn_ ?_
 refine gw_ret ?_
 refine nx_ret1 rfl rfl fun wx hm => ?_
 exact ⟨ret_int (by rw [hinv.2, List.drop_eq_nil_of_le (by omega)]; rfl), hm.g⟩
theorem hasP_any (l : List Bk) (A : Option Addr) (n c : Nat) (wl : List Bk) (W : Option Addr) (p d : Nat) (gk : Nat) (w : World) (hl : SlT bkEnc 6 92 w A n l) (hn : n ≤ 1000) (hw : SlT bkEnc 6 92 w W p wl) (hp : p ≤ 1000) (hk : Blk w gk 76 [.slice A n c]) :
  Calls Tryz.prog 52 #[.slice W p d, .func (.func 142) #[] #[.pointer (some ⟨gk, 0, none⟩)]] w (fun e w' => e = .returned (.bool (twB l wl)) ∧ w.grownBy w' none) := by
 refine gw_enter ⟨9, w, none, []⟩ Tryz.func52 rfl Tryz.ntmps52 rfl (mem0 (X := [SlOld bkEnc 6 92 w.heap.size none A n l, BlkOld w.heap.size none gk 76 [.slice A n c], SlOld bkEnc 6 92 w.heap.size none W p wl]) (allF_cons hl.old (allF_cons hk.old (allF_cons hw.old allF_nil))) (allL_cons SlOld.lasts (allL_cons BlkOld.lasts (allL_cons SlOld.lasts allL_nil)))) ?_
 refine sr_ (sg_ rfl (nn_ (sr_ (mv_ rfl (mv_ rfl ?_)))))
 refine wl_callv rfl cb151 rfl rfl (fun wx hm => (index_prom l A n c wl W p d gk wx (hm.fact 0 rfl).1 hn (hm.fact 2 rfl).1 hp (hm.fact 1 rfl).2)) ?_
 refine wl_ov (ov_geq rfl rfl) rfl ?_
 refine sg_ rfl (nn_ ?_)
 refine gw_ret ?_
 refine nx_ret1 rfl rfl fun wx hm => ?_
 exact ⟨rfl, hm.g⟩
end Go.Proofs.YtempjmpfdniecaaGreatDoor
namespace Go.Proofs.YtempjmpfdniecaaGreatDoor
open Go.RowKit
theorem promote_any (cs : List Cs) (A0 : Option Addr) (n0 c0 : Nat) (sl : List Sk) (A1 : Option Addr) (n1 c1 : Nat) (l : List Bk) (A : Option Addr) (n c : Nat) (wl : List Bk) (W : Option Addr) (p d : Nat) (w : World) (hcs : SlT csEnc 2 158 w A0 n0 cs) (hco : ∀ x ∈ cs, CsOk x) (hn0 : n0 ≤ 1000) (hs : SlT skEnc 2 211 w A1 n1 sl) (hso : ∀ x ∈ sl, SkOk x) (hn1 : n1 ≤ 1000) (hl : SlT bkEnc 6 92 w A n l) (hok : ∀ x ∈ l, BkOk x) (hn : n ≤ 1000) (hw : SlT bkEnc 6 92 w W p wl) (hwo : ∀ x ∈ wl, BkOk x) (hp : p ≤ 19) :
  Calls Tryz.prog 50 #[.slice A0 n0 c0, .slice A1 n1 c1, .slice A n c, .slice W p d] w (fun e w' => ((prE cs sl l wl ≠ 0 ∧ e = .returned (.tuple #[.slice none 0 0, .int .i64 (prE cs sl l wl)])) ∨ (prE cs sl l wl = 0 ∧ ∃ (A' : Option Addr) (k c' : Nat), e = .returned (.tuple #[.slice A' k c', .int .i64 0]) ∧ SlT sgEnc 1 9 w' A' k (prV cs sl l wl))) ∧ w.grownBy w' none) := by
 refine gw_enter ⟨71, w, none, []⟩ Tryz.func50 rfl Tryz.ntmps50 rfl (mem0 (X := [SlOld csEnc 2 158 w.heap.size none A0 n0 cs, SlOld skEnc 2 211 w.heap.size none A1 n1 sl, SlOld bkEnc 6 92 w.heap.size none A n l, SlOld bkEnc 6 92 w.heap.size none W p wl]) (allF_cons hcs.old (allF_cons hs.old (allF_cons hl.old (allF_cons hw.old allF_nil)))) (allL_cons SlOld.lasts (allL_cons SlOld.lasts (allL_cons SlOld.lasts (allL_cons SlOld.lasts allL_nil))))) ?_
 refine sr_ ?_
 have hlen := hl.len
 have hwlen := hw.len
 obtain ⟨E1, hE1⟩ : ∃ z, z = firstE [stockE cs sl, checkE cs l] := ⟨_, rfl⟩
 obtain ⟨E2, hE2⟩ : ∃ z, z = checkE cs wl := ⟨_, rfl⟩
 obtain ⟨TW, hTW⟩ : ∃ z, z = twB l wl := ⟨_, rfl⟩
 obtain ⟨AN, hAN⟩ : ∃ z, z = (asgO cs sl l).isNone := ⟨_, rfl⟩
 obtain ⟨PE, hPE⟩ : ∃ z, z = prE cs sl l wl := ⟨_, rfl⟩
 have hpe : PE = firstE [firstE [E1, E2], whenE TW 6, whenE (decide (7 < ((n : Nat) : Int))) 2, whenE AN 12] := by rw [hPE, hE1, hE2, hTW, hAN, ← hlen]; rfl
 rw [← hPE]
 refine wl_box rfl rfl rfl fun g1 => ?_
 refine sg_ rfl (sg_ rfl (nn_ (gw_seq (sr_ (mv_ rfl (mv_ rfl (lk_ sc76 0 rfl rfl rfl ?_)))))))
 refine wl_callv (v := .int .i64 E1) rfl cb124 rfl rfl (fun wx hm => (by rw [hE1]; exact checkAll_any cs A0 n0 c0 sl A1 n1 c1 l A n c wx (hm.fact 0 rfl).1 hco hn0 (hm.fact 1 rfl).1 hso hn1 (hm.fact 2 rfl).1 hok hn)) ?_
 refine mv_ rfl (mv_ rfl ?_)
 refine wl_callv (v := .int .i64 E2) rfl cb141 rfl rfl (fun wx hm => (by rw [hE2]; exact bcheck_any cs A0 n0 c0 wl W p d wx (hm.fact 0 rfl).1 hco hn0 (hm.fact 3 rfl).1 hwo (by omega))) ?_
 refine wl_buildSlice (e := 33) (cs := [.int .i64 E1, .int .i64 E2]) rfl (by kernel_rfl) rfl fun g2 => ?_
 refine wl_callw rfl cb67 rfl rfl (fun wx hm => (first_any [E1, E2] _ _ _ wx (hm.blkI 0 rfl) (by simp))) ?_
 refine sg_ rfl (nn_ (sr_ (mv_ rfl (wl_ov (ov_neq rfl rfl) rfl (nn_ ?_)))))
 refine gw_cond rfl (fun hh => ?_) (fun hh => ?_)
 ·have h1 : ¬ (firstE [E1, E2] = 0) := by simpa using hh
  clear hh
  refine sr_ (mv_ rfl (sg_ rfl (sg_ rfl (nn_ ?_))))
  refine gw_ret ?_
  refine nx_then_ret ?_
  refine nx_ret2 rfl rfl rfl fun wx hm => ?_
  have h1 : firstE [E1, E2] ≠ 0 := by simpa using h1
  have hq : PE = firstE [E1, E2] := by rw [hpe]; conv => lhs; unfold firstE; rw [if_neg h1]
  exact ⟨.inl ⟨by rw [hq]; exact h1, by rw [hq]⟩, hm.g⟩
 have h1 : firstE [E1, E2] = 0 := by simpa using hh
 clear hh
 refine gw_skip (nx_then (gw_seq (sr_ ?_)))
 have h1 : firstE [E1, E2] = 0 := by simpa using h1
 refine mv_ rfl (wl_ov (ov_makeFunc rfl rfl) rfl ?_)
 refine wl_callv (v := .bool TW) rfl cb52 rfl rfl (fun wx hm => (by rw [hTW]; exact hasP_any l A n c wl W p d _ wx (hm.fact 2 rfl).1 hn (hm.fact 3 rfl).1 (by omega) (hm.blkI 1 rfl))) ?_
 refine nn_ ?_
 refine gw_cond rfl (fun hh => ?_) (fun hh => ?_)
 ·have h2 : TW = true := by simpa using hh
  clear hh
  refine sr_ (sg_ rfl (sg_ rfl (nn_ ?_)))
  refine gw_ret ?_
  refine nx_then_ret ?_
  refine nx_ret2 rfl rfl rfl fun wx hm => ?_
  exact ⟨.inl ⟨by rw [hpe, h1, h2]; exact (by decide : (6 : Int) ≠ 0), by rw [hpe, h1, h2]; rfl⟩, hm.g⟩
 have h2 : TW = false := by simpa using hh
 clear hh
 refine gw_skip (nx_then (gw_seq (sr_ (lk_ sc76 1 rfl rfl rfl (wl_ov (ov_len es76 rfl) rfl ?_)))))
 refine wl_ov (ov_gtr rfl rfl) rfl ?_
 refine nn_ ?_
 refine gw_cond rfl (fun hh => ?_) (fun hh => ?_)
 ·have h3 : 7 < ((n : Nat) : Int) := by simpa using hh
  clear hh
  refine sr_ (sg_ rfl (sg_ rfl (nn_ ?_)))
  refine gw_ret ?_
  refine nx_then_ret ?_
  refine nx_ret2 rfl rfl rfl fun wx hm => ?_
  exact ⟨.inl ⟨by rw [hpe, h1, h2, decide_eq_true h3]; exact (by decide : (2 : Int) ≠ 0), by rw [hpe, h1, h2, decide_eq_true h3]; rfl⟩, hm.g⟩
 have h3 : ¬ (7 < ((n : Nat) : Int)) := by simpa using hh
 clear hh
 refine gw_skip (nx_then (gw_seq (sr_ ?_)))
 obtain ⟨hx1, hx2⟩ := firstE_two h1
 have hz0 : firstE [stockE cs sl, checkE cs l] = 0 := hE1.symm.trans hx1
 obtain ⟨⟨h30, hcl, hlo⟩, hmany, hkeys, htm, _⟩ := right_has hz0
 have hzw : firstE [stockE cs sl, checkE cs wl] = 0 := by
  rw [(firstE_two hz0).1, ← hE2, hx2]; rfl
 obtain ⟨_, _, hkeysw, htmw, _⟩ := right_has hzw
 refine mv_ rfl (mv_ rfl (lk_ sc76 1 rfl rfl rfl ?_))
 refine wl_callx (γ := Int) (val := (fun g => .int .i64 g)) (φ := (fun g => FwOk cs sl l g)) (Y := (fun g => fun _ => True)) rfl cb134 rfl rfl (fun wx hm => (fewest_any cs A0 n0 c0 sl A1 n1 c1 l A n c wx (hm.fact 0 rfl).1 hco hn0 (hm.fact 1 rfl).1 hso hn1 (hm.fact 2 rfl).1 (by omega) hcl hlo h30 hkeys htm).mono fun _ _ ⟨v, he, hf, hg⟩ => ⟨v, he, hf, hg, trivial⟩) (fun _ => Lasts2.true_) ?_
 rintro fv hfw
 have hcan := fw_iff hfw
 refine wl_ov (ov_lss rfl rfl) rfl (nn_ ?_)
 refine gw_cond rfl (fun hh => ?_) (fun hh => ?_)
 ·have h4 : fv < 0 := by simpa using hh
  clear hh
  refine sr_ ?_
  have hn4 : AN = true := by
   rw [hAN]
   rw [decide_eq_false (by omega)] at hcan
   cases hh : asgO cs sl l with
   | none => rfl
   | some o => rw [hh] at hcan; cases hcan
  refine sg_ rfl (sg_ rfl (nn_ ?_))
  refine gw_ret ?_
  refine nx_then_ret ?_
  refine nx_ret2 rfl rfl rfl fun wx hm => ?_
  exact ⟨.inl ⟨by rw [hpe, h1, h2, decide_eq_false h3, hn4]; exact (by decide : (12 : Int) ≠ 0), by rw [hpe, h1, h2, decide_eq_false h3, hn4]; rfl⟩, hm.g⟩
 have h4 : ¬ (fv < 0) := by simpa using hh
 clear hh
 refine gw_skip (nx_then (sr_ ?_))
 have hn4 : AN = false := by
  rw [hAN]
  rw [decide_eq_true (by omega)] at hcan
  cases hh : asgO cs sl l with
  | none => rw [hh] at hcan; cases hcan
  | some o => rfl
 have hpe0 : PE = 0 := by rw [hpe, h1, h2, decide_eq_false h3, hn4]; rfl
 obtain ⟨Q, hQ⟩ : ∃ z, z = isort mdLt wl := ⟨_, rfl⟩
 have hQl : Q.length = p := by rw [hQ, isort_len]; exact hwlen
 have hQm : ∀ x ∈ Q, x ∈ wl := fun x hx => isort_mem.1 (by rw [hQ] at hx; exact hx)
 have hpv : prV cs sl l wl = (prF cs sl l Q).2 := by rw [hQ]; rfl
 rw [hpv]
 refine mv_ rfl ?_
 refine wl_callgo (γ := Option Addr × Nat) (val := (fun g => .slice g.1 p g.2)) (φ := (fun g => True)) (fun g => ⟨.slice g.1 p g.2, 92, 6, p, wl.flatMap bkEnc⟩) rfl cb144 rfl rfl (fun wx hm => (cloneBks_any wl W p d wx (hm.fact 4 rfl).1 (by omega)).mono fun _ _ ⟨A, c, he, ho, hg⟩ => ⟨(A, c), he, trivial, ho, hg⟩) ?_
 rintro ⟨A5, c5⟩ hphi
 dsimp only at hphi ⊢
 refine sg_ rfl (nn_ ?_)
 refine gw_cut (γ := Option Addr) (I := (fun (A3 : Option Addr) => True)) (S' := (fun (A3 : Option Addr) => [(0, .slice A0 n0 c0), (1, .slice A1 n1 c1), (6, .pointer (some ⟨g1, 0, none⟩)), (8, .slice none 0 0), (9, .int .i64 0), (11, .slice A3 p c5)])) (K' := (fun (A3 : Option Addr) => fun _ => True)) (L' := (fun (A3 : Option Addr) => [(g2, 33, [.int .i64 E1, .int .i64 E2]), (g1, 76, [.slice A n c])])) (O' := (fun (A3 : Option Addr) => [⟨.slice A3 p c5, 92, 6, p, Q.flatMap bkEnc⟩])) (X' := (fun (A3 : Option Addr) => [fun _ => True, SlOld csEnc 2 158 w.heap.size none A0 n0 cs, SlOld skEnc 2 211 w.heap.size none A1 n1 sl, SlOld bkEnc 6 92 w.heap.size none A n l, SlOld bkEnc 6 92 w.heap.size none W p wl])) ?_ ?_
 ·refine gw_region (mv_ rfl ?_)
  by_cases hp0 : p = 0
  ·refine wl_callv (v := .tuple #[]) rfl cb145 rfl rfl (fun wx hm => (by subst hp0; exact stable0_md A5 c5 wx)) ?_
   have hw0 : wl = [] := List.length_eq_zero_iff.1 (by omega)
   rw [show wl.flatMap bkEnc = Q.flatMap bkEnc from by rw [hQ, hw0]; rfl]
   refine wl_nil ?_
   exact nx_meet A5 trivial ⟨rfl, rfl, rfl, rfl, rfl, rfl, trivial⟩ (fun _ hm => hm.pick [0, 1] [0] [0, 1, 2, 3, 4] rfl rfl)
  refine wl_look (R := ∃ g, A5 = some ⟨g, 0, none⟩) (fun wx hm => own_addr (hm.ownI 0 rfl) (by omega)) ?_
  rintro ⟨g5, rfl⟩
  refine wl_callr (v := .tuple #[]) (xs' := Q.flatMap bkEnc) 0 rfl rfl rfl cb145 rfl rfl (fun wx hm => (by have h := stable_md wl g5 p c5 _ wx (hm.ownI 0 rfl) hwlen (by omega); rw [← hQ] at h; exact h)) ?_
  refine wl_nil ?_
  exact nx_meet (some ⟨g5, 0, none⟩) trivial ⟨rfl, rfl, rfl, rfl, rfl, rfl, trivial⟩ (fun _ hm => hm.pick [0, 1] [0] [0, 1, 2, 3, 4] rfl rfl)
 intro A3 hinv
 replace hinv : True := hinv
 refine sr_ (lk_ sc76 1 rfl rfl rfl ?_)
 refine wl_callgo (γ := Option Addr × Nat) (val := (fun g => .slice g.1 n g.2)) (φ := (fun g => True)) (fun g => ⟨.slice g.1 n g.2, 92, 6, n, l.flatMap bkEnc⟩) rfl cb144 rfl rfl (fun wx hm => (cloneBks_any l A n c wx (hm.fact 3 rfl).1 (by omega)).mono fun _ _ ⟨A, c, he, ho, hg⟩ => ⟨(A, c), he, trivial, ho, hg⟩) ?_
 rintro ⟨A7, c7⟩ hphi
 dsimp only at hphi ⊢
 refine wl_nilOwn 9 1 ?_
 refine sg_ rfl (nn_ (sr_ (sg_ rfl (nn_ (gw_seq (sr_ (mv_ rfl (wl_ov (ov_len es76 rfl) rfl (mv_ rfl ?_)))))))))
 refine nn_ (gw_block ?_)
 refine gw_loop (γ := Nat × List Bk × List ByteArray × Nat × Nat × Option Addr × Nat × Value) (fun g => g.1 ≤ p ∧ prF cs sl l (Q.take g.1) = (g.2.1, g.2.2.1) ∧ g.2.1.length = g.2.2.2.1 ∧ g.2.2.1.length = g.2.2.2.2.1 ∧ g.2.2.2.1 ≤ 7 ∧ g.2.2.2.2.1 ≤ g.1 ∧ (∀ x ∈ g.2.1, keysE cs [x.cls] = 0) ∧ BkTim g.2.1) (fun g => [(0, .slice A0 n0 c0), (1, .slice A1 n1 c1), (8, .slice none 0 0), (9, .int .i64 0), (12, .slice g.2.2.2.2.2.1 g.2.2.2.1 g.2.2.2.2.2.2.1), (13, g.2.2.2.2.2.2.2), (46, .slice A3 p c5), (47, .int .i64 ((p : Nat) : Int)), (48, .int .i64 ((g.1 : Nat) : Int))]) (fun g => fun _ => True) (fun g => [(g2, 33, [.int .i64 E1, .int .i64 E2]), (g1, 76, [.slice A n c])]) (fun g => [⟨g.2.2.2.2.2.2.2, 9, 1, g.2.2.2.2.1, g.2.2.1.flatMap sgEnc⟩, ⟨.slice g.2.2.2.2.2.1 g.2.2.2.1 g.2.2.2.2.2.2.1, 92, 6, g.2.2.2.1, g.2.1.flatMap bkEnc⟩, ⟨.slice A3 p c5, 92, 6, p, Q.flatMap bkEnc⟩]) (fun g => [fun _ => True, SlOld csEnc 2 158 w.heap.size none A0 n0 cs, SlOld skEnc 2 211 w.heap.size none A1 n1 sl, SlOld bkEnc 6 92 w.heap.size none A n l, SlOld bkEnc 6 92 w.heap.size none W p wl]) (fun g => p - g.1) (0, l, [], n, 0, A7, c7, .slice none 0 0) ⟨Nat.zero_le _, rfl, hlen, rfl, by dsimp only; omega, Nat.le_refl _, hkeys, htm⟩ ⟨rfl, rfl, rfl, rfl, rfl, rfl, rfl, rfl, rfl, trivial⟩ (fun _ hm => hm.pick [0, 1] [0, 1, 2] [0, 1, 2, 3, 4] rfl rfl) ?_
 rintro ⟨i, N, R, mm, rr, A6, c6, v⟩ hinv
 replace hinv : i ≤ p ∧ prF cs sl l (Q.take i) = (N, R) ∧ N.length = mm ∧ R.length = rr ∧ mm ≤ 7 ∧ rr ≤ i ∧ (∀ x ∈ N, keysE cs [x.cls] = 0) ∧ BkTim N := hinv
 dsimp only
 refine sr_ ?_
 obtain ⟨hi0, hpr, hNl, hRl, hm7, hri, hNk, hNt⟩ := hinv
 refine wl_ov (ov_lss rfl rfl) rfl (nn_ (gw_seq ?_))
 refine gw_cond rfl (fun hh => ?_) (fun hh => ?_)
 ·have hi : ((i : Nat) : Int) < ((p : Nat) : Int) := by simpa using hh
  clear hh
  refine gw_skip (nx_then (gw_seq (gw_block (sr_ ?_))))
  refine wl_look (R := ∃ g, A3 = some ⟨g, 0, none⟩) (fun wx hm => own_addr (hm.ownI 2 rfl) (by omega)) ?_
  rintro ⟨g6, rfl⟩
  obtain ⟨x, hx⟩ : ∃ x, Q[i]? = some x := ⟨_, List.getElem?_eq_getElem (by omega)⟩
  obtain ⟨x0, x1, x2, x3, x4, x5⟩ := x
  have hxl := hQm _ (List.mem_of_getElem? hx)
  have hat := prF_at (cs := cs) (sl := sl) (l := l) hx
  rw [hpr] at hat
  obtain ⟨hkw, htw⟩ := with_has2 (b := (⟨x0, x1, x2, x3, x4, x5⟩ : Bk)) hNk hNt (hkeysw _ hxl) (htmw _ hxl)
  refine wl_ov (ov_index (j := i) es76 rfl rfl (by omega)) rfl ?_
  refine wl_ov (ov_elem (vs := [.string x0, .string x1, .int .i64 x2, .int .i64 x3, .int .i64 x4, .int .i64 x5]) rz92 rfl (fun _ hm => (SlT.ofOwn bk_len (hm.ownI 2 rfl) hQl)) hx rfl rfl) rfl ?_
  refine wl_alloc zc92 rfl fun g4 => ?_
  refine wl_stores (cs' := [.string x0, .string x1, .int .i64 x2, .int .i64 x3, .int .i64 x4, .int .i64 x5]) 0 rz92 rfl rfl rfl rfl rfl rfl rfl rfl ?_
  refine nn_ (gw_seq (sr_ (mv_ rfl (wl_ov (ov_len es76 rfl) rfl ?_))))
  refine wl_ov (ov_geq rfl rfl) rfl ?_
  refine nn_ ?_
  refine gw_cond rfl (fun hh => ?_) (fun hh => ?_)
  ·have h7 : 7 ≤ ((mm : Nat) : Int) := by simpa using hh
   clear hh
   refine gw_exit ?_
   refine nx_then_exit ?_
   refine nx_blk_on rfl ?_
   refine nx_then_exit (nx_then_exit ?_)
   refine nx_blk_here ?_
   refine nx_then (sr_ ?_)
   have hfin : (prF cs sl l Q).2 = R := by rw [prF_full (i := i) (by rw [hpr]; dsimp only; omega), hpr]
   refine wl_look (R := ∃ A cc, v = .slice A rr cc) (fun wx hm => own_slice (hm.ownI 0 rfl)) ?_
   rintro ⟨Ao, co, rfl⟩
   refine mv_ rfl (sg_ rfl (sg_ rfl (nn_ ?_)))
   refine gw_ret ?_
   refine nx_ret2 rfl rfl rfl fun wx hm => ?_
   exact ⟨.inr ⟨hpe0, Ao, rr, co, rfl, by rw [hfin]; exact SlT.ofOwn sg_len (hm.ownI 0 rfl) hRl⟩, hm.g⟩
  have h7 : ¬ (7 ≤ ((mm : Nat) : Int)) := by simpa using hh
  clear hh
  refine gw_skip (nx_then (sr_ (mv_ rfl ?_)))
  refine wl_ov (ov_loads rz92 rfl (fun _ hm => hm.blkI 0 rfl) rfl rfl) rfl ?_
  refine wl_callgo (γ := Option Addr × Nat) (val := (fun g => .slice g.1 (mm + 1) g.2)) (φ := (fun g => True)) (fun g => ⟨.slice g.1 (mm + 1) g.2, 92, 6, mm + 1, (withB N (⟨x0, x1, x2, x3, x4, x5⟩ : Bk)).flatMap bkEnc⟩) rfl cb135 rfl rfl (fun wx hm => (with_kyO N A6 mm c6 x0 x1 x2 x3 x4 x5 wx (SlT.ofOwn bk_len (hm.ownI 1 rfl) hNl) (by omega)).mono fun _ _ ⟨A2, c2, he, ho, hg⟩ => ⟨(A2, c2), he, trivial, ho, hg⟩) ?_
  rintro ⟨A2, c2⟩ hphi
  dsimp only at hphi ⊢
  have hWl : (withB N (⟨x0, x1, x2, x3, x4, x5⟩ : Bk)).length = mm + 1 := by rw [withB_len, hNl]
  refine sg_ rfl (nn_ (sr_ (mv_ rfl (mv_ rfl (mv_ rfl ?_)))))
  refine wl_callx (γ := Int) (val := (fun g => .int .i64 g)) (φ := (fun g => FwOk cs sl (withB N (⟨x0, x1, x2, x3, x4, x5⟩ : Bk)) g)) (Y := (fun g => fun _ => True)) rfl cb134 rfl rfl (fun wx hm => (fewest_any cs A0 n0 c0 sl A1 n1 c1 (withB N (⟨x0, x1, x2, x3, x4, x5⟩ : Bk)) A2 (mm + 1) c2 wx (hm.fact 1 rfl).1 hco hn0 (hm.fact 2 rfl).1 hso hn1 (SlT.ofOwn bk_len (hm.ownI 0 rfl) hWl) (by omega) hcl hlo h30 hkw htw).mono fun _ _ ⟨v, he, hf, hg⟩ => ⟨v, he, hf, hg, trivial⟩) (fun _ => Lasts2.true_) ?_
  rintro fw hfw2
  have hcan2 : canB cs sl N (⟨x0, x1, x2, x3, x4, x5⟩ : Bk) = decide (0 ≤ fw) := (fw_iff hfw2).symm
  refine wl_ov (ov_geq rfl rfl) rfl ?_
  refine nn_ ?_
  refine gw_cond rfl (fun hh => ?_) (fun hh => ?_)
  ·have hv0 : 0 ≤ fw := by simpa using hh
   clear hh
   refine sr_ ?_
   have hst : prF cs sl l (Q.take (i + 1)) = ((withB N (⟨x0, x1, x2, x3, x4, x5⟩ : Bk)), R ++ [x0]) := by
    rw [hat]; unfold prS; dsimp only
    rw [if_neg (by omega), if_pos (by rw [hcan2]; exact decide_eq_true hv0)]
   refine mv_ rfl (sg_ rfl (nn_ (gw_region (mv_ rfl (fd_ fo92_0 rfl rfl (lk_ sc9 0 rfl rfl rfl ?_))))))
   refine wl_buildSlice (e := 9) (cs := [.string x0]) rfl (by kernel_rfl) rfl fun g6 => ?_
   refine wl_append (news := [.string x0]) 1 0 ap103 rfl rfl rfl rfl rfl rfl rfl (by omega) (by unfold maxLen; omega) rfl rfl fun u1 hu1 => ?_
   rw [show R.flatMap sgEnc ++ ([.string x0] : List Value) = (R ++ [x0]).flatMap sgEnc from by simp [sgEnc]]
   refine sg_ rfl (wl_nil (nx_blk_nrm (nx_then (gw_region (ad_ rfl rfl (mv_ rfl (wl_nil ?_)))))))
   exact nx_round (i + 1, (withB N (⟨x0, x1, x2, x3, x4, x5⟩ : Bk)), R ++ [x0], mm + 1, rr + 1, A2, c2, u1) ⟨by dsimp only; omega, hst, hWl, by simp [hRl], by dsimp only; omega, by dsimp only; omega, hkw, htw⟩ (by dsimp only; omega) ⟨rfl, rfl, rfl, rfl, rfl, rfl, rfl, rfl, (some_int (by omega)), trivial⟩ (fun _ hm => hm.pick [2, 3] [1, 0, 3] [1, 2, 3, 4, 5] rfl rfl)
  have hv0 : ¬ (0 ≤ fw) := by simpa using hh
  clear hh
  refine gw_skip (nx_blk_nrm (nx_then (gw_region ?_)))
  have hst : prF cs sl l (Q.take (i + 1)) = (N, R) := by
   rw [hat]; unfold prS; dsimp only
   rw [if_neg (by omega), if_neg (by rw [hcan2, decide_eq_false hv0]; decide)]
  refine ad_ rfl rfl (mv_ rfl (wl_nil ?_))
  exact nx_round (i + 1, N, R, mm, rr, A6, c6, v) ⟨by dsimp only; omega, hst, hNl, hRl, hm7, by dsimp only; omega, hNk, hNt⟩ (by dsimp only; omega) ⟨rfl, rfl, rfl, rfl, rfl, rfl, rfl, rfl, (some_int (by omega)), trivial⟩ (fun _ hm => hm.pick [1, 2] [1, 2, 3] [1, 2, 3, 4, 5] rfl rfl)
 have hi : ¬ (((i : Nat) : Int) < ((p : Nat) : Int)) := by simpa using hh
 clear hh
 refine gw_exit ?_
 refine nx_then_exit (nx_then_exit ?_)
 refine nx_blk_here ?_
 refine nx_then (sr_ ?_)
 have hfin : (prF cs sl l Q).2 = R := by rw [show Q.take i = Q from List.take_of_length_le (by omega)] at hpr; rw [hpr]
 refine wl_look (R := ∃ A cc, v = .slice A rr cc) (fun wx hm => own_slice (hm.ownI 0 rfl)) ?_
 rintro ⟨Ao, co, rfl⟩
 refine mv_ rfl (sg_ rfl (sg_ rfl (nn_ ?_)))
 refine gw_ret ?_
 refine nx_ret2 rfl rfl rfl fun wx hm => ?_
 exact ⟨.inr ⟨hpe0, Ao, rr, co, rfl, by rw [hfin]; exact SlT.ofOwn sg_len (hm.ownI 0 rfl) hRl⟩, hm.g⟩
end Go.Proofs.YtempjmpfdniecaaGreatDoor
namespace Go.Proofs.YtempjmpfdniecaaGreatDoor
open Go.RowKit
theorem now_sl {l N : List Bk} {A A6 : Option Addr} {n mm c c6 nn base : Nat} {vv : Value} {zs : List Value} {w : World} (h : (N = l ∧ A6 = A ∧ mm = n ∧ c6 = c) ∨ (vv = .slice A6 mm c6 ∧ nn = mm ∧ zs = N.flatMap bkEnc)) (hNl : N.length = mm) (h1 : SlT bkEnc 6 92 w A n l) (h2 : w.ownsRow base 92 6 vv nn zs) : SlT bkEnc 6 92 w A6 mm N := by
  rcases h with ⟨k1, k2, k3, _⟩ | ⟨k1, k2, k3⟩
  · rw [k1, k2, k3]; exact h1
  · rw [k1, k2, k3] at h2; exact SlT.ofOwn bk_len h2 hNl
def MdB (x : Bk) : Prop := 0 ≤ x.made ∧ x.made ≤ 5761439
theorem form_md {l : List Bk} (h : formE l = 0) : ∀ x ∈ l, MdB x := fun b hb => by
  unfold formE at h
  split at h
  · cases h
  · obtain ⟨q, hq⟩ := scanE_all h b hb
    have := bookE_ok hq
    exact ⟨by omega, by omega⟩
theorem promOf1_any (x0 x1 y0 y1 : ByteArray) (x2 x3 x4 x5 y2 y3 y4 y5 : Int) (w : World) (hb : MdB ⟨x0, x1, x2, x3, x4, x5⟩) (hb2 : MdB ⟨y0, y1, y2, y3, y4, y5⟩) :
  Calls Tryz.prog 152 #[.agg #[.string x0, .string x1, .int .i64 x2, .int .i64 x3, .int .i64 x4, .int .i64 x5], .agg #[.string y0, .string y1, .int .i64 y2, .int .i64 y3, .int .i64 y4, .int .i64 y5]] w (fun e w' => e = .returned (.int .i64 (cmpI x4 y4)) ∧ w.grownBy w' none) := by
 refine gw_enter ⟨11, w, none, []⟩ Tryz.func152 rfl Tryz.ntmps152 rfl (mem0 (X := []) allF_nil allL_nil) ?_
 refine sr_ ?_
 unfold MdB at hb hb2
 dsimp only at hb hb2
 refine wl_box rfl rfl rfl fun g1 => ?_
 refine wl_box rfl rfl rfl fun g2 => ?_
 refine sg_ rfl (nn_ (sr_ (fd_ fo92_3 rfl rfl (lk_ sc3 1 rfl rfl rfl (fd_ fo92_3 rfl rfl (lk_ sc3 0 rfl rfl rfl ?_))))))
 refine wl_ov (ov_sub rfl rfl (by omega) (by omega)) rfl ?_
 refine wl_callv rfl cb86 rfl rfl (fun wx hm => (sign_any (x4 - y4) wx)) ?_
 refine sg_ rfl (nn_ ?_)
 refine gw_ret ?_
 refine nx_ret1 rfl rfl fun wx hm => ?_
 exact ⟨by rw [sgn_cmp], hm.g⟩
theorem ins_me  (l0 : List Bk) (br n cap base : Nat) (w : World) (h : w.ownsRow base 92 6 (.slice (some ⟨br, 0, none⟩) n cap) n (l0.flatMap bkEnc)) (hl0 : l0.length = n) (hn : n ≤ 1000000) (hall : ∀ x ∈ l0, MdB x) :
  Calls Tryz.prog 294 #[.slice (some ⟨br, 0, none⟩) n cap, .int .i64 0, .int .i64 ((n : Nat) : Int), .func (.func 152) #[] #[]] w (fun e w' => e = .returned (.tuple #[]) ∧ w'.ownsRow base 92 6 (.slice (some ⟨br, 0, none⟩) n cap) n ((isort (mdLt) l0).flatMap bkEnc) ∧ w.grownBy w' (some br)) := by
 obtain ⟨R, hR⟩ : ∃ z, z = isort (mdLt) l0 := ⟨_, rfl⟩
 rw [← hR]
 refine gw_enter ⟨53, w, (some br), []⟩ Tryz.func294 rfl Tryz.ntmps294 rfl (memR (X := []) h allF_nil allL_nil) ?_
 refine sr_ (mv_ rfl (ad_ rfl rfl ?_))
 refine wl_set 11 (v' := .int .i64 1) rfl rfl ?_
 refine sg_ rfl (nn_ (gw_block ?_))
 refine gw_loop (γ := Nat × List Bk) (fun gg => (1 ≤ gg.1 ∧ gg.1 ≤ n + 1) ∧ gg.2.length = n ∧ isortF (mdLt) (n - gg.1) gg.1 gg.2 = R) (fun gg => [(0, .slice (some ⟨br, 0, none⟩) n cap), (1, .int .i64 0), (2, .int .i64 ((n : Nat) : Int)), (3, .func (.func 152) #[] #[]), (8, .int .i64 ((gg.1 : Nat) : Int))]) (fun gg => RowK base 92 6 n cap br ((gg.2).flatMap bkEnc)) (fun gg => []) (fun gg => []) (fun gg => []) (fun gg => n + 1 - gg.1) (1, l0) ⟨⟨Nat.le_refl _, by omega⟩, hl0, by rw [hR]; unfold isort; rw [hl0]⟩ ⟨rfl, rfl, rfl, rfl, (some_int (by omega)), trivial⟩ (fun _ hm => hm.pick [] [] [] rfl rfl) ?_
 rintro ⟨i, l⟩ hinv
 replace hinv : (1 ≤ i ∧ i ≤ n + 1) ∧ l.length = n ∧ isortF (mdLt) (n - i) i l = R := hinv
 dsimp only
 refine gw_seq (sr_ ?_)
 obtain ⟨⟨hi1, hi2⟩, hl1, hR1⟩ := hinv
 refine mv_ rfl (mv_ rfl (wl_ov (ov_lss rfl rfl) rfl (nn_ ?_)))
 refine gw_cond rfl (fun hh => ?_) (fun hh => ?_)
 ·have hi : ((i : Nat) : Int) < ((n : Nat) : Int) := by simpa using hh
  clear hh
  refine gw_skip (nx_then (gw_seq (gw_block (sr_ ?_))))
  have hRi : isortF (mdLt) (n - (i + 1)) (i + 1) (sink (mdLt) i l) = R := by rw [← hR1, show n - i = (n - (i + 1)) + 1 by omega]; rfl
  obtain ⟨S, hS⟩ : ∃ z, z = sink (mdLt) i l := ⟨_, rfl⟩
  rw [← hS] at hRi
  have hSl : S.length = n := by rw [hS, sink_len]; exact hl1
  refine mv_ rfl (sg_ rfl (nn_ (gw_block ?_)))
  refine gw_loop (γ := Nat × List Bk) (fun gg => (gg.1 ≤ i) ∧ gg.2.length = n ∧ sink (mdLt) gg.1 gg.2 = S) (fun gg => [(0, .slice (some ⟨br, 0, none⟩) n cap), (1, .int .i64 0), (2, .int .i64 ((n : Nat) : Int)), (3, .func (.func 152) #[] #[]), (8, .int .i64 ((i : Nat) : Int)), (9, .int .i64 ((gg.1 : Nat) : Int))]) (fun gg => RowK base 92 6 n cap br ((gg.2).flatMap bkEnc)) (fun gg => []) (fun gg => []) (fun gg => []) (fun gg => gg.1) (i, l) ⟨Nat.le_refl _, hl1, hS.symm⟩ ⟨rfl, rfl, rfl, rfl, rfl, rfl, trivial⟩ (fun _ hm => hm.pick [] [] [] rfl rfl) ?_
  rintro ⟨jj, m⟩ hinv
  replace hinv : (jj ≤ i) ∧ m.length = n ∧ sink (mdLt) jj m = S := hinv
  dsimp only
  refine gw_seq (gw_seq ?_)
  obtain ⟨hj1, hm1, hS1⟩ := hinv
  rcases jj with _ | j
  ·refine gd (fun wz => True) mixed (fun _ _ => trivial) fun z => ?_
   refine wt 0 17 1 rfl z (ov_move rfl) ?_
   refine wa_set 18 (v' := .int .i64 0) rfl rfl ?_
   refine wt 1 17 3 rfl z (ov_move rfl) ?_
   refine wt 2 17 7 rfl z (ov_gtr rfl rfl) ?_
   refine wa_set 20 (v' := .bool false) rfl (congrArg Value.bool (by decide)) ?_
   refine wt 3 17 15 rfl z (ov_move rfl) ?_
   refine wtf 4 17 31 rfl rfl rfl z ?_
   refine wtf 5 17 63 rfl rfl rfl z ?_
   refine wtf 6 17 127 rfl rfl rfl z ?_
   refine wtf 7 17 255 rfl rfl rfl z ?_
   refine wtf 8 17 511 rfl rfl rfl z ?_
   refine wtf 9 17 1023 rfl rfl rfl z ?_
   refine wtf 10 17 2047 rfl rfl rfl z ?_
   refine wtf 11 17 4095 rfl rfl rfl z ?_
   refine wtf 12 17 8191 rfl rfl rfl z ?_
   refine wtf 13 17 16383 rfl rfl rfl z ?_
   refine wtf 14 17 32767 rfl rfl rfl z ?_
   refine wtf 15 17 65535 rfl rfl rfl z ?_
   refine wt 16 17 131071 rfl z (ov_pick_f rfl rfl) ?_
   refine wa_done (by kernel_rfl) ?_
   refine nx_then (cf_ rfl ?_)
   refine gw_exit ?_
   refine nx_then_exit (nx_then_exit ?_)
   refine nx_blk_here ?_
   refine nx_blk_nrm (nx_then (gw_region (mv_ rfl (ad_ rfl rfl (sg_ rfl (wl_nil ?_))))))
   have hm2 : m = S := hS1
   exact nx_round (i + 1, m) ⟨⟨by dsimp only; omega, by dsimp only; omega⟩, by rw [hm2]; exact hSl, by rw [hm2]; exact hRi⟩ (by dsimp only; omega) ⟨rfl, rfl, rfl, rfl, (some_int (by omega)), trivial⟩ (fun _ hm => hm.pick [] [] [] rfl rfl)
  have hj2 : j + 1 < n := by omega
  have hin : ∀ z ∈ m, z ∈ l0 := fun z hz => mem_in hR hRi hS1 hz
  obtain ⟨xx, hx⟩ : ∃ x, m[j + 1]? = some x := ⟨_, List.getElem?_eq_getElem (by omega)⟩
  obtain ⟨x0, x1, x2, x3, x4, x5⟩ := xx
  obtain ⟨yy, hy⟩ : ∃ x, m[j]? = some x := ⟨_, List.getElem?_eq_getElem (by omega)⟩
  obtain ⟨y0, y1, y2, y3, y4, y5⟩ := yy
  refine gd (fun wz => (RowK base 92 6 n cap br ((m).flatMap bkEnc)) wz ∧ True) mixed (fun _ hm => ⟨hm.k, trivial⟩) fun z => ?_
  refine wt 0 17 1 rfl z (ov_move rfl) ?_
  refine wt 1 17 3 rfl z (ov_move rfl) ?_
  refine wt 2 17 7 rfl z (ov_gtr rfl rfl) ?_
  refine wa_set 20 (v' := .bool true) rfl (congrArg Value.bool (decide_eq_true (by omega))) ?_
  refine wt 3 17 15 rfl z (ov_move rfl) ?_
  refine wto 4 17 31 rfl rfl rfl z (ov_move rfl) ?_
  refine wto 5 17 63 rfl rfl rfl z (ov_move rfl) ?_
  refine wto 6 17 127 rfl rfl rfl z (ov_move rfl) ?_
  refine wto 7 17 255 rfl rfl rfl z (ov_index (j := (j + 1)) es76 rfl rfl (by omega)) ?_
  refine wto 8 17 511 rfl rfl rfl z (ov_elem (vs := [.string x0, .string x1, .int .i64 x2, .int .i64 x3, .int .i64 x4, .int .i64 x5]) rz92 rfl (fun _ hm => (RowK.get (hm.1) bk_len hm1)) hx rfl rfl) ?_
  refine wto 9 17 1023 rfl rfl rfl z (ov_move rfl) ?_
  refine wto 10 17 2047 rfl rfl rfl z (ov_move rfl) ?_
  refine wto 11 17 4095 rfl rfl rfl z (ov_sub rfl rfl (by omega) (by omega)) ?_
  refine wa_set 29 (v' := .int .i64 ((j : Nat) : Int)) rfl (congrArg (Value.int .i64) (by omega)) ?_
  refine wto 12 17 8191 rfl rfl rfl z (ov_index (j := j) es76 rfl rfl (by omega)) ?_
  refine wto 13 17 16383 rfl rfl rfl z (ov_elem (vs := [.string y0, .string y1, .int .i64 y2, .int .i64 y3, .int .i64 y4, .int .i64 y5]) rz92 rfl (fun _ hm => (RowK.get (hm.1) bk_len hm1)) hy rfl rfl) ?_
  refine wa1 14 rfl ?_
  refine wl_guard_on rfl rfl rfl ?_
  refine wl_callv rfl cb152 rfl rfl (fun wx hm => (promOf1_any x0 x1 y0 y1 x2 x3 x4 x5 y2 y3 y4 y5 wx (hall _ (hin _ (List.mem_of_getElem? hx))) (hall _ (hin _ (List.mem_of_getElem? hy))))) ?_
  refine wl_nil ?_
  refine nw 17 32767 (fun _ hm => ⟨hm.k, trivial⟩) fun z => ?_
  refine wto 15 17 65535 rfl rfl rfl z (ov_lss rfl rfl) ?_
  refine wt 16 17 131071 rfl z (ov_pick_t rfl rfl) ?_
  refine wa_done (by kernel_rfl) ?_
  refine nx_then ?_
  refine gw_cond rfl (fun hh => ?_) (fun hh => ?_)
  ·have hlt : cmpI x4 y4 < 0 := by simpa using hh
   clear hh
   refine gw_skip (nx_then (gw_seq (gw_block ?_)))
   have hlt2 : (mdLt) ⟨x0, x1, x2, x3, x4, x5⟩ ⟨y0, y1, y2, y3, y4, y5⟩ = true := decide_eq_true (show cmpI x4 y4 < 0 from hlt)
   have hS2 := (sink_yes hx hy hlt2).symm.trans hS1
   refine gd (fun wz => True) mixed (fun _ _ => trivial) fun z => ?_
   refine wt 0 18 1 rfl z (ov_move rfl) ?_
   refine wt 1 18 3 rfl z (ov_move rfl) ?_
   refine wt 2 18 7 rfl z (ov_move rfl) ?_
   refine wt 3 18 15 rfl z (ov_move rfl) ?_
   refine wt 4 18 31 rfl z (ov_sub rfl rfl (by omega) (by omega)) ?_
   refine wa_set 41 (v' := .int .i64 ((j : Nat) : Int)) rfl (congrArg (Value.int .i64) (by omega)) ?_
   refine wt 5 18 63 rfl z (ov_move rfl) ?_
   refine wt 6 18 127 rfl z (ov_move rfl) ?_
   refine wt 7 18 255 rfl z (ov_sub rfl rfl (by omega) (by omega)) ?_
   refine wa_set 44 (v' := .int .i64 ((j : Nat) : Int)) rfl (congrArg (Value.int .i64) (by omega)) ?_
   refine wt 8 18 511 rfl z (ov_index (j := j) es76 rfl rfl (by omega)) ?_
   refine wt 10 18 1535 rfl z (ov_move rfl) ?_
   refine wt 11 18 3583 rfl z (ov_move rfl) ?_
   refine wt 12 18 7679 rfl z (ov_index (j := (j + 1)) es76 rfl rfl (by omega)) ?_
   refine wa_all [9, 13] (by kernel_rfl) rfl ⟨⟨_, rfl, ?_⟩, ⟨_, rfl, ?_⟩, trivial⟩
   ·refine wl_ov (ov_elem (vs := [.string y0, .string y1, .int .i64 y2, .int .i64 y3, .int .i64 y4, .int .i64 y5]) rz92 rfl (fun _ hm => (RowK.get hm.k bk_len hm1)) hy rfl rfl) rfl ?_
    refine wl_nil ?_
    refine nw 18 8191 (fun _ _ => trivial) fun z => ?_
    refine wa1 13 rfl ?_
    refine wl_ov (ov_elem (vs := [.string x0, .string x1, .int .i64 x2, .int .i64 x3, .int .i64 x4, .int .i64 x5]) rz92 rfl (fun _ hm => (RowK.get hm.k bk_len hm1)) hx rfl rfl) rfl ?_
    refine wl_nil ?_
    refine nw 18 16383 (fun _ _ => trivial) fun z => ?_
    refine wt 14 18 32767 rfl z (ov_index (j := (j + 1)) es76 rfl rfl (by omega)) ?_
    refine wa1 15 rfl ?_
    refine wl_storesRow (l := m) (j := j + 1) (r := 0) (el := ⟨x0, x1, x2, x3, x4, x5⟩) (el' := ⟨y0, y1, y2, y3, y4, y5⟩) rfl rz92 rfl rfl rfl rfl bk_len rfl hx hm1 (by decide) rfl rfl ?_
    refine wl_nil ?_
    refine nw 18 65535 (fun _ _ => trivial) fun z => ?_
    refine wt 16 18 131071 rfl z (ov_index (j := j) es76 rfl rfl (by omega)) ?_
    refine wa1 17 rfl ?_
    refine wl_storesRow (l := m.set (j + 1) ⟨y0, y1, y2, y3, y4, y5⟩) (j := j) (r := 0) (el := ⟨y0, y1, y2, y3, y4, y5⟩) (el' := ⟨x0, x1, x2, x3, x4, x5⟩) rfl rz92 rfl rfl rfl rfl bk_len rfl (by rw [List.getElem?_set_ne (by omega)]; exact hy) (by rw [List.length_set]; exact hm1) (by decide) rfl rfl ?_
    refine wl_nil ?_
    refine nw 18 262143 (fun _ _ => trivial) fun z => ?_
    refine wa_done (by kernel_rfl) ?_
    refine nx_blk_nrm (nx_then (gw_region (mv_ rfl ?_)))
    refine wl_ov (ov_sub rfl rfl (by omega) (by omega)) rfl ?_
    refine wl_set 36 (v' := .int .i64 ((j : Nat) : Int)) rfl (congrArg (Value.int .i64) (by omega)) ?_
    refine sg_ rfl (wl_nil ?_)
    exact nx_round (j, (m.set (j + 1) ⟨y0, y1, y2, y3, y4, y5⟩).set j ⟨x0, x1, x2, x3, x4, x5⟩) ⟨by dsimp only; omega, by simp [hm1], hS2⟩ (by dsimp only; omega) ⟨rfl, rfl, rfl, rfl, rfl, (some_int (by omega)), trivial⟩ (fun _ hm => hm.pick [] [] [] rfl rfl)
   refine wl_ov (ov_elem (vs := [.string x0, .string x1, .int .i64 x2, .int .i64 x3, .int .i64 x4, .int .i64 x5]) rz92 rfl (fun _ hm => (RowK.get hm.k bk_len hm1)) hx rfl rfl) rfl ?_
   refine wl_nil ?_
   refine nw 18 15871 (fun _ _ => trivial) fun z => ?_
   refine wa1 9 rfl ?_
   refine wl_ov (ov_elem (vs := [.string y0, .string y1, .int .i64 y2, .int .i64 y3, .int .i64 y4, .int .i64 y5]) rz92 rfl (fun _ hm => (RowK.get hm.k bk_len hm1)) hy rfl rfl) rfl ?_
   refine wl_nil ?_
   refine nw 18 16383 (fun _ _ => trivial) fun z => ?_
   refine wt 14 18 32767 rfl z (ov_index (j := (j + 1)) es76 rfl rfl (by omega)) ?_
   refine wa1 15 rfl ?_
   refine wl_storesRow (l := m) (j := j + 1) (r := 0) (el := ⟨x0, x1, x2, x3, x4, x5⟩) (el' := ⟨y0, y1, y2, y3, y4, y5⟩) rfl rz92 rfl rfl rfl rfl bk_len rfl hx hm1 (by decide) rfl rfl ?_
   refine wl_nil ?_
   refine nw 18 65535 (fun _ _ => trivial) fun z => ?_
   refine wt 16 18 131071 rfl z (ov_index (j := j) es76 rfl rfl (by omega)) ?_
   refine wa1 17 rfl ?_
   refine wl_storesRow (l := m.set (j + 1) ⟨y0, y1, y2, y3, y4, y5⟩) (j := j) (r := 0) (el := ⟨y0, y1, y2, y3, y4, y5⟩) (el' := ⟨x0, x1, x2, x3, x4, x5⟩) rfl rz92 rfl rfl rfl rfl bk_len rfl (by rw [List.getElem?_set_ne (by omega)]; exact hy) (by rw [List.length_set]; exact hm1) (by decide) rfl rfl ?_
   refine wl_nil ?_
   refine nw 18 262143 (fun _ _ => trivial) fun z => ?_
   refine wa_done (by kernel_rfl) ?_
   refine nx_blk_nrm (nx_then (gw_region (mv_ rfl ?_)))
   refine wl_ov (ov_sub rfl rfl (by omega) (by omega)) rfl ?_
   refine wl_set 36 (v' := .int .i64 ((j : Nat) : Int)) rfl (congrArg (Value.int .i64) (by omega)) ?_
   refine sg_ rfl (wl_nil ?_)
   exact nx_round (j, (m.set (j + 1) ⟨y0, y1, y2, y3, y4, y5⟩).set j ⟨x0, x1, x2, x3, x4, x5⟩) ⟨by dsimp only; omega, by simp [hm1], hS2⟩ (by dsimp only; omega) ⟨rfl, rfl, rfl, rfl, rfl, (some_int (by omega)), trivial⟩ (fun _ hm => hm.pick [] [] [] rfl rfl)
  have hlt : ¬ (cmpI x4 y4 < 0) := by simpa using hh
  clear hh
  refine gw_exit ?_
  refine nx_then_exit (nx_then_exit ?_)
  refine nx_blk_here ?_
  refine nx_blk_nrm (nx_then (gw_region ?_))
  have hlt2 : (mdLt) ⟨x0, x1, x2, x3, x4, x5⟩ ⟨y0, y1, y2, y3, y4, y5⟩ = false := decide_eq_false (show ¬ cmpI x4 y4 < 0 from hlt)
  have hS2 := (sink_no hx hy hlt2).symm.trans hS1
  refine mv_ rfl (ad_ rfl rfl (sg_ rfl (wl_nil ?_)))
  have hm2 : m = S := hS2
  exact nx_round (i + 1, m) ⟨⟨by dsimp only; omega, by dsimp only; omega⟩, by rw [hm2]; exact hSl, by rw [hm2]; exact hRi⟩ (by dsimp only; omega) ⟨rfl, rfl, rfl, rfl, (some_int (by omega)), trivial⟩ (fun _ hm => hm.pick [] [] [] rfl rfl)
 have hi : ¬ (((i : Nat) : Int) < ((n : Nat) : Int)) := by simpa using hh
 clear hh
 refine gw_exit ?_
 refine nx_then_exit (nx_then_exit ?_)
 refine nx_blk_here ?_
 obtain rfl : l = R := by rw [← hR1, show n - i = 0 by omega]; rfl
 refine nx_ret0 rfl fun wx hm => ?_
 exact ⟨rfl, fin_row hm.k hm.g⟩
theorem stb_me (l0 : List Bk) (br n cap base : Nat) (w : World) (h : w.ownsRow base 92 6 (.slice (some ⟨br, 0, none⟩) n cap) n (l0.flatMap bkEnc)) (hl0 : l0.length = n) (hn : n ≤ 19) (hall : ∀ x ∈ l0, MdB x) :
  Calls Tryz.prog 234 #[.slice (some ⟨br, 0, none⟩) n cap, .int .i64 ((n : Nat) : Int), .func (.func 152) #[] #[]] w (fun e w' => e = .returned (.tuple #[]) ∧ w'.ownsRow base 92 6 (.slice (some ⟨br, 0, none⟩) n cap) n ((isort mdLt l0).flatMap bkEnc) ∧ w.grownBy w' (some br)) := by
 refine gw_enter ⟨63, w, (some br), []⟩ Tryz.func234 rfl Tryz.ntmps234 rfl (memR (X := []) h allF_nil allL_nil) ?_
 refine sr_ (sg_ rfl (nn_ (sr_ (mv_ rfl (sg_ rfl (sg_ rfl (nn_ (gw_seq (gw_block ?_)))))))))
 refine gw_rounds 1 ?_
 refine gr_next ?_
 refine gw_seq (sr_ (mv_ rfl (mv_ rfl (wl_ov (ov_leq rfl rfl) rfl ?_))))
 refine wl_set 13 (v' := .bool false) rfl (congrArg Value.bool (decide_eq_false (by omega))) ?_
 refine nn_ (cf_ rfl ?_)
 refine gw_exit ?_
 refine nx_then_exit (nx_then_exit ?_)
 refine nx_blk_here ?_
 refine nx_then (sr_ (mv_ rfl (mv_ rfl (mv_ rfl (mv_ rfl ?_)))))
 refine wl_callK rfl rfl rfl cb294 rfl rfl (fun wx hm => (ins_me l0 br n cap base wx hm.k hl0 (by omega) hall)) ?_
 refine nn_ (gw_block ?_)
 refine gw_rounds 1 ?_
 refine gr_next ?_
 refine gw_seq (sr_ (mv_ rfl (mv_ rfl (wl_ov (ov_lss rfl rfl) rfl ?_))))
 refine wl_set 30 (v' := .bool false) rfl (congrArg Value.bool (decide_eq_false (by omega))) ?_
 refine nn_ (cf_ rfl ?_)
 refine gw_exit ?_
 refine nx_then_exit (nx_then_exit ?_)
 refine nx_blk_here ?_
 refine nx_ret0 rfl fun wx hm => ?_
 exact ⟨rfl, fin_row hm.k hm.g⟩
set_option maxRecDepth 100000 in
set_option maxHeartbeats 400000 in
theorem stable_me (l0 : List Bk) (br n cap base : Nat) (w : World) (h : w.ownsRow base 92 6 (.slice (some ⟨br, 0, none⟩) n cap) n (l0.flatMap bkEnc)) (hl0 : l0.length = n) (hn : n ≤ 19) (hall : ∀ x ∈ l0, MdB x) :
    Calls Tryz.prog 145 #[.slice (some ⟨br, 0, none⟩) n cap, .func (.func 152) #[] #[]] w (fun e w' => e = .returned (.tuple #[]) ∧ w'.ownsRow base 92 6 (.slice (some ⟨br, 0, none⟩) n cap) n ((isort mdLt l0).flatMap bkEnc) ∧ w.grownBy w' (some br)) := by
  refine gw_enter ⟨9, w, (some br), []⟩ Tryz.func145 rfl Tryz.ntmps145 rfl (memR (X := []) h allF_nil allL_nil) ?_
  refine gw_region ?_
  refine wl_ov (ov_move rfl) rfl ?_
  refine wl_ov (ov_move rfl) rfl ?_
  refine wl_ov (ov_len es76 rfl) rfl ?_
  refine wl_ov (ov_move rfl) rfl ?_
  refine wl_callK rfl rfl rfl cb234 rfl rfl (fun wx hm => (stb_me l0 br n cap base wx hm.k hl0 (by omega) hall)) ?_
  refine wl_nil ?_
  refine nx_ret0 rfl fun wx hm => ?_
  exact ⟨rfl, fin_row hm.k hm.g⟩
theorem ins0_me (A : Option Addr) (cap : Nat) (w : World) : Calls Tryz.prog 294 #[.slice A 0 cap, .int .i64 0, .int .i64 0, .func (.func 152) #[] #[]] w (fun e w' => e = .returned (.tuple #[]) ∧ w.grownBy w' none) := by
 refine gw_enter ⟨53, w, none, []⟩ Tryz.func294 rfl Tryz.ntmps294 rfl (mem0 (X := []) allF_nil allL_nil) ?_
 refine sr_ (mv_ rfl (ad_ rfl rfl ?_))
 refine wl_set 11 (v' := .int .i64 1) rfl rfl ?_
 refine sg_ rfl (nn_ (gw_block ?_))
 refine gw_rounds 1 ?_
 refine gr_next ?_
 refine gw_seq (sr_ (mv_ rfl (mv_ rfl (wl_ov (ov_lss rfl rfl) rfl ?_))))
 refine wl_set 14 (v' := .bool false) rfl (congrArg Value.bool (by decide)) ?_
 refine nn_ (cf_ rfl ?_)
 refine gw_exit ?_
 refine nx_then_exit (nx_then_exit ?_)
 refine nx_blk_here ?_
 refine nx_ret0 rfl fun wx hm => ?_
 exact ⟨rfl, hm.g⟩
theorem stb0_me (A : Option Addr) (cap : Nat) (w : World) : Calls Tryz.prog 234 #[.slice A 0 cap, .int .i64 0, .func (.func 152) #[] #[]] w (fun e w' => e = .returned (.tuple #[]) ∧ w.grownBy w' none) := by
 refine gw_enter ⟨63, w, none, []⟩ Tryz.func234 rfl Tryz.ntmps234 rfl (mem0 (X := []) allF_nil allL_nil) ?_
 refine sr_ (sg_ rfl (nn_ (sr_ (mv_ rfl (sg_ rfl (sg_ rfl (nn_ (gw_seq (gw_block ?_)))))))))
 refine gw_rounds 1 ?_
 refine gr_next ?_
 refine gw_seq (sr_ (mv_ rfl (mv_ rfl (wl_ov (ov_leq rfl rfl) rfl ?_))))
 refine wl_set 13 (v' := .bool false) rfl (congrArg Value.bool (by decide)) ?_
 refine nn_ (cf_ rfl ?_)
 refine gw_exit ?_
 refine nx_then_exit (nx_then_exit ?_)
 refine nx_blk_here ?_
 refine nx_then (sr_ (mv_ rfl (mv_ rfl (mv_ rfl (mv_ rfl ?_)))))
 refine wl_callv rfl cb294 rfl rfl (fun wx hm => (ins0_me A cap wx)) ?_
 refine nn_ (gw_block ?_)
 refine gw_rounds 1 ?_
 refine gr_next ?_
 refine gw_seq (sr_ (mv_ rfl (mv_ rfl (wl_ov (ov_lss rfl rfl) rfl ?_))))
 refine wl_set 30 (v' := .bool false) rfl (congrArg Value.bool (by decide)) ?_
 refine nn_ (cf_ rfl ?_)
 refine gw_exit ?_
 refine nx_then_exit (nx_then_exit ?_)
 refine nx_blk_here ?_
 refine nx_ret0 rfl fun wx hm => ?_
 exact ⟨rfl, hm.g⟩
set_option maxRecDepth 100000 in
set_option maxHeartbeats 400000 in
theorem stable0_me (A : Option Addr) (cap : Nat) (w : World) : Calls Tryz.prog 145 #[.slice A 0 cap, .func (.func 152) #[] #[]] w (fun e w' => e = .returned (.tuple #[]) ∧ w.grownBy w' none) := by
  refine gw_enter ⟨9, w, none, []⟩ Tryz.func145 rfl Tryz.ntmps145 rfl (mem0 (X := []) allF_nil allL_nil) ?_
  refine gw_region ?_
  refine wl_ov (ov_move rfl) rfl ?_
  refine wl_ov (ov_move rfl) rfl ?_
  refine wl_ov (ov_len es76 rfl) rfl ?_
  refine wl_set 6 (v' := .int .i64 0) rfl rfl ?_
  refine wl_ov (ov_move rfl) rfl ?_
  refine wl_callv rfl cb234 rfl rfl (fun wx hm => (stb0_me A cap wx)) ?_
  refine wl_nil ?_
  refine nx_ret0 rfl fun wx hm => ?_
  exact ⟨rfl, hm.g⟩
theorem promoteOf_any (cs : List Cs) (A0 : Option Addr) (n0 c0 : Nat) (sl : List Sk) (A1 : Option Addr) (n1 c1 : Nat) (l : List Bk) (A : Option Addr) (n c : Nat) (wl : List Bk) (W : Option Addr) (p d : Nat) (w : World) (hcs : SlT csEnc 2 158 w A0 n0 cs) (hco : ∀ x ∈ cs, CsOk x) (hn0 : n0 ≤ 30) (hs : SlT skEnc 2 211 w A1 n1 sl) (hso : ∀ x ∈ sl, SkOk x) (hn1 : n1 ≤ 1000) (hl : SlT bkEnc 6 92 w A n l) (hn7 : n ≤ 7) (hw : SlT bkEnc 6 92 w W p wl) (hp : p ≤ 19) (hz0 : firstE [stockE cs sl, checkE cs l] = 0) (hzw : firstE [stockE cs sl, checkE cs wl] = 0) :
  Calls Tryz.prog 55 #[.slice A0 n0 c0, .slice A1 n1 c1, .slice A n c, .slice W p d] w (fun e w' => ∃ (A' : Option Addr) (k c' : Nat), e = .returned (.slice A' k c') ∧ SlT sgEnc 1 9 w' A' k (prV cs sl l wl) ∧ w.grownBy w' none) := by
 refine gw_enter ⟨43, w, none, []⟩ Tryz.func55 rfl Tryz.ntmps55 rfl (mem0 (X := [SlOld csEnc 2 158 w.heap.size none A0 n0 cs, SlOld skEnc 2 211 w.heap.size none A1 n1 sl, SlOld bkEnc 6 92 w.heap.size none A n l, SlOld bkEnc 6 92 w.heap.size none W p wl]) (allF_cons hcs.old (allF_cons hs.old (allF_cons hl.old (allF_cons hw.old allF_nil)))) (allL_cons SlOld.lasts (allL_cons SlOld.lasts (allL_cons SlOld.lasts (allL_cons SlOld.lasts allL_nil))))) ?_
 refine sr_ ?_
 have hlen := hl.len
 have hwlen := hw.len
 obtain ⟨⟨h30, hcl, hlo⟩, hmany, hkeys, htm, _⟩ := right_has hz0
 obtain ⟨_, _, hkeysw, htmw, hfw⟩ := right_has hzw
 obtain ⟨Q, hQ⟩ : ∃ z, z = isort mdLt wl := ⟨_, rfl⟩
 have hQl : Q.length = p := by rw [hQ, isort_len]; exact hwlen
 have hQm : ∀ x ∈ Q, x ∈ wl := fun x hx => isort_mem.1 (by rw [hQ] at hx; exact hx)
 have hpv : prV cs sl l wl = (prF cs sl l Q).2 := by rw [hQ]; rfl
 rw [hpv]
 refine sg_ rfl (nn_ (sr_ (mv_ rfl ?_)))
 refine wl_callgo (γ := Option Addr × Nat) (val := (fun g => .slice g.1 p g.2)) (φ := (fun g => True)) (fun g => ⟨.slice g.1 p g.2, 92, 6, p, wl.flatMap bkEnc⟩) rfl cb144 rfl rfl (fun wx hm => (cloneBks_any wl W p d wx (hm.fact 3 rfl).1 (by omega)).mono fun _ _ ⟨A, c, he, ho, hg⟩ => ⟨(A, c), he, trivial, ho, hg⟩) ?_
 rintro ⟨A5, c5⟩ hphi
 dsimp only at hphi ⊢
 refine sg_ rfl (nn_ ?_)
 refine gw_cut (γ := Option Addr) (I := (fun (A3 : Option Addr) => True)) (S' := (fun (A3 : Option Addr) => [(0, .slice A0 n0 c0), (1, .slice A1 n1 c1), (2, .slice A n c), (8, .slice none 0 0), (9, .slice A3 p c5)])) (K' := (fun (A3 : Option Addr) => fun _ => True)) (L' := (fun (A3 : Option Addr) => [])) (O' := (fun (A3 : Option Addr) => [⟨.slice A3 p c5, 92, 6, p, Q.flatMap bkEnc⟩])) (X' := (fun (A3 : Option Addr) => [SlOld csEnc 2 158 w.heap.size none A0 n0 cs, SlOld skEnc 2 211 w.heap.size none A1 n1 sl, SlOld bkEnc 6 92 w.heap.size none A n l, SlOld bkEnc 6 92 w.heap.size none W p wl])) ?_ ?_
 ·refine gw_region (mv_ rfl ?_)
  by_cases hp0 : p = 0
  ·refine wl_callv (v := .tuple #[]) rfl cb145 rfl rfl (fun wx hm => (by subst hp0; exact stable0_me A5 c5 wx)) ?_
   have hw0 : wl = [] := List.length_eq_zero_iff.1 (by omega)
   rw [show wl.flatMap bkEnc = Q.flatMap bkEnc from by rw [hQ, hw0]; rfl]
   refine wl_nil ?_
   exact nx_meet A5 trivial ⟨rfl, rfl, rfl, rfl, rfl, trivial⟩ (fun _ hm => hm.pick [] [0] [0, 1, 2, 3] rfl rfl)
  refine wl_look (R := ∃ g, A5 = some ⟨g, 0, none⟩) (fun wx hm => own_addr (hm.ownI 0 rfl) (by omega)) ?_
  rintro ⟨g5, rfl⟩
  refine wl_callr (v := .tuple #[]) (xs' := Q.flatMap bkEnc) 0 rfl rfl rfl cb145 rfl rfl (fun wx hm => (by have h := stable_me wl g5 p c5 _ wx (hm.ownI 0 rfl) hwlen (by omega) (form_md hfw); rw [← hQ] at h; exact h)) ?_
  refine wl_nil ?_
  exact nx_meet (some ⟨g5, 0, none⟩) trivial ⟨rfl, rfl, rfl, rfl, rfl, trivial⟩ (fun _ hm => hm.pick [] [0] [0, 1, 2, 3] rfl rfl)
 intro A3 hinv
 replace hinv : True := hinv
 refine sr_ ?_
 refine wl_nilOwn 92 6 ?_
 refine wl_nilOwn 9 1 ?_
 refine sg_ rfl (nn_ (gw_seq (sr_ (mv_ rfl (wl_ov (ov_len es76 rfl) rfl (mv_ rfl (nn_ (gw_block ?_))))))))
 refine gw_loop (γ := Nat × List Bk × List ByteArray × Nat × Nat × Option Addr × Nat × Value × Value × Nat × List Value) (fun g => g.1 ≤ p ∧ prF cs sl l (Q.take g.1) = (g.2.1, g.2.2.1) ∧ g.2.1.length = g.2.2.2.1 ∧ g.2.2.1.length = g.2.2.2.2.1 ∧ g.2.2.2.1 ≤ 7 ∧ g.2.2.2.2.1 ≤ g.1 ∧ (∀ x ∈ g.2.1, keysE cs [x.cls] = 0) ∧ BkTim g.2.1 ∧ ((g.2.1 = l ∧ g.2.2.2.2.2.1 = A ∧ g.2.2.2.1 = n ∧ g.2.2.2.2.2.2.1 = c) ∨ (g.2.2.2.2.2.2.2.2.1 = .slice g.2.2.2.2.2.1 g.2.2.2.1 g.2.2.2.2.2.2.1 ∧ g.2.2.2.2.2.2.2.2.2.1 = g.2.2.2.1 ∧ g.2.2.2.2.2.2.2.2.2.2 = g.2.1.flatMap bkEnc))) (fun g => [(0, .slice A0 n0 c0), (1, .slice A1 n1 c1), (2, .slice g.2.2.2.2.2.1 g.2.2.2.1 g.2.2.2.2.2.2.1), (8, .slice none 0 0), (10, g.2.2.2.2.2.2.2.1), (17, .slice A3 p c5), (18, .int .i64 ((p : Nat) : Int)), (19, .int .i64 ((g.1 : Nat) : Int))]) (fun g => fun _ => True) (fun g => []) (fun g => [⟨g.2.2.2.2.2.2.2.1, 9, 1, g.2.2.2.2.1, g.2.2.1.flatMap sgEnc⟩, ⟨g.2.2.2.2.2.2.2.2.1, 92, 6, g.2.2.2.2.2.2.2.2.2.1, g.2.2.2.2.2.2.2.2.2.2⟩, ⟨.slice A3 p c5, 92, 6, p, Q.flatMap bkEnc⟩]) (fun g => [SlOld csEnc 2 158 w.heap.size none A0 n0 cs, SlOld skEnc 2 211 w.heap.size none A1 n1 sl, SlOld bkEnc 6 92 w.heap.size none A n l, SlOld bkEnc 6 92 w.heap.size none W p wl]) (fun g => p - g.1) (0, l, [], n, 0, A, c, .slice none 0 0, .slice none 0 0, 0, []) ⟨Nat.zero_le _, rfl, hlen, rfl, by dsimp only; omega, Nat.le_refl _, hkeys, htm, .inl ⟨rfl, rfl, rfl, rfl⟩⟩ ⟨rfl, rfl, rfl, rfl, rfl, rfl, rfl, rfl, trivial⟩ (fun _ hm => hm.pick [] [0, 1, 2] [0, 1, 2, 3] rfl rfl) ?_
 rintro ⟨i, N, R, mm, rr, A6, c6, v, vv, nn, zs⟩ hinv
 replace hinv : i ≤ p ∧ prF cs sl l (Q.take i) = (N, R) ∧ N.length = mm ∧ R.length = rr ∧ mm ≤ 7 ∧ rr ≤ i ∧ (∀ x ∈ N, keysE cs [x.cls] = 0) ∧ BkTim N ∧ ((N = l ∧ A6 = A ∧ mm = n ∧ c6 = c) ∨ (vv = .slice A6 mm c6 ∧ nn = mm ∧ zs = N.flatMap bkEnc)) := hinv
 dsimp only
 refine sr_ ?_
 obtain ⟨hi0, hpr, hNl, hRl, hm7, hri, hNk, hNt, hnow⟩ := hinv
 refine wl_ov (ov_lss rfl rfl) rfl (nn_ (gw_seq ?_))
 refine gw_cond rfl (fun hh => ?_) (fun hh => ?_)
 ·have hi : ((i : Nat) : Int) < ((p : Nat) : Int) := by simpa using hh
  clear hh
  refine gw_skip (nx_then (gw_seq (gw_block (sr_ ?_))))
  refine wl_look (R := ∃ g, A3 = some ⟨g, 0, none⟩) (fun wx hm => own_addr (hm.ownI 2 rfl) (by omega)) ?_
  rintro ⟨g6, rfl⟩
  obtain ⟨x, hx⟩ : ∃ x, Q[i]? = some x := ⟨_, List.getElem?_eq_getElem (by omega)⟩
  obtain ⟨x0, x1, x2, x3, x4, x5⟩ := x
  have hxl := hQm _ (List.mem_of_getElem? hx)
  have hat := prF_at (cs := cs) (sl := sl) (l := l) hx
  rw [hpr] at hat
  obtain ⟨hkw, htw⟩ := with_has2 (b := (⟨x0, x1, x2, x3, x4, x5⟩ : Bk)) hNk hNt (hkeysw _ hxl) (htmw _ hxl)
  obtain ⟨CB, hCB⟩ : ∃ z, z = canB cs sl N (⟨x0, x1, x2, x3, x4, x5⟩ : Bk) := ⟨_, rfl⟩
  refine wl_ov (ov_index (j := i) es76 rfl rfl (by omega)) rfl ?_
  refine wl_ov (ov_elem (vs := [.string x0, .string x1, .int .i64 x2, .int .i64 x3, .int .i64 x4, .int .i64 x5]) rz92 rfl (fun _ hm => (SlT.ofOwn bk_len (hm.ownI 2 rfl) hQl)) hx rfl rfl) rfl ?_
  refine wl_alloc zc92 rfl fun g1 => ?_
  refine wl_stores (cs' := [.string x0, .string x1, .int .i64 x2, .int .i64 x3, .int .i64 x4, .int .i64 x5]) 0 rz92 rfl rfl rfl rfl rfl rfl rfl rfl ?_
  refine nn_ (sr_ (mv_ rfl (wl_ov (ov_len es76 rfl) rfl (wl_ov (ov_lss rfl rfl) rfl (mv_ rfl ?_)))))
  rcases Bool.eq_false_or_eq_true (decide (((mm : Nat) : Int) < 7)) with h7 | h7
  ·refine wl_set 26 rfl (congrArg Value.bool h7) ?_
   replace h7 := of_decide_eq_true h7
   refine wl_guard_on rfl rfl rfl (mv_ rfl (wl_guard_on rfl rfl rfl (mv_ rfl (wl_guard_on rfl rfl rfl (mv_ rfl (wl_guard_on rfl rfl rfl ?_))))))
   refine wl_ov (ov_loads rz92 rfl (fun _ hm => hm.blkI 0 rfl) rfl rfl) rfl ?_
   refine wl_guard_on rfl rfl rfl ?_
   refine wl_callv (v := .bool CB) rfl cb46 rfl rfl (fun wx hm => (by rw [hCB]; exact canOf_any cs A0 n0 c0 sl A1 n1 c1 N A6 mm c6 x0 x1 x2 x3 x4 x5 wx (hm.fact 0 rfl).1 hco hn0 hcl hlo (hm.fact 1 rfl).1 hso hn1 hmany (now_sl hnow hNl (hm.fact 2 rfl).1 (hm.ownI 1 rfl)) (by omega) hkw htw)) ?_
   refine pt_ rfl rfl (nn_ ?_)
   refine gw_cond rfl (fun hh => ?_) (fun hh => ?_)
   ·have hv0 : CB = true := by simpa using hh
    clear hh
    refine sr_ ?_
    have hst : prF cs sl l (Q.take (i + 1)) = ((withB N (⟨x0, x1, x2, x3, x4, x5⟩ : Bk)), R ++ [x0]) := by
     rw [hat]; unfold prS; dsimp only
     rw [if_neg (by omega), if_pos (by rw [← hCB]; exact hv0)]
    have hWl : (withB N (⟨x0, x1, x2, x3, x4, x5⟩ : Bk)).length = mm + 1 := by rw [withB_len, hNl]
    refine mv_ rfl ?_
    refine wl_ov (ov_loads rz92 rfl (fun _ hm => hm.blkI 0 rfl) rfl rfl) rfl ?_
    refine wl_callgo (γ := Option Addr × Nat) (val := (fun g => .slice g.1 (mm + 1) g.2)) (φ := (fun g => True)) (fun g => ⟨.slice g.1 (mm + 1) g.2, 92, 6, mm + 1, (withB N (⟨x0, x1, x2, x3, x4, x5⟩ : Bk)).flatMap bkEnc⟩) rfl cb140 rfl rfl (fun wx hm => (with_kzO N A6 mm c6 x0 x1 x2 x3 x4 x5 wx (now_sl hnow hNl (hm.fact 2 rfl).1 (hm.ownI 1 rfl)) (by omega)).mono fun _ _ ⟨A2, c2, he, ho, hg⟩ => ⟨(A2, c2), he, trivial, ho, hg⟩) ?_
    rintro ⟨A2, c2⟩ hphi
    dsimp only at hphi ⊢
    refine sg_ rfl (nn_ (gw_region (mv_ rfl (fd_ fo92_0 rfl rfl (lk_ sc9 0 rfl rfl rfl ?_)))))
    refine wl_buildSlice (e := 9) (cs := [.string x0]) rfl (by kernel_rfl) rfl fun g2 => ?_
    refine wl_append (news := [.string x0]) 1 0 ap103 rfl rfl rfl rfl rfl rfl rfl (by omega) (by unfold maxLen; omega) rfl rfl fun u1 hu1 => ?_
    rw [show R.flatMap sgEnc ++ ([.string x0] : List Value) = (R ++ [x0]).flatMap sgEnc from by simp [sgEnc]]
    refine sg_ rfl (wl_nil (nx_blk_nrm (nx_then (gw_region (ad_ rfl rfl (mv_ rfl (wl_nil ?_)))))))
    exact nx_round (i + 1, (withB N (⟨x0, x1, x2, x3, x4, x5⟩ : Bk)), R ++ [x0], mm + 1, rr + 1, A2, c2, u1, .slice A2 (mm + 1) c2, mm + 1, (withB N (⟨x0, x1, x2, x3, x4, x5⟩ : Bk)).flatMap bkEnc) ⟨by dsimp only; omega, hst, hWl, by simp [hRl], by dsimp only; omega, by dsimp only; omega, hkw, htw, .inr ⟨rfl, rfl, rfl⟩⟩ (by dsimp only; omega) ⟨rfl, rfl, rfl, rfl, rfl, rfl, rfl, (some_int (by omega)), trivial⟩ (fun _ hm => hm.pick [] [1, 0, 3] [0, 1, 2, 3] rfl rfl)
   have hv0 : CB = false := by simpa using hh
   clear hh
   refine gw_skip (nx_blk_nrm (nx_then (gw_region ?_)))
   have hst : prF cs sl l (Q.take (i + 1)) = (N, R) := by
    rw [hat]; unfold prS; dsimp only
    rw [if_neg (by omega), if_neg (by rw [← hCB, hv0]; decide)]
   refine ad_ rfl rfl (mv_ rfl (wl_nil ?_))
   exact nx_round (i + 1, N, R, mm, rr, A6, c6, v, vv, nn, zs) ⟨by dsimp only; omega, hst, hNl, hRl, hm7, by dsimp only; omega, hNk, hNt, hnow⟩ (by dsimp only; omega) ⟨rfl, rfl, rfl, rfl, rfl, rfl, rfl, (some_int (by omega)), trivial⟩ (fun _ hm => hm.pick [] [0, 1, 2] [0, 1, 2, 3] rfl rfl)
  refine wl_set 26 rfl (congrArg Value.bool h7) ?_
  replace h7 := of_decide_eq_false h7
  have hst : prF cs sl l (Q.take (i + 1)) = (N, R) := by
   rw [hat]; unfold prS; dsimp only
   rw [if_pos (by omega)]
  refine goff rfl rfl rfl (goff rfl rfl rfl (goff rfl rfl rfl (goff rfl rfl rfl (goff rfl rfl rfl (pf_ rfl rfl (nn_ (cf_ rfl (gw_skip (nx_blk_nrm (nx_then (gw_region (ad_ rfl rfl ?_))))))))))))
  refine mv_ rfl (wl_nil ?_)
  exact nx_round (i + 1, N, R, mm, rr, A6, c6, v, vv, nn, zs) ⟨by dsimp only; omega, hst, hNl, hRl, hm7, by dsimp only; omega, hNk, hNt, hnow⟩ (by dsimp only; omega) ⟨rfl, rfl, rfl, rfl, rfl, rfl, rfl, (some_int (by omega)), trivial⟩ (fun _ hm => hm.pick [] [0, 1, 2] [0, 1, 2, 3] rfl rfl)
 have hi : ¬ (((i : Nat) : Int) < ((p : Nat) : Int)) := by simpa using hh
 clear hh
 refine gw_exit ?_
 refine nx_then_exit (nx_then_exit ?_)
 refine nx_blk_here ?_
 refine nx_then (sr_ ?_)
 have hfin : (prF cs sl l Q).2 = R := by rw [show Q.take i = Q from List.take_of_length_le (by omega)] at hpr; rw [hpr]
 refine wl_look (R := ∃ A cc, v = .slice A rr cc) (fun wx hm => own_slice (hm.ownI 0 rfl)) ?_
 rintro ⟨Ao, co, rfl⟩
 refine mv_ rfl (sg_ rfl (nn_ ?_))
 refine gw_ret ?_
 refine nx_ret1 rfl rfl fun wx hm => ?_
 exact ⟨Ao, rr, co, rfl, by rw [hfin]; exact SlT.ofOwn sg_len (hm.ownI 0 rfl) hRl, hm.g⟩
end Go.Proofs.YtempjmpfdniecaaGreatDoor
namespace Go.Proofs.YtempjmpfdniecaaGreatDoor
open Go.RowKit
section
variable {P : Program} {nn : Nat} {S : List (Nat × Value)} {Z : World → Prop} {d : Nat} {ty : TypeId} {pos : String} {aft : Array Edge}
theorem ov_strLo {t : TypeId} {x y : Operand} {s : ByteArray} {j : Int} (ht : P.underlying t = some .string) (hx : rd S x = some (.string s)) (hy : rd S y = some (.int .i64 j)) (h0 : 0 ≤ j) (h1 : j ≤ s.size) :
    OV P nn S Z ⟨some d, .slice t x (some y) none none, ty, pos, aft, none⟩ (.string (s.extract j.toNat s.size)) := fun a w ha hm => by
  simp [execOp, ha.eval hx, ha.eval hy, run_sliceAt_string _ t _ _ _ _ ht, run_slice_string_l w t s ht .i64 j h0 h1]
end
end Go.Proofs.YtempjmpfdniecaaGreatDoor
namespace Go.Proofs.YtempjmpfdniecaaGreatDoor
open Go.RowKit
theorem pred_wmv (y0 y1 : ByteArray) (y2 y3 y4 y5 : Int) (x0 x1 : ByteArray) (x2 x3 x4 x5 : Int) (gk : Nat) (w : World) (hk : Blk w gk 92 [.string x0, .string x1, .int .i64 x2, .int .i64 x3, .int .i64 x4, .int .i64 x5]) :
  Calls Tryz.prog 53 #[.agg #[.string y0, .string y1, .int .i64 y2, .int .i64 y3, .int .i64 y4, .int .i64 y5], .pointer (some ⟨gk, 0, none⟩)] w (fun e w' => e = .returned (.bool (kyP x0 ⟨y0, y1, y2, y3, y4, y5⟩)) ∧ w.grownBy w' none) := by
 refine gw_enter ⟨9, w, none, []⟩ Tryz.func53 rfl Tryz.ntmps53 rfl (mem0 (X := [BlkOld w.heap.size none gk 92 [.string x0, .string x1, .int .i64 x2, .int .i64 x3, .int .i64 x4, .int .i64 x5]]) (allF_cons hk.old allF_nil) (allL_cons BlkOld.lasts allL_nil)) ?_
 refine sr_ ?_
 refine wl_box rfl rfl rfl fun g1 => ?_
 refine sg_ rfl (nn_ (sr_ (fd_ fo92_0 rfl rfl (lk_ sc9 0 rfl rfl rfl (fd_ fo92_0 rfl rfl ?_)))))
 refine wl_ov (ov_load (v := .string x0) sc9 rfl (fun _ hm => (hm.fact 0 rfl).2) rfl) rfl ?_
 refine wl_ov (ov_seql rfl rfl) rfl (sg_ rfl (nn_ ?_))
 refine gw_ret ?_
 refine nx_ret1 rfl rfl fun wx hm => ?_
 exact ⟨rfl, hm.g⟩
theorem index_wmv (l : List Bk) (A : Option Addr) (n c : Nat) (x0 x1 : ByteArray) (x2 x3 x4 x5 : Int) (gk : Nat) (w : World) (hl : SlT bkEnc 6 92 w A n l) (hn : n ≤ 1000000) (hk : Blk w gk 92 [.string x0, .string x1, .int .i64 x2, .int .i64 x3, .int .i64 x4, .int .i64 x5]) :
  Calls Tryz.prog 151 #[.slice A n c, .func (.func 53) #[] #[.pointer (some ⟨gk, 0, none⟩)]] w (GotE w (ixP (kyP x0) l 0)) := by
 refine gw_enter ⟨19, w, none, []⟩ Tryz.func151 rfl Tryz.ntmps151 rfl (mem0 (X := [SlOld bkEnc 6 92 w.heap.size none A n l, BlkOld w.heap.size none gk 92 [.string x0, .string x1, .int .i64 x2, .int .i64 x3, .int .i64 x4, .int .i64 x5]]) (allF_cons hl.old (allF_cons hk.old allF_nil)) (allL_cons SlOld.lasts (allL_cons BlkOld.lasts allL_nil))) ?_
 refine sr_ ?_
 have hlen := hl.len
 refine sg_ rfl (nn_ (gw_seq (sr_ (mv_ rfl (wl_ov (ov_len es76 rfl) rfl (mv_ rfl (nn_ (gw_block ?_))))))))
 refine gw_loop (γ := Nat) (fun (i : Nat) => i ≤ n ∧ ixP (kyP x0) l 0 = ixP (kyP x0) (l.drop i) i) (fun (i : Nat) => [(0, .slice A n c), (1, .func (.func 53) #[] #[.pointer (some ⟨gk, 0, none⟩)]), (7, .int .i64 ((n : Nat) : Int)), (8, .int .i64 ((i : Nat) : Int))]) (fun (i : Nat) => fun _ => True) (fun (i : Nat) => []) (fun (i : Nat) => []) (fun (i : Nat) => [SlOld bkEnc 6 92 w.heap.size none A n l, BlkOld w.heap.size none gk 92 [.string x0, .string x1, .int .i64 x2, .int .i64 x3, .int .i64 x4, .int .i64 x5]]) (fun (i : Nat) => n - i) 0 ⟨Nat.zero_le _, rfl⟩ ⟨rfl, rfl, rfl, rfl, trivial⟩ (fun _ hm => hm.pick [] [] [0, 1] rfl rfl) ?_
 intro i hinv
 replace hinv : i ≤ n ∧ ixP (kyP x0) l 0 = ixP (kyP x0) (l.drop i) i := hinv
 refine sr_ (wl_ov (ov_lss rfl rfl) rfl (nn_ (gw_seq ?_)))
 refine gw_cond rfl (fun hh => ?_) (fun hh => ?_)
 ·have hi : ((i : Nat) : Int) < ((n : Nat) : Int) := by simpa using hh
  clear hh
  refine gw_skip (nx_then (gw_seq (gw_block (sr_ ?_))))
  obtain ⟨b, off, hA, _, _⟩ := hl.get (by omega)
  subst hA
  obtain ⟨x, hx⟩ : ∃ x, l[i]? = some x := ⟨_, List.getElem?_eq_getElem (by omega)⟩
  obtain ⟨y0, y1, y2, y3, y4, y5⟩ := x
  have hat := ixP_at (p := kyP x0) hx
  refine mv_ rfl (sg_ rfl (nn_ (sr_ (mv_ rfl (mv_ rfl (mv_ rfl ?_))))))
  refine wl_ov (ov_index (j := i) es76 rfl rfl (by omega)) rfl ?_
  refine wl_ov (ov_elem (vs := [.string y0, .string y1, .int .i64 y2, .int .i64 y3, .int .i64 y4, .int .i64 y5]) rz92 rfl (fun _ hm => (hm.fact 0 rfl).1) hx rfl rfl) rfl ?_
  refine wl_callv rfl cb53 rfl rfl (fun wx hm => (pred_wmv y0 y1 y2 y3 y4 y5 x0 x1 x2 x3 x4 x5 gk wx (hm.fact 1 rfl).2)) ?_
  refine nn_ ?_
  refine gw_cond rfl (fun hh => ?_) (fun hh => ?_)
  ·have hq : (kyP x0 ⟨y0, y1, y2, y3, y4, y5⟩) = true := by simpa using hh
   clear hh
   refine sr_ (mv_ rfl (sg_ rfl (nn_ ?_)))
   refine gw_ret ?_
   refine nx_blk_ret (nx_then_ret (nx_then_ret (nx_blk_ret (nx_then_ret ?_))))
   refine nx_ret1 rfl rfl fun wx hm => ?_
   exact ⟨ret_int (by rw [hinv.2, hat, if_pos hq]), hm.g⟩
  have hq : (kyP x0 ⟨y0, y1, y2, y3, y4, y5⟩) = false := by simpa using hh
  clear hh
  refine gw_skip (nx_blk_nrm (nx_then (gw_region (ad_ rfl rfl (mv_ rfl (wl_nil ?_))))))
  exact nx_round (i + 1) ⟨by omega, by rw [hinv.2, hat, if_neg (by rw [hq]; decide)]⟩ (by omega) ⟨rfl, rfl, rfl, (some_int (by omega)), trivial⟩ (fun _ hm => hm.pick [] [] [0, 1] rfl rfl)
 have hi : ¬ (((i : Nat) : Int) < ((n : Nat) : Int)) := by simpa using hh
 clear hh
 refine gw_exit ?_
 refine nx_then_exit (nx_then_exit ?_)
 refine nx_blk_here ?_
 refine nx_then (sr_ (sg_ rfl ?_))
 refine wl_set 4 (v' := .int .i64 (-1)) rfl rfl ?_
 refine nn_ ?_
 refine gw_ret ?_
 refine nx_ret1 rfl rfl fun wx hm => ?_
 exact ⟨ret_int (by rw [hinv.2, List.drop_eq_nil_of_le (by omega)]; rfl), hm.g⟩
theorem hasW_any (l : List Bk) (A : Option Addr) (n c : Nat) (x0 x1 : ByteArray) (x2 x3 x4 x5 : Int) (gk : Nat) (w : World) (hl : SlT bkEnc 6 92 w A n l) (hn : n ≤ 1000000) (hk : Blk w gk 92 [.string x0, .string x1, .int .i64 x2, .int .i64 x3, .int .i64 x4, .int .i64 x5]) :
  Calls Tryz.prog 52 #[.slice A n c, .func (.func 53) #[] #[.pointer (some ⟨gk, 0, none⟩)]] w (fun e w' => e = .returned (.bool (hasB l x0)) ∧ w.grownBy w' none) := by
 refine gw_enter ⟨9, w, none, []⟩ Tryz.func52 rfl Tryz.ntmps52 rfl (mem0 (X := [SlOld bkEnc 6 92 w.heap.size none A n l, BlkOld w.heap.size none gk 92 [.string x0, .string x1, .int .i64 x2, .int .i64 x3, .int .i64 x4, .int .i64 x5]]) (allF_cons hl.old (allF_cons hk.old allF_nil)) (allL_cons SlOld.lasts (allL_cons BlkOld.lasts allL_nil))) ?_
 refine sr_ (sg_ rfl (nn_ (sr_ (mv_ rfl (mv_ rfl ?_)))))
 refine wl_callv rfl cb151 rfl rfl (fun wx hm => (index_wmv l A n c x0 x1 x2 x3 x4 x5 gk wx (hm.fact 0 rfl).1 hn (hm.fact 1 rfl).2)) ?_
 refine wl_ov (ov_geq rfl rfl) rfl ?_
 refine sg_ rfl (nn_ ?_)
 refine gw_ret ?_
 refine nx_ret1 rfl rfl fun wx hm => ?_
 exact ⟨rfl, hm.g⟩
theorem cat_ok {a b : ByteArray} (ha : a.size ≤ 100) (hb : b.size = 2) : (a ++ b.extract (1 : Int).toNat b.size).size ≤ 1000000 := by
  rw [ByteArray.size_append, ByteArray.size_extract]
  omega
theorem bo_snoc {l : List Bk} {x : Bk} (h : ∀ y ∈ l, BkOk y) (h1 : BkOk x) : ∀ y ∈ l ++ [x], BkOk y := fun y hy => by
  rcases List.mem_append.1 hy with hy | hy
  · exact h y hy
  · rw [List.mem_singleton.1 hy]; exact h1
theorem first_cut (a b c e : Int) : firstE [a, b, c, e] = if firstE [firstE [a, b], c] = 0 then e else firstE [firstE [a, b], c] := by
  by_cases ha : a = 0 <;> by_cases hb : b = 0 <;> by_cases hc : c = 0 <;> by_cases he : e = 0 <;> simp [firstE, ha, hb, hc, he]
theorem first0 (a : Int) (p : Bk → Bool) : a = firstE [a, whenE (([] : List Bk).any p) 6] := by
  by_cases h : a = 0 <;> simp [firstE, whenE, h]
theorem any_tk {p : Bk → Bool} {l : List Bk} {i : Nat} {x : Bk} (h : l[i]? = some x) : (l.take (i + 1)).any p = ((l.take i).any p || p x) := by
  rw [List.take_add_one, h, Option.toList_some, List.any_append, List.any_cons, List.any_nil, Bool.or_false]
theorem prS_len {cs : List Cs} {sl : List Sk} : ∀ (Q : List Bk) (st : List Bk × List ByteArray), (Q.foldl (prS cs sl) st).2.length ≤ st.2.length + Q.length
  | [], _ => Nat.le_refl _
  | b :: Q, st => by
    rw [List.foldl_cons, List.length_cons]
    have h1 := prS_len (cs := cs) (sl := sl) Q (prS cs sl st b)
    have h2 : (prS cs sl st b).2.length ≤ st.2.length + 1 := by
      unfold prS
      split
      · omega
      · split
        · simp
        · omega
    omega
theorem prV_len {cs : List Cs} {sl : List Sk} {l wl : List Bk} : (prV cs sl l wl).length ≤ wl.length := by
  have h := prS_len (cs := cs) (sl := sl) (isort mdLt wl) (l, [])
  rw [isort_len] at h
  unfold prV prF
  have h0 : (([] : List ByteArray)).length = 0 := rfl
  dsimp only at h
  omega
theorem errs_or (a : Int) (p q : Bool) : firstE [firstE [a, whenE p 6], whenE q 6] = firstE [a, whenE (p || q) 6] := by
  cases p <;> cases q <;> by_cases h : a = 0 <;> simp [firstE, whenE, h]
theorem tw_any (l : List Bk) : ∀ (wl : List Bk) (k : Nat), decide (0 ≤ ixP (fun b => hasB l b.key) wl k) = wl.any fun b => hasB l b.key
  | [], _ => rfl
  | b :: wl, k => by
    unfold ixP
    rw [List.any_cons]
    split
    · rename_i h
      rw [h, decide_eq_true (by omega)]; rfl
    · rename_i h
      rw [tw_any l wl (k + 1), show hasB l b.key = false from by simpa using h]; rfl
theorem waitersMove_walk (a0 : Option Addr) (len0 cap0 : Nat) (z0 : List Int) (w : World) (hR : RowIn w a0 len0 cap0 z0) :
  Calls Tryz.prog 7 #[.slice a0 len0 cap0] w fun e w' => e = .returned (.bool true) ∧ Below w.heap.size w w' := by
 refine gw_enter ⟨136, w, none, []⟩ Tryz.func7 rfl Tryz.ntmps7 rfl (mem0 (X := []) allF_nil allL_nil) ?_
 refine sr_ (sg_ rfl (nn_ (sr_ (mv_ rfl ?_))))
 refine wl_ov (ov_build (cs := [.slice a0 len0 cap0, .int .i64 0]) rfl (by kernel_rfl)) rfl ?_
 refine wl_box rfl rfl rfl fun sb => ?_
 refine sg_ rfl (nn_ ?_)
 refine gw_law [158, 211, 92] hR 0 rfl fun w1 B hg1 hsb => ?_
 refine sr_ (mv_ rfl (mv_ rfl ?_))
 refine wl_buildSlice (e := 3) (cs := [.int .i64 0, .int .i64 1, .int .i64 2, .int .i64 3, .int .i64 4, .int .i64 8]) rfl (by kernel_rfl) rfl fun g1 => ?_
 refine wl_got (γ := Int) (val := fun v => .int .i64 v) (φ := fun v => v ∈ ([0, 1, 2, 3, 4, 8] : List Int)) rfl cb11 rfl rfl rfl rfl (fun wx hm => (pick_any [0, 1, 2, 3, 4, 8] _ _ _ wx B sb _ hm.k (by omega) (by simp) (by simp) (hm.blkI 0 rfl) (hm.neRow 0 rfl rfl))) fun pk hpk => ?_
 have bpk : 0 ≤ pk ∧ pk ≤ 8 := mem_rng hpk (by decide)
 have bpk0 := bpk.1
 have bpk1 := bpk.2
 clear bpk
 obtain ⟨q, rfl⟩ := Int.eq_ofNat_of_zero_le (show 0 ≤ pk by omega)
 have hq9 : q ≤ 9 := by omega
 refine wl_calls (γ := Option Addr × Nat × List Cs × Option Addr × Nat × Nat × List Sk × Option Addr × Nat × Nat × List Bk) (val := (fun g => .agg #[.slice g.1 4 g.2.1, .slice g.2.2.2.1 g.2.2.2.2.1 g.2.2.2.2.2.1, .slice g.2.2.2.2.2.2.2.1 g.2.2.2.2.2.2.2.2.1 g.2.2.2.2.2.2.2.2.2.1, .int .i64 (stockE g.2.2.1 g.2.2.2.2.2.2.1), .int .i64 (checkE g.2.2.1 g.2.2.2.2.2.2.2.2.2.2)])) (φ := (fun g => (∀ x ∈ g.2.2.1, CsOk x) ∧ (∀ x ∈ g.2.2.2.2.2.2.1, SkOk x) ∧ (∀ x ∈ g.2.2.2.2.2.2.2.2.2.2, BkOk x) ∧ g.2.2.2.2.1 ≤ 5 ∧ g.2.2.2.2.2.2.2.2.1 ≤ 9 ∧ g.2.2.2.2.2.2.2.2.2.2.length = g.2.2.2.2.2.2.2.2.1)) (Y := (fun g => fun wy => SlT csEnc 2 158 wy g.1 4 g.2.2.1 ∧ SlT skEnc 2 211 wy g.2.2.2.1 g.2.2.2.2.1 g.2.2.2.2.2.2.1 ∧ SlT bkEnc 6 92 wy g.2.2.2.2.2.2.2.1 g.2.2.2.2.2.2.2.2.1 g.2.2.2.2.2.2.2.2.2.2)) (m' := 0 + 1 + 2000) rfl cb34 rfl rfl rfl rfl (fun wx hm => (counterOf_any q wx B sb _ hm.k (by omega) hq9).mono fun _ _ ⟨A0, c0, cs, A1, n1, c1, sl, A, n, c, l, he, h0, h1, h2, hco, hso, hok, hn1, hn, hS, hg⟩ => ⟨(A0, c0, cs, A1, n1, c1, sl, A, n, c, l), he, ⟨hco, hso, hok, hn1, hn, h2.len⟩, hS, hg, ⟨h0, h1, h2⟩⟩) (fun _ => (SlT.lasts2 rfl).and_ ((SlT.lasts2 rfl).and_ (SlT.lasts2 rfl))) ?_
 rintro ⟨A0, c0, cs, A1, n1, c1, sl, A, n, c, l⟩ hH
 dsimp only at hH ⊢
 obtain ⟨hco, hso, hok, hn5, hn9, hlen⟩ := hH
 refine wl_alloc zc78 rfl fun g2 => ?_
 refine wl_stores (cs' := [.slice A0 4 c0, .slice A1 n1 c1, .slice A n c, .int .i64 (stockE cs sl), .int .i64 (checkE cs l)]) 0 rz78 rfl rfl rfl rfl rfl rfl rfl rfl ?_
 refine nn_ (sr_ (sg_ rfl (nn_ (gw_seq (sr_ (mv_ rfl (mv_ rfl ?_)))))))
 refine wl_got (γ := Int) (val := fun v => .int .i64 v) (φ := fun v => 0 ≤ v ∧ (v ≤ 4 ∨ v = 0)) rfl cb26 rfl rfl rfl rfl (fun wx hm => (range_any _ _ wx B sb _ hm.k (by omega) (by omega) (by omega) (by omega) (by omega))) fun pw hpw => ?_
 obtain ⟨q2, hq2⟩ := Int.eq_ofNat_of_zero_le (show 0 ≤ pw by omega)
 have hq24 : q2 ≤ 4 := by omega
 subst hq2
 refine wl_calls (γ := Option Addr × Nat × Nat × List Bk) (val := (fun g => .slice g.1 g.2.1 g.2.2.1)) (φ := (fun g => (∀ b ∈ g.2.2.2, BkOk b) ∧ g.2.1 ≤ q2 ∧ g.2.2.2.length = g.2.1)) (Y := (fun g => fun wy => SlT bkEnc 6 92 wy g.1 g.2.1 g.2.2.2)) (m' := 0 + 1 + 2000 + 1 + 1000) rfl cb48 rfl rfl rfl rfl (fun wx hm => (gbookings_anyQ q2 wx B sb _ hm.k (by omega) (by omega)).mono fun _ _ ⟨A, n, c, l, he, hsl, hok, hn, hnc, hS, hg⟩ => ⟨(A, n, c, l), he, ⟨hok, hn, hsl.len⟩, hS, hg, hsl⟩) (fun _ => SlT.lasts2 rfl) ?_
 rintro ⟨D, dn, dc, dl⟩ hD
 dsimp only at hD ⊢
 obtain ⟨hdok, hdq, hdlen⟩ := hD
 refine wl_nest (some sb) [] fun w2 hm_w2 => ?_
 obtain ⟨_, _, _, _, hhs, _⟩ := Strm.pos hm_w2.k
 refine ⟨_, _, _, _, memS (X := [BlkOld w2.heap.size (some sb) g2 78 [.slice A0 4 c0, .slice A1 n1 c1, .slice A n c, .int .i64 (stockE cs sl), .int .i64 (checkE cs l)], BlkOld w2.heap.size (some sb) g1 3 [.int .i64 0, .int .i64 1, .int .i64 2, .int .i64 3, .int .i64 4, .int .i64 8], SlOld csEnc 2 158 w2.heap.size (some sb) A0 4 cs, SlOld skEnc 2 211 w2.heap.size (some sb) A1 n1 sl, SlOld bkEnc 6 92 w2.heap.size (some sb) A n l, SlOld bkEnc 6 92 w2.heap.size (some sb) D dn dl]) hm_w2.k (allF_cons (Blk.oldRow (hm_w2.blkI 0 rfl) hhs (show (78 : Nat) ≠ 25 by decide)) (allF_cons (Blk.oldRow (hm_w2.blkI 1 rfl) hhs (show (3 : Nat) ≠ 25 by decide)) (allF_cons (SlT.oldRow (hm_w2.fact 1 rfl).1 hhs (by decide)) (allF_cons (SlT.oldRow (hm_w2.fact 1 rfl).2.1 hhs (by decide)) (allF_cons (SlT.oldRow (hm_w2.fact 1 rfl).2.2 hhs (by decide)) (allF_cons (SlT.oldRow (hm_w2.fact 0 rfl) hhs (by decide)) allF_nil)))))) (allL_cons BlkOld.lasts (allL_cons BlkOld.lasts (allL_cons SlOld.lasts (allL_cons SlOld.lasts (allL_cons SlOld.lasts (allL_cons SlOld.lasts allL_nil)))))), ?_⟩
 refine wl_nilOwn 92 6 ?_
 refine wl_ov (ov_len es76 rfl) rfl (mv_ rfl (nn_ (gw_block ?_)))
 refine gw_loop (γ := Nat × Value × List Bk × List Value) (fun g => g.1 ≤ dn ∧ g.2.2.1.length = g.1 ∧ (∀ x ∈ g.2.2.1, BkOk x) ∧ g.2.2.2 = g.2.2.1.flatMap bkEnc) (fun g => [(2, .bool false), (3, .pointer (some ⟨sb, 0, none⟩)), (4, .pointer (some ⟨g2, 0, none⟩)), (5, g.2.1), (26, .slice D dn dc), (27, .int .i64 ((dn : Nat) : Int)), (28, .int .i64 ((g.1 : Nat) : Int))]) (fun g => fun w => Strm 25 w B sb (0 + 1 + 2000 + 1 + 1000 + 2 * g.1)) (fun g => []) (fun g => [⟨g.2.1, 92, 6, g.1, g.2.2.2⟩]) (fun g => [BlkOld w2.heap.size (some sb) g2 78 [.slice A0 4 c0, .slice A1 n1 c1, .slice A n c, .int .i64 (stockE cs sl), .int .i64 (checkE cs l)], BlkOld w2.heap.size (some sb) g1 3 [.int .i64 0, .int .i64 1, .int .i64 2, .int .i64 3, .int .i64 4, .int .i64 8], SlOld csEnc 2 158 w2.heap.size (some sb) A0 4 cs, SlOld skEnc 2 211 w2.heap.size (some sb) A1 n1 sl, SlOld bkEnc 6 92 w2.heap.size (some sb) A n l, SlOld bkEnc 6 92 w2.heap.size (some sb) D dn dl]) (fun g => dn - g.1) (0, .slice none 0 0, [], []) ⟨Nat.zero_le _, rfl, (fun _ h => by cases h), rfl⟩ ⟨rfl, rfl, rfl, rfl, rfl, rfl, rfl, trivial⟩ (fun _ hm => (hm.more rfl (by first | omega | (dsimp only; omega))).pick [] [0] [0, 1, 2, 3, 4, 5] rfl rfl) ?_
 rintro ⟨i, v, wl, xs⟩ hinv
 replace hinv : i ≤ dn ∧ wl.length = i ∧ (∀ x ∈ wl, BkOk x) ∧ xs = wl.flatMap bkEnc := hinv
 dsimp only
 refine sr_ ?_
 obtain ⟨hi0, hwl, hwo, rfl⟩ := hinv
 refine wl_ov (ov_lss rfl rfl) rfl (nn_ (gw_seq ?_))
 refine gw_cond rfl (fun hh => ?_) (fun hh => ?_)
 ·have hi : ((i : Nat) : Int) < ((dn : Nat) : Int) := by simpa using hh
  clear hh
  refine gw_skip (nx_then (gw_seq (gw_block (sr_ ?_))))
  obtain ⟨bd, off, hA, _, _⟩ := ((hm_w2.fact 0 rfl)).get (by omega)
  subst hA
  obtain ⟨x, hx⟩ : ∃ x, dl[i]? = some x := ⟨_, List.getElem?_eq_getElem (by omega)⟩
  obtain ⟨y0, y1, y2, y3, y4, y5⟩ := x
  have hyo := hdok _ (List.mem_of_getElem? hx)
  unfold BkOk at hyo
  dsimp only at hyo
  obtain ⟨hy0, hy1⟩ := hyo
  refine wl_ov (ov_index (j := i) es76 rfl rfl (by omega)) rfl ?_
  refine wl_ov (ov_elem (vs := [.string y0, .string y1, .int .i64 y2, .int .i64 y3, .int .i64 y4, .int .i64 y5]) rz92 rfl (fun _ hm => (hm.fact 5 rfl).1) hx rfl rfl) rfl ?_
  refine wl_alloc zc92 rfl fun g3 => ?_
  refine wl_stores (cs' := [.string y0, .string y1, .int .i64 y2, .int .i64 y3, .int .i64 y4, .int .i64 y5]) 0 rz92 rfl rfl rfl rfl rfl rfl rfl rfl ?_
  refine nn_ (gw_seq (sr_ (fd_ fo92_0 rfl rfl (lk_ sc9 0 rfl rfl rfl ?_))))
  refine wl_ov (ov_lens us9 rfl) rfl ?_
  refine wl_ov (ov_eql rfl rfl) rfl (nn_ ?_)
  refine gw_cond rfl (fun hh => ?_) (fun hh => ?_)
  ·have hk2 : ((y0).size : Int) = 2 := by simpa using hh
   clear hh
   have hyx : (y0.extract (1 : Int).toNat y0.size).size ≤ 1 := by
    rw [ByteArray.size_extract]
    omega
   refine gd (fun wz => (BlkOld w2.heap.size (some sb) g2 78 [.slice A0 4 c0, .slice A1 n1 c1, .slice A n c, .int .i64 (stockE cs sl), .int .i64 (checkE cs l)]) wz ∧ (BlkOld w2.heap.size (some sb) g1 3 [.int .i64 0, .int .i64 1, .int .i64 2, .int .i64 3, .int .i64 4, .int .i64 8]) wz ∧ (SlOld csEnc 2 158 w2.heap.size (some sb) A0 4 cs) wz ∧ (SlOld skEnc 2 211 w2.heap.size (some sb) A1 n1 sl) wz ∧ (SlOld bkEnc 6 92 w2.heap.size (some sb) A n l) wz ∧ (SlOld bkEnc 6 92 w2.heap.size (some sb) (some ⟨bd, off, none⟩) dn dl) wz ∧ True) mixed (fun _ hm => ⟨hm.fa 0, hm.fa 1, hm.fa 2, hm.fa 3, hm.fa 4, hm.fa 5, trivial⟩) fun z => ?_
   refine wt 0 9 1 rfl z (ov_move rfl) ?_
   refine wt 3 9 9 rfl z (ov_field fo92_0 rfl rfl) ?_
   refine wa_all [1, 4] (by kernel_rfl) rfl ⟨⟨_, rfl, ?_⟩, ⟨_, rfl, ?_⟩, trivial⟩
   ·refine wl_buildSlice (e := 9) (cs := [.string ⟨#[119]⟩, .string ⟨#[119]⟩, .string ⟨#[119]⟩, .string ⟨#[98]⟩]) rfl (by kernel_rfl) rfl fun g5 => ?_
    refine wl_nil ?_
    refine nw 9 11 (fun _ hm => ⟨hm.fa 0, hm.fa 1, hm.fa 2, hm.fa 3, hm.fa 4, hm.fa 5, trivial⟩) fun z => ?_
    refine wa_all [2, 4] (by kernel_rfl) rfl ⟨⟨_, rfl, ?_⟩, ⟨_, rfl, ?_⟩, trivial⟩
    ·refine wl_got (γ := ByteArray) (val := fun v => .string v) (φ := fun v => v ∈ ([⟨#[119]⟩, ⟨#[119]⟩, ⟨#[119]⟩, ⟨#[98]⟩] : List ByteArray)) rfl cb49 rfl rfl rfl rfl (fun wx hm => (some_any [⟨#[119]⟩, ⟨#[119]⟩, ⟨#[119]⟩, ⟨#[98]⟩] _ _ _ wx B sb _ hm.k (by omega) (by simp) (by simp) (hm.blkI 0 rfl) (hm.neRow 0 rfl rfl))) fun s6 hs6 => ?_
     have zs6 : s6.size ≤ 100 := mem_sz hs6 (by decide)
     refine wl_nil ?_
     refine nw 9 15 (fun _ hm => ⟨hm.fa 0, hm.fa 1, hm.fa 2, hm.fa 3, hm.fa 4, hm.fa 5, trivial⟩) fun z => ?_
     refine wa1 4 rfl ?_
     refine lk_ sc9 1 rfl rfl rfl (wl_nil ?_)
     refine nw 9 31 (fun _ hm => ⟨hm.fa 0, hm.fa 1, hm.fa 2, hm.fa 3, hm.fa 4, hm.fa 5, trivial⟩) fun z => ?_
     refine wt 5 9 63 rfl z (ov_strLo us9 rfl rfl (by omega) (by omega)) ?_
     refine wt 6 9 127 rfl z (ov_sadd rfl rfl (by (try simp only [ByteArray.size_append]); omega)) ?_
     refine wt 7 9 255 rfl z (ov_field fo92_0 rfl rfl) ?_
     refine wa1 8 rfl ?_
     refine wl_store 1 sc9 rfl rfl rfl rfl rfl rfl ?_
     refine wl_nil ?_
     refine nw 9 511 (fun _ hm => ⟨hm.fa 0, hm.fa 1, hm.fa 2, hm.fa 3, hm.fa 4, hm.fa 5, trivial⟩) fun z => ?_
     refine wa_done (by kernel_rfl) ?_
     refine nx_then (gw_region (mv_ rfl ?_))
     refine wl_ov (ov_loads rz92 rfl (fun _ hm => hm.blkI 1 rfl) rfl rfl) rfl ?_
     refine wl_buildSlice (e := 92) (cs := [.string (s6 ++ (y0.extract (1 : Int).toNat y0.size)), .string y1, .int .i64 y2, .int .i64 y3, .int .i64 y4, .int .i64 y5]) rfl (by kernel_rfl) rfl fun g7 => ?_
     refine wl_append (news := [.string (s6 ++ (y0.extract (1 : Int).toNat y0.size)), .string y1, .int .i64 y2, .int .i64 y3, .int .i64 y4, .int .i64 y5]) 0 0 ap76 rfl rfl rfl rfl rfl rfl rfl (by omega) (by unfold maxLen; omega) rfl rfl fun u1 hu1 => ?_
     refine sg_ rfl (wl_nil (nx_blk_nrm (nx_then (gw_region (ad_ rfl rfl (mv_ rfl (wl_nil ?_)))))))
     exact nx_round (i + 1, u1, wl ++ [(⟨s6 ++ (y0.extract (1 : Int).toNat y0.size), y1, y2, y3, y4, y5⟩ : Bk)], wl.flatMap bkEnc ++ ([.string (s6 ++ (y0.extract (1 : Int).toNat y0.size)), .string y1, .int .i64 y2, .int .i64 y3, .int .i64 y4, .int .i64 y5] : List Value)) ⟨by dsimp only; omega, by simp [hwl], bo_snoc hwo ⟨by dsimp only; exact cat_ok zs6 (by omega), by dsimp only; omega⟩, by simp [bkEnc]⟩ (by dsimp only; omega) ⟨rfl, rfl, rfl, rfl, rfl, rfl, (some_int (by omega)), trivial⟩ (fun _ hm => (hm.more rfl (by first | omega | (dsimp only; omega))).pick [] [0] [0, 1, 2, 3, 4, 5] rfl rfl)
    refine lk_ sc9 1 rfl rfl rfl (wl_nil ?_)
    refine nw 9 27 (fun _ hm => ⟨hm.fa 0, hm.fa 1, hm.fa 2, hm.fa 3, hm.fa 4, hm.fa 5, trivial⟩) fun z => ?_
    refine wt 5 9 59 rfl z (ov_strLo us9 rfl rfl (by omega) (by omega)) ?_
    refine wa1 2 rfl ?_
    refine wl_got (γ := ByteArray) (val := fun v => .string v) (φ := fun v => v ∈ ([⟨#[119]⟩, ⟨#[119]⟩, ⟨#[119]⟩, ⟨#[98]⟩] : List ByteArray)) rfl cb49 rfl rfl rfl rfl (fun wx hm => (some_any [⟨#[119]⟩, ⟨#[119]⟩, ⟨#[119]⟩, ⟨#[98]⟩] _ _ _ wx B sb _ hm.k (by omega) (by simp) (by simp) (hm.blkI 0 rfl) (hm.neRow 0 rfl rfl))) fun s8 hs8 => ?_
    have zs8 : s8.size ≤ 100 := mem_sz hs8 (by decide)
    refine wl_nil ?_
    refine nw 9 63 (fun _ hm => ⟨hm.fa 0, hm.fa 1, hm.fa 2, hm.fa 3, hm.fa 4, hm.fa 5, trivial⟩) fun z => ?_
    refine wt 6 9 127 rfl z (ov_sadd rfl rfl (by (try simp only [ByteArray.size_append]); omega)) ?_
    refine wt 7 9 255 rfl z (ov_field fo92_0 rfl rfl) ?_
    refine wa1 8 rfl ?_
    refine wl_store 1 sc9 rfl rfl rfl rfl rfl rfl ?_
    refine wl_nil ?_
    refine nw 9 511 (fun _ hm => ⟨hm.fa 0, hm.fa 1, hm.fa 2, hm.fa 3, hm.fa 4, hm.fa 5, trivial⟩) fun z => ?_
    refine wa_done (by kernel_rfl) ?_
    refine nx_then (gw_region (mv_ rfl ?_))
    refine wl_ov (ov_loads rz92 rfl (fun _ hm => hm.blkI 1 rfl) rfl rfl) rfl ?_
    refine wl_buildSlice (e := 92) (cs := [.string (s8 ++ (y0.extract (1 : Int).toNat y0.size)), .string y1, .int .i64 y2, .int .i64 y3, .int .i64 y4, .int .i64 y5]) rfl (by kernel_rfl) rfl fun g9 => ?_
    refine wl_append (news := [.string (s8 ++ (y0.extract (1 : Int).toNat y0.size)), .string y1, .int .i64 y2, .int .i64 y3, .int .i64 y4, .int .i64 y5]) 0 0 ap76 rfl rfl rfl rfl rfl rfl rfl (by omega) (by unfold maxLen; omega) rfl rfl fun u1 hu1 => ?_
    refine sg_ rfl (wl_nil (nx_blk_nrm (nx_then (gw_region (ad_ rfl rfl (mv_ rfl (wl_nil ?_)))))))
    exact nx_round (i + 1, u1, wl ++ [(⟨s8 ++ (y0.extract (1 : Int).toNat y0.size), y1, y2, y3, y4, y5⟩ : Bk)], wl.flatMap bkEnc ++ ([.string (s8 ++ (y0.extract (1 : Int).toNat y0.size)), .string y1, .int .i64 y2, .int .i64 y3, .int .i64 y4, .int .i64 y5] : List Value)) ⟨by dsimp only; omega, by simp [hwl], bo_snoc hwo ⟨by dsimp only; exact cat_ok zs8 (by omega), by dsimp only; omega⟩, by simp [bkEnc]⟩ (by dsimp only; omega) ⟨rfl, rfl, rfl, rfl, rfl, rfl, (some_int (by omega)), trivial⟩ (fun _ hm => (hm.more rfl (by first | omega | (dsimp only; omega))).pick [] [0] [0, 1, 2, 3, 4, 5] rfl rfl)
   refine lk_ sc9 0 rfl rfl rfl (wl_nil ?_)
   refine nw 9 25 (fun _ hm => ⟨hm.fa 0, hm.fa 1, hm.fa 2, hm.fa 3, hm.fa 4, hm.fa 5, trivial⟩) fun z => ?_
   refine wt 5 9 57 rfl z (ov_strLo us9 rfl rfl (by omega) (by omega)) ?_
   refine wa1 1 rfl ?_
   refine wl_buildSlice (e := 9) (cs := [.string ⟨#[119]⟩, .string ⟨#[119]⟩, .string ⟨#[119]⟩, .string ⟨#[98]⟩]) rfl (by kernel_rfl) rfl fun g10 => ?_
   refine wl_nil ?_
   refine nw 9 59 (fun _ hm => ⟨hm.fa 0, hm.fa 1, hm.fa 2, hm.fa 3, hm.fa 4, hm.fa 5, trivial⟩) fun z => ?_
   refine wa1 2 rfl ?_
   refine wl_got (γ := ByteArray) (val := fun v => .string v) (φ := fun v => v ∈ ([⟨#[119]⟩, ⟨#[119]⟩, ⟨#[119]⟩, ⟨#[98]⟩] : List ByteArray)) rfl cb49 rfl rfl rfl rfl (fun wx hm => (some_any [⟨#[119]⟩, ⟨#[119]⟩, ⟨#[119]⟩, ⟨#[98]⟩] _ _ _ wx B sb _ hm.k (by omega) (by simp) (by simp) (hm.blkI 0 rfl) (hm.neRow 0 rfl rfl))) fun s11 hs11 => ?_
   have zs11 : s11.size ≤ 100 := mem_sz hs11 (by decide)
   refine wl_nil ?_
   refine nw 9 63 (fun _ hm => ⟨hm.fa 0, hm.fa 1, hm.fa 2, hm.fa 3, hm.fa 4, hm.fa 5, trivial⟩) fun z => ?_
   refine wt 6 9 127 rfl z (ov_sadd rfl rfl (by (try simp only [ByteArray.size_append]); omega)) ?_
   refine wt 7 9 255 rfl z (ov_field fo92_0 rfl rfl) ?_
   refine wa1 8 rfl ?_
   refine wl_store 1 sc9 rfl rfl rfl rfl rfl rfl ?_
   refine wl_nil ?_
   refine nw 9 511 (fun _ hm => ⟨hm.fa 0, hm.fa 1, hm.fa 2, hm.fa 3, hm.fa 4, hm.fa 5, trivial⟩) fun z => ?_
   refine wa_done (by kernel_rfl) ?_
   refine nx_then (gw_region (mv_ rfl ?_))
   refine wl_ov (ov_loads rz92 rfl (fun _ hm => hm.blkI 1 rfl) rfl rfl) rfl ?_
   refine wl_buildSlice (e := 92) (cs := [.string (s11 ++ (y0.extract (1 : Int).toNat y0.size)), .string y1, .int .i64 y2, .int .i64 y3, .int .i64 y4, .int .i64 y5]) rfl (by kernel_rfl) rfl fun g12 => ?_
   refine wl_append (news := [.string (s11 ++ (y0.extract (1 : Int).toNat y0.size)), .string y1, .int .i64 y2, .int .i64 y3, .int .i64 y4, .int .i64 y5]) 0 0 ap76 rfl rfl rfl rfl rfl rfl rfl (by omega) (by unfold maxLen; omega) rfl rfl fun u1 hu1 => ?_
   refine sg_ rfl (wl_nil (nx_blk_nrm (nx_then (gw_region (ad_ rfl rfl (mv_ rfl (wl_nil ?_)))))))
   exact nx_round (i + 1, u1, wl ++ [(⟨s11 ++ (y0.extract (1 : Int).toNat y0.size), y1, y2, y3, y4, y5⟩ : Bk)], wl.flatMap bkEnc ++ ([.string (s11 ++ (y0.extract (1 : Int).toNat y0.size)), .string y1, .int .i64 y2, .int .i64 y3, .int .i64 y4, .int .i64 y5] : List Value)) ⟨by dsimp only; omega, by simp [hwl], bo_snoc hwo ⟨by dsimp only; exact cat_ok zs11 (by omega), by dsimp only; omega⟩, by simp [bkEnc]⟩ (by dsimp only; omega) ⟨rfl, rfl, rfl, rfl, rfl, rfl, (some_int (by omega)), trivial⟩ (fun _ hm => (hm.more rfl (by first | omega | (dsimp only; omega))).pick [] [0] [0, 1, 2, 3, 4, 5] rfl rfl)
  have hk2 : ¬ (((y0).size : Int) = 2) := by simpa using hh
  clear hh
  refine gw_skip (nx_then (gw_region (mv_ rfl ?_)))
  refine wl_ov (ov_loads rz92 rfl (fun _ hm => hm.blkI 0 rfl) rfl rfl) rfl ?_
  refine wl_buildSlice (e := 92) (cs := [.string y0, .string y1, .int .i64 y2, .int .i64 y3, .int .i64 y4, .int .i64 y5]) rfl (by kernel_rfl) rfl fun g4 => ?_
  refine wl_append (news := [.string y0, .string y1, .int .i64 y2, .int .i64 y3, .int .i64 y4, .int .i64 y5]) 0 0 ap76 rfl rfl rfl rfl rfl rfl rfl (by omega) (by unfold maxLen; omega) rfl rfl fun u1 hu1 => ?_
  refine sg_ rfl (wl_nil (nx_blk_nrm (nx_then (gw_region (ad_ rfl rfl (mv_ rfl (wl_nil ?_)))))))
  exact nx_round (i + 1, u1, wl ++ [(⟨y0, y1, y2, y3, y4, y5⟩ : Bk)], wl.flatMap bkEnc ++ ([.string y0, .string y1, .int .i64 y2, .int .i64 y3, .int .i64 y4, .int .i64 y5] : List Value)) ⟨by dsimp only; omega, by simp [hwl], bo_snoc hwo ⟨by dsimp only; omega, by dsimp only; omega⟩, by simp [bkEnc]⟩ (by dsimp only; omega) ⟨rfl, rfl, rfl, rfl, rfl, rfl, (some_int (by omega)), trivial⟩ (fun _ hm => (hm.more rfl (by first | omega | (dsimp only; omega))).pick [] [0] [0, 1, 2, 3, 4, 5] rfl rfl)
 have hi : ¬ (((i : Nat) : Int) < ((dn : Nat) : Int)) := by simpa using hh
 clear hh
 refine gw_exit ?_
 refine nx_then_exit (nx_then_exit ?_)
 refine nx_blk_here ?_
 refine nx_then (sr_ ?_)
 obtain rfl : i = dn := by omega
 refine wl_look (R := ∃ A cc, v = .slice A i cc) (fun wx hm => own_slice (hm.ownI 0 rfl)) ?_
 rintro ⟨W, wc, rfl⟩
 refine wl_nest none [9] fun w3 hm_w3 => ⟨_, _, _, _, mem0 (X := [SlOld csEnc 2 158 w3.heap.size none A0 4 cs, SlOld skEnc 2 211 w3.heap.size none A1 n1 sl, SlOld bkEnc 6 92 w3.heap.size none A n l, SlOld bkEnc 6 92 w3.heap.size none W i wl, BlkOld w3.heap.size none g2 78 [.slice A0 4 c0, .slice A1 n1 c1, .slice A n c, .int .i64 (stockE cs sl), .int .i64 (checkE cs l)]]) (allF_cons (SlT.old ((hm_w3.fact 2 rfl)).1) (allF_cons (SlT.old ((hm_w3.fact 3 rfl)).1) (allF_cons (SlT.old ((hm_w3.fact 4 rfl)).1) (allF_cons (SlT.old (SlT.ofOwn bk_len (hm_w3.ownI 0 rfl) hwl)) (allF_cons ((hm_w3.fact 0 rfl)).2.old allF_nil))))) (allL_cons SlOld.lasts (allL_cons SlOld.lasts (allL_cons SlOld.lasts (allL_cons SlOld.lasts (allL_cons BlkOld.lasts allL_nil))))), ?_⟩
 refine fd_ fo78_0 rfl rfl ?_
 refine wl_ov (ov_load (v := .slice A0 4 c0) sc58 rfl (fun _ hm => (hm.fact 4 rfl).2) rfl) rfl ?_
 refine fd_ fo78_1 rfl rfl ?_
 refine wl_ov (ov_load (v := .slice A1 n1 c1) sc75 rfl (fun _ hm => (hm.fact 4 rfl).2) rfl) rfl ?_
 refine fd_ fo78_2 rfl rfl ?_
 refine wl_ov (ov_load (v := .slice A n c) sc76 rfl (fun _ hm => (hm.fact 4 rfl).2) rfl) rfl ?_
 refine mv_ rfl ?_
 obtain ⟨E0, hE0⟩ : ∃ z, z = firstE [stockE cs sl, checkE cs l] := ⟨_, rfl⟩
 obtain ⟨BW, hBW⟩ : ∃ z, z = checkE cs wl := ⟨_, rfl⟩
 obtain ⟨F0, hF0⟩ : ∃ z, z = firstE [E0, BW] := ⟨_, rfl⟩
 obtain ⟨TW, hTW⟩ : ∃ z, z = wl.any (fun b => hasB l b.key) := ⟨_, rfl⟩
 obtain ⟨F1, hF1⟩ : ∃ z, z = firstE [firstE [F0, whenE TW 6], whenE (decide (7 < ((n : Nat) : Int))) 2] := ⟨_, rfl⟩
 obtain ⟨PE, hPE⟩ : ∃ z, z = prE cs sl l wl := ⟨_, rfl⟩
 have hpe : PE = firstE [F0, whenE TW 6, whenE (decide (7 < ((n : Nat) : Int))) 2, whenE (asgO cs sl l).isNone 12] := by
  rw [hPE, hF0, hE0, hBW, hTW, ← tw_any l wl 0, ← hlen]; rfl
 have hpe1 : PE = if F1 = 0 then whenE (asgO cs sl l).isNone 12 else F1 := by rw [hpe, hF1]; exact first_cut _ _ _ _
 have hw4 : SlT bkEnc 6 92 w3 W i wl := SlT.ofOwn bk_len (hm_w3.ownI 0 rfl) hwl
 by_cases hf1 : F1 = 0
 ·obtain ⟨hu1, hu2⟩ := firstE_two (hF1.symm.trans hf1)
  obtain ⟨hu3, _⟩ := firstE_two hu1
  obtain ⟨hu4, hu5⟩ := firstE_two (hF0.symm.trans hu3)
  have hz0 : firstE [stockE cs sl, checkE cs l] = 0 := hE0.symm.trans hu4
  have hzw : firstE [stockE cs sl, checkE cs wl] = 0 := by rw [(firstE_two hz0).1, ← hBW, hu5]; rfl
  have hn7 := of_decide_eq_false (whenE_no hu2 (by decide))
  obtain ⟨⟨h30, hcl, hlo⟩, hmany, hkeys, htm, _⟩ := right_has hz0
  rcases hao : asgO cs sl l with _ | o
  ·refine wl_callv rfl cb50 rfl rfl (fun wx hm => ((promote_any cs A0 4 c0 sl A1 n1 c1 l A n c wl W i wc wx (hm.fact 0 rfl).1 hco (by omega) (hm.fact 1 rfl).1 hso (by omega) (hm.fact 2 rfl).1 hok (by omega) (hm.fact 3 rfl).1 hwo (by omega)).mono fun _ _ ⟨h, hg⟩ => by
    rw [← hPE, hpe1, if_pos hf1, hao] at h
    rcases h with ⟨_, he⟩ | ⟨h2, _⟩
    ·exact ⟨he, hg⟩
    exact absurd h2 (by decide))) ?_
   refine mv_ rfl (wl_ov (ov_extract rfl rfl) rfl (wl_ov (ov_extract rfl rfl) rfl (sg_ rfl (sg_ rfl (nn_ (gw_seq ?_))))))
   refine gd (fun wz => (SlOld csEnc 2 158 w3.heap.size none A0 4 cs) wz ∧ (SlOld skEnc 2 211 w3.heap.size none A1 n1 sl) wz ∧ (SlOld bkEnc 6 92 w3.heap.size none A n l) wz ∧ (SlOld bkEnc 6 92 w3.heap.size none W i wl) wz ∧ (BlkOld w3.heap.size none g2 78 [.slice A0 4 c0, .slice A1 n1 c1, .slice A n c, .int .i64 (stockE cs sl), .int .i64 (checkE cs l)]) wz ∧ True) mixed (fun _ hm => ⟨hm.fa 0, hm.fa 1, hm.fa 2, hm.fa 3, hm.fa 4, trivial⟩) fun z => ?_
   refine wt 0 9 1 rfl z (ov_loads (vs := [.slice A0 4 c0, .slice A1 n1 c1, .slice A n c, .int .i64 (stockE cs sl), .int .i64 (checkE cs l)]) rz78 rfl (fun _ hm => (hm.2.2.2.2.1).2) rfl rfl) ?_
   refine wt 2 9 5 rfl z (ov_field fo78_0 rfl rfl) ?_
   refine wt 3 9 13 rfl z (ov_load (v := .slice A0 4 c0) sc58 rfl (fun _ hm => (hm.2.2.2.2.1).2) rfl) ?_
   refine wt 4 9 29 rfl z (ov_move rfl) ?_
   refine wa1 1 rfl ?_
   refine wl_callv (v := .int .i64 E0) rfl cb37 rfl rfl (fun wx hm => (by have h := call_any A0 A1 A 4 c0 n1 c1 n c (stockE cs sl) (checkE cs l) wx; rw [← hE0] at h; exact h)) ?_
   refine wl_nil ?_
   refine nw 9 31 (fun _ hm => ⟨hm.fa 0, hm.fa 1, hm.fa 2, hm.fa 3, hm.fa 4, trivial⟩) fun z => ?_
   refine wa1 5 rfl ?_
   refine wl_callv (v := .int .i64 BW) rfl cb51 rfl rfl (fun wx hm => (by rw [hBW]; exact bookingsFault_any cs A0 4 c0 wl W i wc wx (hm.fact 0 rfl).1 hco (by omega) (hm.fact 3 rfl).1 hwo (by omega))) ?_
   refine wl_nil ?_
   refine nw 9 63 (fun _ hm => ⟨hm.fa 0, hm.fa 1, hm.fa 2, hm.fa 3, hm.fa 4, trivial⟩) fun z => ?_
   refine wa1 6 rfl ?_
   refine wl_buildSlice (e := 33) (cs := [.int .i64 E0, .int .i64 BW]) rfl (by kernel_rfl) rfl fun g17 => ?_
   refine wl_nil ?_
   refine nw 9 127 (fun _ hm => ⟨hm.fa 0, hm.fa 1, hm.fa 2, hm.fa 3, hm.fa 4, trivial⟩) fun z => ?_
   refine wa1 7 rfl ?_
   refine wl_callw rfl cb36 rfl rfl (fun wx hm => (errs_any [E0, BW] _ _ _ wx (hm.blkI 0 rfl) (by simp))) ?_
   refine wl_nil ?_
   refine nw 9 255 (fun _ hm => ⟨hm.fa 0, hm.fa 1, hm.fa 2, hm.fa 3, hm.fa 4, trivial⟩) fun z => ?_
   refine wt 8 9 511 rfl z (ov_assign rfl) ?_
   refine wa_done (by kernel_rfl) ?_
   refine nx_then (gw_seq (sr_ (mv_ rfl (wl_ov (ov_len es76 rfl) rfl (mv_ rfl (nn_ (gw_block ?_)))))))
   refine gw_loop (γ := Nat) (fun (j : Nat) => j ≤ i) (fun (j : Nat) => [(2, .bool false), (4, .pointer (some ⟨g2, 0, none⟩)), (5, .slice W i wc), (8, .slice none 0 0), (9, .int .i64 12), (10, .int .i64 (firstE [F0, whenE ((wl.take j).any (fun b => hasB l b.key)) 6])), (68, .slice W i wc), (69, .int .i64 ((i : Nat) : Int)), (70, .int .i64 ((j : Nat) : Int))]) (fun (j : Nat) => fun _ => True) (fun (j : Nat) => []) (fun (j : Nat) => []) (fun (j : Nat) => [SlOld csEnc 2 158 w3.heap.size none A0 4 cs, SlOld skEnc 2 211 w3.heap.size none A1 n1 sl, SlOld bkEnc 6 92 w3.heap.size none A n l, SlOld bkEnc 6 92 w3.heap.size none W i wl, BlkOld w3.heap.size none g2 78 [.slice A0 4 c0, .slice A1 n1 c1, .slice A n c, .int .i64 (stockE cs sl), .int .i64 (checkE cs l)]]) (fun (j : Nat) => i - j) 0 (Nat.zero_le _) ⟨rfl, rfl, rfl, rfl, rfl, (some_int (by rw [← hF0]; exact first0 _ _)), rfl, rfl, rfl, trivial⟩ (fun _ hm => hm.pick [] [] [0, 1, 2, 3, 4] rfl rfl) ?_
   intro j hinv
   replace hinv : j ≤ i := hinv
   refine sr_ (wl_ov (ov_lss rfl rfl) rfl (nn_ (gw_seq ?_)))
   refine gw_cond rfl (fun hh => ?_) (fun hh => ?_)
   ·have hj : ((j : Nat) : Int) < ((i : Nat) : Int) := by simpa using hh
    clear hh
    refine gw_skip (nx_then (gw_seq (gw_block (sr_ ?_))))
    obtain ⟨bw, ow, hA, _, _⟩ := ((⟨hw4, trivial⟩ : SlT bkEnc 6 92 w3 W i wl ∧ True).1).get (by omega)
    subst hA
    obtain ⟨x, hx⟩ : ∃ x, wl[j]? = some x := ⟨_, List.getElem?_eq_getElem (by omega)⟩
    obtain ⟨x0, x1, x2, x3, x4, x5⟩ := x
    refine wl_ov (ov_index (j := j) es76 rfl rfl (by omega)) rfl ?_
    refine wl_ov (ov_elem (vs := [.string x0, .string x1, .int .i64 x2, .int .i64 x3, .int .i64 x4, .int .i64 x5]) rz92 rfl (fun _ hm => (hm.fact 3 rfl).1) hx rfl rfl) rfl ?_
    refine wl_alloc zc92 rfl fun g18 => ?_
    refine wl_stores (cs' := [.string x0, .string x1, .int .i64 x2, .int .i64 x3, .int .i64 x4, .int .i64 x5]) 0 rz92 rfl rfl rfl rfl rfl rfl rfl rfl ?_
    refine nn_ (gw_region (mv_ rfl (fd_ fo78_2 rfl rfl ?_)))
    refine wl_ov (ov_load (v := .slice A n c) sc76 rfl (fun _ hm => (hm.fact 4 rfl).2) rfl) rfl ?_
    refine wl_ov (ov_makeFunc rfl rfl) rfl ?_
    refine wl_callv rfl cb52 rfl rfl (fun wx hm => (hasW_any l A n c x0 x1 x2 x3 x4 x5 _ wx (hm.fact 2 rfl).1 (by omega) (hm.blkI 0 rfl))) ?_
    refine wl_callw rfl cb38 rfl rfl (fun wx hm => (rwhen_any _ _ wx)) ?_
    refine wl_buildSlice (e := 33) (cs := [.int .i64 (firstE [F0, whenE ((wl.take j).any (fun b => hasB l b.key)) 6]), .int .i64 (whenE (hasB l x0) 6)]) rfl (by kernel_rfl) rfl fun g19 => ?_
    refine wl_callw rfl cb36 rfl rfl (fun wx hm => (errs_any [firstE [F0, whenE ((wl.take j).any (fun b => hasB l b.key)) 6], whenE (hasB l x0) 6] _ _ _ wx (hm.blkI 0 rfl) (by simp))) ?_
    refine sg_ rfl (wl_nil (nx_blk_nrm (nx_then (gw_region (ad_ rfl rfl (mv_ rfl (wl_nil ?_)))))))
    exact nx_round (j + 1) (by omega) (by omega) ⟨rfl, rfl, rfl, rfl, rfl, (some_int (by rw [errs_or, any_tk hx])), rfl, rfl, (some_int (by omega)), trivial⟩ (fun _ hm => hm.pick [] [] [0, 1, 2, 3, 4] rfl rfl)
   have hj : ¬ (((j : Nat) : Int) < ((i : Nat) : Int)) := by simpa using hh
   clear hh
   refine gw_exit ?_
   refine nx_then_exit (nx_then_exit ?_)
   refine nx_blk_here ?_
   refine nx_then (gw_seq (sr_ ?_))
   refine wl_set 10 (v' := .int .i64 (firstE [F0, whenE TW 6])) rfl (congrArg (Value.int .i64) (by rw [hTW, List.take_of_length_le (by omega)])) ?_
   refine mv_ rfl (fd_ fo78_2 rfl rfl ?_)
   refine wl_ov (ov_load (v := .slice A n c) sc76 rfl (fun _ hm => (hm.fact 4 rfl).2) rfl) rfl ?_
   refine wl_ov (ov_len es76 rfl) rfl ?_
   refine wl_ov (ov_gtr rfl rfl) rfl ?_
   refine wl_callw rfl cb38 rfl rfl (fun wx hm => (rwhen_any _ _ wx)) ?_
   refine wl_buildSlice (e := 33) (cs := [.int .i64 (firstE [F0, whenE TW 6]), .int .i64 (whenE (decide (7 < ((n : Nat) : Int))) 2)]) rfl (by kernel_rfl) rfl fun g20 => ?_
   refine wl_callw rfl cb36 rfl rfl (fun wx hm => (errs_any [firstE [F0, whenE TW 6], whenE (decide (7 < ((n : Nat) : Int))) 2] _ _ _ wx (hm.blkI 0 rfl) (by simp))) ?_
   refine sg_ rfl (nn_ (sr_ (mv_ rfl (wl_ov (ov_eql rfl rfl) rfl (nn_ ?_)))))
   refine gw_set 92 (v' := .bool true) rfl (congrArg Value.bool (by rw [← hF1]; exact decide_eq_true hf1)) ?_
   refine ct_ rfl (sr_ (fd_ fo78_0 rfl rfl ?_))
   refine wl_ov (ov_load (v := .slice A0 4 c0) sc58 rfl (fun _ hm => (hm.fact 4 rfl).2) rfl) rfl ?_
   refine fd_ fo78_1 rfl rfl ?_
   refine wl_ov (ov_load (v := .slice A1 n1 c1) sc75 rfl (fun _ hm => (hm.fact 4 rfl).2) rfl) rfl ?_
   refine fd_ fo78_2 rfl rfl ?_
   refine wl_ov (ov_load (v := .slice A n c) sc76 rfl (fun _ hm => (hm.fact 4 rfl).2) rfl) rfl ?_
   refine wl_callv rfl cb39 rfl rfl (fun wx hm => ((assignOf_any cs A0 4 c0 sl A1 n1 c1 l A n c wx (hm.fact 0 rfl).1 hco (by omega) hcl hlo (hm.fact 1 rfl).1 hso (by omega) hmany (hm.fact 2 rfl).1 (keys_ix hkeys) htm (by omega)).mono fun _ _ ⟨h, hg⟩ => by
    rcases h with ⟨_, he⟩ | ⟨o, A2, c2, h2, _⟩
    ·exact ⟨he, hg⟩
    rw [hao] at h2; cases h2)) ?_
   refine mv_ rfl (wl_ov (ov_extract rfl rfl) rfl (wl_ov (ov_extract rfl rfl) rfl (sg_ rfl (sg_ rfl (nn_ (gw_region (mv_ rfl (wl_ov (ov_un_not rfl) rfl ?_))))))))
   refine wl_set 104 (v' := .bool true) rfl (congrArg Value.bool (by decide)) ?_
   refine wl_callw rfl cb38 rfl rfl (fun wx hm => (rwhen_any _ _ wx)) ?_
   refine sg_ rfl (nn_ (gw_seq (sr_ (mv_ rfl (wl_ov (ov_neq rfl rfl) rfl (nn_ ?_))))))
   refine gw_set 107 (v' := .bool true) rfl (congrArg Value.bool (by decide)) ?_
   refine ct_ rfl (sr_ (mv_ rfl (mv_ rfl (wl_ov (ov_eql rfl rfl) rfl (mv_ rfl ?_)))))
   refine wl_set 111 (v' := .bool true) rfl (congrArg Value.bool (by decide)) ?_
   refine wl_guard_on rfl rfl rfl (mv_ rfl (wl_guard_on rfl rfl rfl (wl_ov (ov_len es103 rfl) rfl ?_)))
   refine wl_set 113 (v' := .int .i64 0) rfl rfl ?_
   refine wl_guard_on rfl rfl rfl (wl_ov (ov_eql rfl rfl) rfl ?_)
   refine wl_set 114 (v' := .bool true) rfl (congrArg Value.bool (by decide)) ?_
   refine pt_ rfl rfl (mv_ rfl (wl_guard_on rfl rfl rfl ?_))
   refine wl_callv rfl cb41 rfl rfl (fun wx hm => (booked_any wx)) ?_
   refine pt_ rfl rfl (sg_ rfl (nn_ ?_))
   refine gw_ret ?_
   refine nx_then_ret ?_
   refine nx_ret1 rfl rfl fun wx hm => ?_
   exact ⟨rfl, law_end hg1 hsb (grow_trans (grow_trans hm_w2.g hm_w3.g) (grow_weak hm.g))⟩
  have hpz : prE cs sl l wl = 0 := by rw [← hPE, hpe1, if_pos hf1, hao]; rfl
  refine wl_callx (γ := Option Addr × Nat) (val := (fun g => .tuple #[.slice g.1 ((prV cs sl l wl).length) g.2, .int .i64 0])) (φ := (fun g => True)) (Y := (fun g => fun wy => SlT sgEnc 1 9 wy g.1 (prV cs sl l wl).length (prV cs sl l wl))) rfl cb50 rfl rfl (fun wx hm => (promote_any cs A0 4 c0 sl A1 n1 c1 l A n c wl W i wc wx (hm.fact 0 rfl).1 hco (by omega) (hm.fact 1 rfl).1 hso (by omega) (hm.fact 2 rfl).1 hok (by omega) (hm.fact 3 rfl).1 hwo (by omega)).mono fun _ _ ⟨h, hg⟩ => by
   rcases h with ⟨h2, _⟩ | ⟨_, A2, k2, c2, he, hs⟩
   ·exact absurd hpz h2
   rw [show k2 = (prV cs sl l wl).length from hs.len.symm] at he hs; exact ⟨(A2, c2), he, trivial, hg, hs⟩) (fun _ => SlT.lasts2 rfl) ?_
  rintro ⟨A8, c8⟩ hphi
  dsimp only
  clear hphi
  refine mv_ rfl (wl_ov (ov_extract rfl rfl) rfl (wl_ov (ov_extract rfl rfl) rfl (sg_ rfl (sg_ rfl (nn_ (gw_seq ?_))))))
  refine gd (fun wz => (fun wy => SlT sgEnc 1 9 wy A8 (prV cs sl l wl).length (prV cs sl l wl)) wz ∧ (SlOld csEnc 2 158 w3.heap.size none A0 4 cs) wz ∧ (SlOld skEnc 2 211 w3.heap.size none A1 n1 sl) wz ∧ (SlOld bkEnc 6 92 w3.heap.size none A n l) wz ∧ (SlOld bkEnc 6 92 w3.heap.size none W i wl) wz ∧ (BlkOld w3.heap.size none g2 78 [.slice A0 4 c0, .slice A1 n1 c1, .slice A n c, .int .i64 (stockE cs sl), .int .i64 (checkE cs l)]) wz ∧ True) mixed (fun _ hm => ⟨hm.fa 0, hm.fa 1, hm.fa 2, hm.fa 3, hm.fa 4, hm.fa 5, trivial⟩) fun z => ?_
  refine wt 0 9 1 rfl z (ov_loads (vs := [.slice A0 4 c0, .slice A1 n1 c1, .slice A n c, .int .i64 (stockE cs sl), .int .i64 (checkE cs l)]) rz78 rfl (fun _ hm => (hm.2.2.2.2.2.1).2) rfl rfl) ?_
  refine wt 2 9 5 rfl z (ov_field fo78_0 rfl rfl) ?_
  refine wt 3 9 13 rfl z (ov_load (v := .slice A0 4 c0) sc58 rfl (fun _ hm => (hm.2.2.2.2.2.1).2) rfl) ?_
  refine wt 4 9 29 rfl z (ov_move rfl) ?_
  refine wa1 1 rfl ?_
  refine wl_callv (v := .int .i64 E0) rfl cb37 rfl rfl (fun wx hm => (by have h := call_any A0 A1 A 4 c0 n1 c1 n c (stockE cs sl) (checkE cs l) wx; rw [← hE0] at h; exact h)) ?_
  refine wl_nil ?_
  refine nw 9 31 (fun _ hm => ⟨hm.fa 0, hm.fa 1, hm.fa 2, hm.fa 3, hm.fa 4, hm.fa 5, trivial⟩) fun z => ?_
  refine wa1 5 rfl ?_
  refine wl_callv (v := .int .i64 BW) rfl cb51 rfl rfl (fun wx hm => (by rw [hBW]; exact bookingsFault_any cs A0 4 c0 wl W i wc wx (hm.fact 1 rfl).1 hco (by omega) (hm.fact 4 rfl).1 hwo (by omega))) ?_
  refine wl_nil ?_
  refine nw 9 63 (fun _ hm => ⟨hm.fa 0, hm.fa 1, hm.fa 2, hm.fa 3, hm.fa 4, hm.fa 5, trivial⟩) fun z => ?_
  refine wa1 6 rfl ?_
  refine wl_buildSlice (e := 33) (cs := [.int .i64 E0, .int .i64 BW]) rfl (by kernel_rfl) rfl fun g21 => ?_
  refine wl_nil ?_
  refine nw 9 127 (fun _ hm => ⟨hm.fa 0, hm.fa 1, hm.fa 2, hm.fa 3, hm.fa 4, hm.fa 5, trivial⟩) fun z => ?_
  refine wa1 7 rfl ?_
  refine wl_callw rfl cb36 rfl rfl (fun wx hm => (errs_any [E0, BW] _ _ _ wx (hm.blkI 0 rfl) (by simp))) ?_
  refine wl_nil ?_
  refine nw 9 255 (fun _ hm => ⟨hm.fa 0, hm.fa 1, hm.fa 2, hm.fa 3, hm.fa 4, hm.fa 5, trivial⟩) fun z => ?_
  refine wt 8 9 511 rfl z (ov_assign rfl) ?_
  refine wa_done (by kernel_rfl) ?_
  refine nx_then (gw_seq (sr_ (mv_ rfl (wl_ov (ov_len es76 rfl) rfl (mv_ rfl (nn_ (gw_block ?_)))))))
  refine gw_loop (γ := Nat) (fun (j : Nat) => j ≤ i) (fun (j : Nat) => [(2, .bool false), (4, .pointer (some ⟨g2, 0, none⟩)), (5, .slice W i wc), (8, .slice A8 ((prV cs sl l wl).length) c8), (9, .int .i64 0), (10, .int .i64 (firstE [F0, whenE ((wl.take j).any (fun b => hasB l b.key)) 6])), (68, .slice W i wc), (69, .int .i64 ((i : Nat) : Int)), (70, .int .i64 ((j : Nat) : Int))]) (fun (j : Nat) => fun _ => True) (fun (j : Nat) => []) (fun (j : Nat) => []) (fun (j : Nat) => [fun wy => SlT sgEnc 1 9 wy A8 (prV cs sl l wl).length (prV cs sl l wl), SlOld csEnc 2 158 w3.heap.size none A0 4 cs, SlOld skEnc 2 211 w3.heap.size none A1 n1 sl, SlOld bkEnc 6 92 w3.heap.size none A n l, SlOld bkEnc 6 92 w3.heap.size none W i wl, BlkOld w3.heap.size none g2 78 [.slice A0 4 c0, .slice A1 n1 c1, .slice A n c, .int .i64 (stockE cs sl), .int .i64 (checkE cs l)]]) (fun (j : Nat) => i - j) 0 (Nat.zero_le _) ⟨rfl, rfl, rfl, rfl, rfl, (some_int (by rw [← hF0]; exact first0 _ _)), rfl, rfl, rfl, trivial⟩ (fun _ hm => hm.pick [] [] [0, 1, 2, 3, 4, 5] rfl rfl) ?_
  intro j hinv
  replace hinv : j ≤ i := hinv
  refine sr_ (wl_ov (ov_lss rfl rfl) rfl (nn_ (gw_seq ?_)))
  refine gw_cond rfl (fun hh => ?_) (fun hh => ?_)
  ·have hj : ((j : Nat) : Int) < ((i : Nat) : Int) := by simpa using hh
   clear hh
   refine gw_skip (nx_then (gw_seq (gw_block (sr_ ?_))))
   obtain ⟨bw, ow, hA, _, _⟩ := ((⟨hw4, trivial⟩ : SlT bkEnc 6 92 w3 W i wl ∧ True).1).get (by omega)
   subst hA
   obtain ⟨x, hx⟩ : ∃ x, wl[j]? = some x := ⟨_, List.getElem?_eq_getElem (by omega)⟩
   obtain ⟨x0, x1, x2, x3, x4, x5⟩ := x
   refine wl_ov (ov_index (j := j) es76 rfl rfl (by omega)) rfl ?_
   refine wl_ov (ov_elem (vs := [.string x0, .string x1, .int .i64 x2, .int .i64 x3, .int .i64 x4, .int .i64 x5]) rz92 rfl (fun _ hm => (hm.fact 4 rfl).1) hx rfl rfl) rfl ?_
   refine wl_alloc zc92 rfl fun g22 => ?_
   refine wl_stores (cs' := [.string x0, .string x1, .int .i64 x2, .int .i64 x3, .int .i64 x4, .int .i64 x5]) 0 rz92 rfl rfl rfl rfl rfl rfl rfl rfl ?_
   refine nn_ (gw_region (mv_ rfl (fd_ fo78_2 rfl rfl ?_)))
   refine wl_ov (ov_load (v := .slice A n c) sc76 rfl (fun _ hm => (hm.fact 5 rfl).2) rfl) rfl ?_
   refine wl_ov (ov_makeFunc rfl rfl) rfl ?_
   refine wl_callv rfl cb52 rfl rfl (fun wx hm => (hasW_any l A n c x0 x1 x2 x3 x4 x5 _ wx (hm.fact 3 rfl).1 (by omega) (hm.blkI 0 rfl))) ?_
   refine wl_callw rfl cb38 rfl rfl (fun wx hm => (rwhen_any _ _ wx)) ?_
   refine wl_buildSlice (e := 33) (cs := [.int .i64 (firstE [F0, whenE ((wl.take j).any (fun b => hasB l b.key)) 6]), .int .i64 (whenE (hasB l x0) 6)]) rfl (by kernel_rfl) rfl fun g23 => ?_
   refine wl_callw rfl cb36 rfl rfl (fun wx hm => (errs_any [firstE [F0, whenE ((wl.take j).any (fun b => hasB l b.key)) 6], whenE (hasB l x0) 6] _ _ _ wx (hm.blkI 0 rfl) (by simp))) ?_
   refine sg_ rfl (wl_nil (nx_blk_nrm (nx_then (gw_region (ad_ rfl rfl (mv_ rfl (wl_nil ?_)))))))
   exact nx_round (j + 1) (by omega) (by omega) ⟨rfl, rfl, rfl, rfl, rfl, (some_int (by rw [errs_or, any_tk hx])), rfl, rfl, (some_int (by omega)), trivial⟩ (fun _ hm => hm.pick [] [] [0, 1, 2, 3, 4, 5] rfl rfl)
  have hj : ¬ (((j : Nat) : Int) < ((i : Nat) : Int)) := by simpa using hh
  clear hh
  refine gw_exit ?_
  refine nx_then_exit (nx_then_exit ?_)
  refine nx_blk_here ?_
  refine nx_then (gw_seq (sr_ ?_))
  refine wl_set 10 (v' := .int .i64 (firstE [F0, whenE TW 6])) rfl (congrArg (Value.int .i64) (by rw [hTW, List.take_of_length_le (by omega)])) ?_
  refine mv_ rfl (fd_ fo78_2 rfl rfl ?_)
  refine wl_ov (ov_load (v := .slice A n c) sc76 rfl (fun _ hm => (hm.fact 5 rfl).2) rfl) rfl ?_
  refine wl_ov (ov_len es76 rfl) rfl ?_
  refine wl_ov (ov_gtr rfl rfl) rfl ?_
  refine wl_callw rfl cb38 rfl rfl (fun wx hm => (rwhen_any _ _ wx)) ?_
  refine wl_buildSlice (e := 33) (cs := [.int .i64 (firstE [F0, whenE TW 6]), .int .i64 (whenE (decide (7 < ((n : Nat) : Int))) 2)]) rfl (by kernel_rfl) rfl fun g24 => ?_
  refine wl_callw rfl cb36 rfl rfl (fun wx hm => (errs_any [firstE [F0, whenE TW 6], whenE (decide (7 < ((n : Nat) : Int))) 2] _ _ _ wx (hm.blkI 0 rfl) (by simp))) ?_
  refine sg_ rfl (nn_ (sr_ (mv_ rfl (wl_ov (ov_eql rfl rfl) rfl (nn_ ?_)))))
  refine gw_set 92 (v' := .bool true) rfl (congrArg Value.bool (by rw [← hF1]; exact decide_eq_true hf1)) ?_
  refine ct_ rfl (sr_ (fd_ fo78_0 rfl rfl ?_))
  refine wl_ov (ov_load (v := .slice A0 4 c0) sc58 rfl (fun _ hm => (hm.fact 5 rfl).2) rfl) rfl ?_
  refine fd_ fo78_1 rfl rfl ?_
  refine wl_ov (ov_load (v := .slice A1 n1 c1) sc75 rfl (fun _ hm => (hm.fact 5 rfl).2) rfl) rfl ?_
  refine fd_ fo78_2 rfl rfl ?_
  refine wl_ov (ov_load (v := .slice A n c) sc76 rfl (fun _ hm => (hm.fact 5 rfl).2) rfl) rfl ?_
  refine wl_callx (γ := Option Addr × Nat) (val := (fun g => .tuple #[.slice g.1 n g.2, .bool true])) (φ := (fun g => True)) (Y := (fun g => fun _ => True)) rfl cb39 rfl rfl (fun wx hm => (assignOf_any cs A0 4 c0 sl A1 n1 c1 l A n c wx (hm.fact 1 rfl).1 hco (by omega) hcl hlo (hm.fact 2 rfl).1 hso (by omega) hmany (hm.fact 3 rfl).1 (keys_ix hkeys) htm (by omega)).mono fun _ _ ⟨h, hg⟩ => by
   rcases h with ⟨h2, _⟩ | ⟨o2, A2, c2, h2, he, hs⟩
   ·rw [hao] at h2; cases h2
   rw [hao] at h2; cases h2; exact ⟨(A2, c2), he, trivial, hg, trivial⟩) (fun _ => Lasts2.true_) ?_
  rintro ⟨B2, d2⟩ hphi
  dsimp only
  clear hphi
  refine mv_ rfl (wl_ov (ov_extract rfl rfl) rfl (wl_ov (ov_extract rfl rfl) rfl (sg_ rfl (sg_ rfl (nn_ (gw_region (mv_ rfl (wl_ov (ov_un_not rfl) rfl ?_))))))))
  refine wl_set 104 (v' := .bool false) rfl (congrArg Value.bool (by decide)) ?_
  refine wl_callw rfl cb38 rfl rfl (fun wx hm => (rwhen_any _ _ wx)) ?_
  refine sg_ rfl (nn_ (gw_seq (sr_ (mv_ rfl (wl_ov (ov_neq rfl rfl) rfl (nn_ ?_))))))
  refine gw_set 107 (v' := .bool false) rfl (congrArg Value.bool (by decide)) ?_
  refine cf_ rfl (gw_skip (nx_then (sr_ (mv_ rfl (wl_ov (ov_eql rfl rfl) rfl ?_)))))
  refine wl_set 120 (v' := .bool true) rfl (congrArg Value.bool (by decide)) ?_
  refine mv_ rfl (wl_guard_on rfl rfl rfl (mv_ rfl (wl_guard_on rfl rfl rfl (fd_ fo78_0 rfl rfl (wl_guard_on rfl rfl rfl ?_)))))
  refine wl_ov (ov_load (v := .slice A0 4 c0) sc58 rfl (fun _ hm => (hm.fact 6 rfl).2) rfl) rfl ?_
  refine wl_guard_on rfl rfl rfl (fd_ fo78_1 rfl rfl (wl_guard_on rfl rfl rfl ?_))
  refine wl_ov (ov_load (v := .slice A1 n1 c1) sc75 rfl (fun _ hm => (hm.fact 6 rfl).2) rfl) rfl ?_
  refine wl_guard_on rfl rfl rfl (fd_ fo78_2 rfl rfl (wl_guard_on rfl rfl rfl ?_))
  refine wl_ov (ov_load (v := .slice A n c) sc76 rfl (fun _ hm => (hm.fact 6 rfl).2) rfl) rfl ?_
  refine wl_guard_on rfl rfl rfl (mv_ rfl (wl_guard_on rfl rfl rfl ?_))
  refine wl_callx (γ := Option Addr × Nat) (val := (fun g => .slice g.1 ((prV cs sl l wl).length) g.2)) (φ := (fun g => True)) (Y := (fun g => fun wy => SlT sgEnc 1 9 wy g.1 (prV cs sl l wl).length (prV cs sl l wl))) rfl cb55 rfl rfl (fun wx hm => (promoteOf_any cs A0 4 c0 sl A1 n1 c1 l A n c wl W i wc wx (hm.fact 2 rfl).1 hco (by omega) (hm.fact 3 rfl).1 hso (by omega) (hm.fact 4 rfl).1 (by omega) (hm.fact 5 rfl).1 (by omega) hz0 hzw).mono fun _ _ ⟨A2, k2, c2, he, hs, hg⟩ => ⟨(A2, c2), by rw [show k2 = (prV cs sl l wl).length from hs.len.symm] at he; exact he, trivial, hg, by rw [show k2 = (prV cs sl l wl).length from hs.len.symm] at hs; exact hs⟩) (fun _ => SlT.lasts2 rfl) ?_
  rintro ⟨B4, d4⟩ hphi
  dsimp only
  clear hphi
  refine wl_guard_on rfl rfl rfl ?_
  refine wl_callv rfl cb54 rfl rfl (fun wx hm => (equal_strs (prV cs sl l wl) A8 B4 _ c8 d4 wx (hm.fact 2 rfl) (hm.fact 0 rfl) (by have := prV_len (cs := cs) (sl := sl) (l := l) (wl := wl); omega))) ?_
  refine pt_ rfl rfl (mv_ rfl (wl_guard_on rfl rfl rfl ?_))
  refine wl_callv rfl cb41 rfl rfl (fun wx hm => (booked_any wx)) ?_
  refine pt_ rfl rfl (sg_ rfl (nn_ ?_))
  refine gw_ret ?_
  refine nx_ret1 rfl rfl fun wx hm => ?_
  exact ⟨rfl, law_end hg1 hsb (grow_trans (grow_trans hm_w2.g hm_w3.g) (grow_weak hm.g))⟩
 refine wl_callv rfl cb50 rfl rfl (fun wx hm => ((promote_any cs A0 4 c0 sl A1 n1 c1 l A n c wl W i wc wx (hm.fact 0 rfl).1 hco (by omega) (hm.fact 1 rfl).1 hso (by omega) (hm.fact 2 rfl).1 hok (by omega) (hm.fact 3 rfl).1 hwo (by omega)).mono fun _ _ ⟨h, hg⟩ => by
  rw [← hPE, hpe1, if_neg hf1] at h
  rcases h with ⟨_, he⟩ | ⟨h2, _⟩
  ·exact ⟨he, hg⟩
  exact absurd h2 (by exact hf1))) ?_
 refine mv_ rfl (wl_ov (ov_extract rfl rfl) rfl (wl_ov (ov_extract rfl rfl) rfl (sg_ rfl (sg_ rfl (nn_ (gw_seq ?_))))))
 refine gd (fun wz => (SlOld csEnc 2 158 w3.heap.size none A0 4 cs) wz ∧ (SlOld skEnc 2 211 w3.heap.size none A1 n1 sl) wz ∧ (SlOld bkEnc 6 92 w3.heap.size none A n l) wz ∧ (SlOld bkEnc 6 92 w3.heap.size none W i wl) wz ∧ (BlkOld w3.heap.size none g2 78 [.slice A0 4 c0, .slice A1 n1 c1, .slice A n c, .int .i64 (stockE cs sl), .int .i64 (checkE cs l)]) wz ∧ True) mixed (fun _ hm => ⟨hm.fa 0, hm.fa 1, hm.fa 2, hm.fa 3, hm.fa 4, trivial⟩) fun z => ?_
 refine wt 0 9 1 rfl z (ov_loads (vs := [.slice A0 4 c0, .slice A1 n1 c1, .slice A n c, .int .i64 (stockE cs sl), .int .i64 (checkE cs l)]) rz78 rfl (fun _ hm => (hm.2.2.2.2.1).2) rfl rfl) ?_
 refine wt 2 9 5 rfl z (ov_field fo78_0 rfl rfl) ?_
 refine wt 3 9 13 rfl z (ov_load (v := .slice A0 4 c0) sc58 rfl (fun _ hm => (hm.2.2.2.2.1).2) rfl) ?_
 refine wt 4 9 29 rfl z (ov_move rfl) ?_
 refine wa1 1 rfl ?_
 refine wl_callv (v := .int .i64 E0) rfl cb37 rfl rfl (fun wx hm => (by have h := call_any A0 A1 A 4 c0 n1 c1 n c (stockE cs sl) (checkE cs l) wx; rw [← hE0] at h; exact h)) ?_
 refine wl_nil ?_
 refine nw 9 31 (fun _ hm => ⟨hm.fa 0, hm.fa 1, hm.fa 2, hm.fa 3, hm.fa 4, trivial⟩) fun z => ?_
 refine wa1 5 rfl ?_
 refine wl_callv (v := .int .i64 BW) rfl cb51 rfl rfl (fun wx hm => (by rw [hBW]; exact bookingsFault_any cs A0 4 c0 wl W i wc wx (hm.fact 0 rfl).1 hco (by omega) (hm.fact 3 rfl).1 hwo (by omega))) ?_
 refine wl_nil ?_
 refine nw 9 63 (fun _ hm => ⟨hm.fa 0, hm.fa 1, hm.fa 2, hm.fa 3, hm.fa 4, trivial⟩) fun z => ?_
 refine wa1 6 rfl ?_
 refine wl_buildSlice (e := 33) (cs := [.int .i64 E0, .int .i64 BW]) rfl (by kernel_rfl) rfl fun g13 => ?_
 refine wl_nil ?_
 refine nw 9 127 (fun _ hm => ⟨hm.fa 0, hm.fa 1, hm.fa 2, hm.fa 3, hm.fa 4, trivial⟩) fun z => ?_
 refine wa1 7 rfl ?_
 refine wl_callw rfl cb36 rfl rfl (fun wx hm => (errs_any [E0, BW] _ _ _ wx (hm.blkI 0 rfl) (by simp))) ?_
 refine wl_nil ?_
 refine nw 9 255 (fun _ hm => ⟨hm.fa 0, hm.fa 1, hm.fa 2, hm.fa 3, hm.fa 4, trivial⟩) fun z => ?_
 refine wt 8 9 511 rfl z (ov_assign rfl) ?_
 refine wa_done (by kernel_rfl) ?_
 refine nx_then (gw_seq (sr_ (mv_ rfl (wl_ov (ov_len es76 rfl) rfl (mv_ rfl (nn_ (gw_block ?_)))))))
 refine gw_loop (γ := Nat) (fun (j : Nat) => j ≤ i) (fun (j : Nat) => [(2, .bool false), (4, .pointer (some ⟨g2, 0, none⟩)), (5, .slice W i wc), (8, .slice none 0 0), (9, .int .i64 F1), (10, .int .i64 (firstE [F0, whenE ((wl.take j).any (fun b => hasB l b.key)) 6])), (68, .slice W i wc), (69, .int .i64 ((i : Nat) : Int)), (70, .int .i64 ((j : Nat) : Int))]) (fun (j : Nat) => fun _ => True) (fun (j : Nat) => []) (fun (j : Nat) => []) (fun (j : Nat) => [SlOld csEnc 2 158 w3.heap.size none A0 4 cs, SlOld skEnc 2 211 w3.heap.size none A1 n1 sl, SlOld bkEnc 6 92 w3.heap.size none A n l, SlOld bkEnc 6 92 w3.heap.size none W i wl, BlkOld w3.heap.size none g2 78 [.slice A0 4 c0, .slice A1 n1 c1, .slice A n c, .int .i64 (stockE cs sl), .int .i64 (checkE cs l)]]) (fun (j : Nat) => i - j) 0 (Nat.zero_le _) ⟨rfl, rfl, rfl, rfl, rfl, (some_int (by rw [← hF0]; exact first0 _ _)), rfl, rfl, rfl, trivial⟩ (fun _ hm => hm.pick [] [] [0, 1, 2, 3, 4] rfl rfl) ?_
 intro j hinv
 replace hinv : j ≤ i := hinv
 refine sr_ (wl_ov (ov_lss rfl rfl) rfl (nn_ (gw_seq ?_)))
 refine gw_cond rfl (fun hh => ?_) (fun hh => ?_)
 ·have hj : ((j : Nat) : Int) < ((i : Nat) : Int) := by simpa using hh
  clear hh
  refine gw_skip (nx_then (gw_seq (gw_block (sr_ ?_))))
  obtain ⟨bw, ow, hA, _, _⟩ := ((⟨hw4, trivial⟩ : SlT bkEnc 6 92 w3 W i wl ∧ True).1).get (by omega)
  subst hA
  obtain ⟨x, hx⟩ : ∃ x, wl[j]? = some x := ⟨_, List.getElem?_eq_getElem (by omega)⟩
  obtain ⟨x0, x1, x2, x3, x4, x5⟩ := x
  refine wl_ov (ov_index (j := j) es76 rfl rfl (by omega)) rfl ?_
  refine wl_ov (ov_elem (vs := [.string x0, .string x1, .int .i64 x2, .int .i64 x3, .int .i64 x4, .int .i64 x5]) rz92 rfl (fun _ hm => (hm.fact 3 rfl).1) hx rfl rfl) rfl ?_
  refine wl_alloc zc92 rfl fun g14 => ?_
  refine wl_stores (cs' := [.string x0, .string x1, .int .i64 x2, .int .i64 x3, .int .i64 x4, .int .i64 x5]) 0 rz92 rfl rfl rfl rfl rfl rfl rfl rfl ?_
  refine nn_ (gw_region (mv_ rfl (fd_ fo78_2 rfl rfl ?_)))
  refine wl_ov (ov_load (v := .slice A n c) sc76 rfl (fun _ hm => (hm.fact 4 rfl).2) rfl) rfl ?_
  refine wl_ov (ov_makeFunc rfl rfl) rfl ?_
  refine wl_callv rfl cb52 rfl rfl (fun wx hm => (hasW_any l A n c x0 x1 x2 x3 x4 x5 _ wx (hm.fact 2 rfl).1 (by omega) (hm.blkI 0 rfl))) ?_
  refine wl_callw rfl cb38 rfl rfl (fun wx hm => (rwhen_any _ _ wx)) ?_
  refine wl_buildSlice (e := 33) (cs := [.int .i64 (firstE [F0, whenE ((wl.take j).any (fun b => hasB l b.key)) 6]), .int .i64 (whenE (hasB l x0) 6)]) rfl (by kernel_rfl) rfl fun g15 => ?_
  refine wl_callw rfl cb36 rfl rfl (fun wx hm => (errs_any [firstE [F0, whenE ((wl.take j).any (fun b => hasB l b.key)) 6], whenE (hasB l x0) 6] _ _ _ wx (hm.blkI 0 rfl) (by simp))) ?_
  refine sg_ rfl (wl_nil (nx_blk_nrm (nx_then (gw_region (ad_ rfl rfl (mv_ rfl (wl_nil ?_)))))))
  exact nx_round (j + 1) (by omega) (by omega) ⟨rfl, rfl, rfl, rfl, rfl, (some_int (by rw [errs_or, any_tk hx])), rfl, rfl, (some_int (by omega)), trivial⟩ (fun _ hm => hm.pick [] [] [0, 1, 2, 3, 4] rfl rfl)
 have hj : ¬ (((j : Nat) : Int) < ((i : Nat) : Int)) := by simpa using hh
 clear hh
 refine gw_exit ?_
 refine nx_then_exit (nx_then_exit ?_)
 refine nx_blk_here ?_
 refine nx_then (gw_seq (sr_ ?_))
 refine wl_set 10 (v' := .int .i64 (firstE [F0, whenE TW 6])) rfl (congrArg (Value.int .i64) (by rw [hTW, List.take_of_length_le (by omega)])) ?_
 refine mv_ rfl (fd_ fo78_2 rfl rfl ?_)
 refine wl_ov (ov_load (v := .slice A n c) sc76 rfl (fun _ hm => (hm.fact 4 rfl).2) rfl) rfl ?_
 refine wl_ov (ov_len es76 rfl) rfl ?_
 refine wl_ov (ov_gtr rfl rfl) rfl ?_
 refine wl_callw rfl cb38 rfl rfl (fun wx hm => (rwhen_any _ _ wx)) ?_
 refine wl_buildSlice (e := 33) (cs := [.int .i64 (firstE [F0, whenE TW 6]), .int .i64 (whenE (decide (7 < ((n : Nat) : Int))) 2)]) rfl (by kernel_rfl) rfl fun g16 => ?_
 refine wl_callw rfl cb36 rfl rfl (fun wx hm => (errs_any [firstE [F0, whenE TW 6], whenE (decide (7 < ((n : Nat) : Int))) 2] _ _ _ wx (hm.blkI 0 rfl) (by simp))) ?_
 refine sg_ rfl (nn_ (sr_ (mv_ rfl (wl_ov (ov_eql rfl rfl) rfl (nn_ ?_)))))
 refine gw_set 92 (v' := .bool false) rfl (congrArg Value.bool (by rw [← hF1]; exact decide_eq_false hf1)) ?_
 refine cf_ rfl (gw_skip (nx_then (gw_seq (sr_ (mv_ rfl (wl_ov (ov_neq rfl rfl) rfl (nn_ ?_)))))))
 refine gw_set 107 (v' := .bool true) rfl (congrArg Value.bool (by rw [← hF1, decide_eq_false hf1]; rfl)) ?_
 refine ct_ rfl (sr_ (mv_ rfl (mv_ rfl (wl_ov (ov_eql rfl rfl) rfl (mv_ rfl ?_)))))
 refine wl_set 111 (v' := .bool true) rfl (congrArg Value.bool (decide_eq_true hF1)) ?_
 refine wl_guard_on rfl rfl rfl (mv_ rfl (wl_guard_on rfl rfl rfl (wl_ov (ov_len es103 rfl) rfl ?_)))
 refine wl_set 113 (v' := .int .i64 0) rfl rfl ?_
 refine wl_guard_on rfl rfl rfl (wl_ov (ov_eql rfl rfl) rfl ?_)
 refine wl_set 114 (v' := .bool true) rfl (congrArg Value.bool (by decide)) ?_
 refine pt_ rfl rfl (mv_ rfl (wl_guard_on rfl rfl rfl ?_))
 refine wl_callv rfl cb41 rfl rfl (fun wx hm => (booked_any wx)) ?_
 refine pt_ rfl rfl (sg_ rfl (nn_ ?_))
 refine gw_ret ?_
 refine nx_then_ret ?_
 refine nx_ret1 rfl rfl fun wx hm => ?_
 exact ⟨rfl, law_end hg1 hsb (grow_trans (grow_trans hm_w2.g hm_w3.g) (grow_weak hm.g))⟩
end Go.Proofs.YtempjmpfdniecaaGreatDoor
