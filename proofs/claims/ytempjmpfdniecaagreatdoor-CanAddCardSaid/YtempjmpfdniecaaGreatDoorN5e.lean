/- Several texts as one: Gcg Dea Deb Bwc Fsd Bwd Bwe Bwf Cad -/
import Derived.Test.YtempjmpfdniecaaGreatDoorN5c
import Derived.Test.YtempjmpfdniecaaGreatDoorN5a
import Derived.OneCell
import Derived.Test.YtempjmpfdniecaaGreatDoorN5d
import Derived.Test.YtempjmpfdniecaaGreatDoorN5b
set_option maxRecDepth 100000
set_option maxHeartbeats 4000000
namespace Go.Proofs.YtempjmpfdniecaaGreatDoor
open Go.RowKit
theorem given_info : ∃ i z, Tryz.prog.info? 90 = some i ∧ i.zero = some z ∧ i.size = 3 ∧ i.bytes = 40 ∧ z.cells.size = 3 := info_parts (by kernel_rfl)
set_option maxRecDepth 100000 in
set_option maxHeartbeats 1000000 in
theorem cloneGvs_pos (l : List Gv) (A : Option Addr) (n c : Nat) (w : World) (hl : SlT gvEnc 3 90 w A n l) (hn0 : 0 < n) (hn : n ≤ 1000000) :
    Calls Tryz.prog 131 #[.slice A n c] w (fun e w' => ∃ A' c', e = .returned (.slice A' n c') ∧ w'.ownsRow w.heap.size 90 3 (.slice A' n c') n (l.flatMap gvEnc) ∧ w.grownBy w' none) := by
  obtain ⟨b, off, rfl, hbl, hfl⟩ := hl.flat gv_len hn0
  have hlen := hl.len
  obtain ⟨i0, z0, hi, hz, hsz, hby, hzs⟩ := given_info
  have hnews : ∀ (o : Obj) j u, (l.flatMap gvEnc)[j]? = some u → (w.alloc o).cell? ((⟨b, off, none⟩ : Addr).add j) = some u := fun o j u hj =>
    (World.cell?_of_block (Below.heap_alloc w o _ (by unfold Addr.add; split <;> exact hbl))).trans (hfl j u hj)
  have hone := flat_one gvEnc gv_one l
  have hll := flat_len gvEnc 3 gv_len l
  rw [hlen] at hll
  clear hfl hl
  have Hnews := Lib.hid hnews
  clear hnews
  have he : ∀ w : World, (binOp .eql 80 (.slice (some ⟨b, off, none⟩) n c) (.slice none 0 0)).run Tryz.prog w = .ok (.bool false) w := fun _ => rfl
  go_enter Tryz.func131, Tryz.ntmps131
  go_wp2_with (at_builtin; refine wpList_append_own_at _ rfl _ _ 80 rfl w.heap.size 90 i0 z0 3 40 Tryz.underlying80 hi hz hsz hby hzs (by decide) (.slice (some ⟨w.heap.size, 0, none⟩) 0 0) 0 [] rfl ⟨rfl, .inr ⟨w.heap.size, 0, #[], rfl, Nat.le_refl _, heap_alloc_new w _, Nat.le_refl _, by decide, rfl, rfl⟩⟩ ⟨b, off, none⟩ n c (l.flatMap gvEnc) rfl hll (Hnews.out _) hone (by unfold maxLen; omega) (by omega) (by simp) ?_; intro v' w' hown hgrow hnil hat)
  rw [Nat.zero_add, List.nil_append] at hown
  have hown2 := hown
  obtain ⟨_, ho⟩ := hown2
  rcases ho with ⟨_, h0⟩ | ⟨g, cap, cur, rfl, hg, _⟩
  · omega
  · go_ret
    exact ⟨some ⟨g, 0, none⟩, cap, rfl, hown, grow_own (grow_alloc (World.grownBy.refl _ _) _) hgrow (fun k h => by cases h; exact Nat.le_refl _)⟩
set_option maxRecDepth 100000 in
set_option maxHeartbeats 1000000 in
theorem cloneGvs_empty (a : Addr) (c : Nat) (w : World) :
    Calls Tryz.prog 131 #[.slice (some a) 0 c] w (fun e w' => ∃ A' c', e = .returned (.slice A' 0 c') ∧ w'.ownsRow w.heap.size 90 3 (.slice A' 0 c') 0 [] ∧ w.grownBy w' none) := by
  obtain ⟨i0, z0, hi, hz, hsz, hby, hzs⟩ := given_info
  have he : ∀ w : World, (binOp .eql 80 (.slice (some a) 0 c) (.slice none 0 0)).run Tryz.prog w = .ok (.bool false) w := fun _ => rfl
  go_enter Tryz.func131, Tryz.ntmps131
  go_wp2_with (at_builtin; refine wpList_append_own_at _ rfl _ _ 80 rfl w.heap.size 90 i0 z0 3 40 Tryz.underlying80 hi hz hsz hby hzs (by decide) (.slice (some ⟨w.heap.size, 0, none⟩) 0 0) 0 [] rfl ⟨rfl, .inr ⟨w.heap.size, 0, #[], rfl, Nat.le_refl _, heap_alloc_new w _, Nat.le_refl _, by decide, rfl, rfl⟩⟩ a 0 c [] rfl rfl (fun j u hj => by simp at hj) (fun v hv => by cases hv) (by unfold maxLen; omega) (by omega) (by simp) ?_; intro v' w' hown hgrow hnil hat)
  rw [Nat.zero_add, List.nil_append] at hown
  have hown2 := hown
  obtain ⟨_, ho⟩ := hown2
  rcases ho with ⟨rfl, _⟩ | ⟨g, cap, cur, rfl, hg, _⟩
  · go_ret
    exact ⟨none, 0, rfl, hown, grow_own (grow_alloc (World.grownBy.refl _ _) _) hgrow (fun k h => by cases h; exact Nat.le_refl _)⟩
  · go_ret
    exact ⟨some ⟨g, 0, none⟩, cap, rfl, hown, grow_own (grow_alloc (World.grownBy.refl _ _) _) hgrow (fun k h => by cases h; exact Nat.le_refl _)⟩
set_option maxRecDepth 100000 in
set_option maxHeartbeats 400000 in
theorem cloneGvs_nil (c : Nat) (w : World) : Calls Tryz.prog 131 #[.slice none 0 c] w (fun e w' => e = .returned (.slice none 0 0) ∧ w = w') := by
  have he : ∀ w : World, (binOp .eql 80 (.slice none 0 c) (.slice none 0 0)).run Tryz.prog w = .ok (.bool true) w := fun _ => rfl
  go_enter Tryz.func131, Tryz.ntmps131
  go_wp2_with fail
  go_ret
  exact ⟨rfl, rfl⟩
theorem cloneGvs_any (l : List Gv) (A : Option Addr) (n c : Nat) (w : World) (hl : SlT gvEnc 3 90 w A n l) (hn : n ≤ 1000000) :
    Calls Tryz.prog 131 #[.slice A n c] w (fun e w' => ∃ A' c', e = .returned (.slice A' n c') ∧ w'.ownsRow w.heap.size 90 3 (.slice A' n c') n (l.flatMap gvEnc) ∧ w.grownBy w' none) := by
  by_cases h0 : n = 0
  · subst h0
    have hl0 : l = [] := List.length_eq_zero_iff.1 hl.len
    subst hl0
    cases A with
    | none => exact (cloneGvs_nil c w).mono fun e w' ⟨he, hw⟩ => ⟨none, 0, he, ⟨rfl, .inl ⟨rfl, rfl⟩⟩, hw ▸ World.grownBy.refl _ _⟩
    | some a => exact cloneGvs_empty a c w
  · exact cloneGvs_pos l A n c w hl (by omega) hn
end Go.Proofs.YtempjmpfdniecaaGreatDoor
namespace Go.Proofs.YtempjmpfdniecaaGreatDoor
open Go.RowKit
theorem gvO_nil (l : List Bk) : gvO l [] = [] := by unfold gvO; simp
def gvQ (c : ByteArray) (u : Int) (z : Gv) : Bool := z.cls.toList == c.toList && decide (z.unit = u)
theorem gv_used {c : ByteArray} {u : Nat} : ∀ (l : List Bk) (st : List (ByteArray × Nat)), st.length ≤ l.length → ((gvO l st).any (gvQ c (u : Int)) = true ↔ (c, u) ∈ st)
  | l, [], _ => by rw [gvO_nil]; simp
  | [], _ :: _, h => absurd h (Nat.not_succ_le_zero _)
  | x :: l, p :: st, h => by
    have ih := gv_used (c := c) (u := u) l st (by simpa using h)
    have e : gvO (x :: l) (p :: st) = ⟨x.key, p.1, (p.2 : Int)⟩ :: gvO l st := rfl
    rw [e, List.any_cons, Bool.or_eq_true, ih, List.mem_cons]
    obtain ⟨p1, p2⟩ := p
    unfold gvQ
    dsimp only
    rw [Bool.and_eq_true, beq_iff_eq, decide_eq_true_eq, Prod.mk.injEq]
    constructor
    · rintro (⟨h1, h2⟩ | h1)
      · exact .inl ⟨(ba_ext h1).symm, by omega⟩
      · exact .inr h1
    · rintro (⟨h1, h2⟩ | h1)
      · exact .inl ⟨by rw [h1], by omega⟩
      · exact .inr h1
theorem fPut_iff {F : ByteArray → Option Bool} {fr fr2 : List ByteArray} {c : ByteArray} {b : Bool} (h : ∀ k, (F k).getD false = true ↔ k ∈ fr) (hc : b = true ↔ c ∈ fr2) (h2 : ∀ k, k ≠ c → (k ∈ fr2 ↔ k ∈ fr)) : ∀ k, (fPut F c b k).getD false = true ↔ k ∈ fr2 := fun k => by
  by_cases e : k = c
  · rw [e, fPut_same]; exact hc
  · rw [fPut_other _ _ e, h2 k e]; exact h k
section
variable {P : Program} {c : Cx} {ops : Array Oper} {Q : Exit → Act → World → Prop} {rest : List Oper} {S : List (Nat × Value)} {K : World → Prop} {L : List (Nat × TypeId × List Value)} {O : List Own} {X : List (World → Prop)} {d : Nat} {ty : TypeId} {pos : String} {aft : Array Edge}
/-- append of nil. -/
theorem wl_appendN {t e : TypeId} {sz by_ : Nat} {x y : Operand} {n : Nat} {v : Value} {xs : List Value} (i : Nat) (ht : appB P t = some (e, sz, by_)) (hx : rd S x = some v) (hO : O[i]? = some ⟨v, e, sz, n, xs⟩) (hy : rd S y = some (.slice none 0 0)) (hd : Nat.ble (d + 1) c.n = true) (h : WL P c ops Q rest ((d, v) :: S) K L O X) : WL P c ops Q (⟨some d, .call ⟨.builtin .append, #[x, y], #[t, t]⟩, ty, pos, aft, none⟩ :: rest) S K L O X := by
  intro a w ha hm
  unfold appB at ht
  split at ht
  · rename_i e' hu
    split at ht
    · rename_i inf hi
      split at ht
      · rename_i z hz
        split at ht
        · simp only [Option.some.injEq, Prod.mk.injEq] at ht
          obtain ⟨rfl, rfl, rfl⟩ := ht
          exact wpList_append_own_none rfl x y t rfl c.w0.heap.size e' inf inf.size hu hi v n xs (ha.eval hx) (hm.o _ (List.mem_of_getElem? hO)) (ha.eval hy) (h _ _ (ha.put hd _) hm)
        · cases ht
      · cases ht
    · cases ht
  · cases ht
end
/-- A row that is not empty is a slice of a block. -/
theorem own_some {P : List (ByteArray × Nat) → Prop} {st : List (ByteArray × Nat)} {l : List Bk} {w' : World} {N n : Nat} {e : TypeId} {v : Value} (h : P st) (hn : 0 < n) (ho : w'.ownsRow N e 3 v (0 + n) ([] ++ (gvO l st).flatMap gvEnc)) {E : Prop} : (E ∨ ∃ (o : List (ByteArray × Nat)) (g' c' : Nat), P o ∧ Ending.returned v = .returned (.slice (some ⟨g', 0, none⟩) n c') ∧ w'.ownsRow N e 3 (.slice (some ⟨g', 0, none⟩) n c') n ((gvO l o).flatMap gvEnc)) := by
  rw [Nat.zero_add, List.nil_append] at ho
  have ho2 := ho
  rcases ho2.2 with ⟨_, h0⟩ | ⟨g, cap, cur, rfl, _⟩
  · omega
  · exact .inr ⟨st, g, cap, h, rfl, ho⟩
theorem agGiven1_any (y0 y1 : ByteArray) (y2 : Int) (gk : Nat) (k0 c : ByteArray) (u : Int) (w : World) (hk : Blk w gk 90 [.string k0, .string c, .int .i64 u]) :
  Calls Tryz.prog 130 #[.agg #[.string y0, .string y1, .int .i64 y2], .pointer (some ⟨gk, 0, none⟩)] w (fun e w' => e = .returned (.bool (gvQ c u ⟨y0, y1, y2⟩)) ∧ w.grownBy w' none) := by
 refine gw_enter ⟨16, w, none, []⟩ Tryz.func130 rfl Tryz.ntmps130 rfl (mem0 (X := [BlkOld w.heap.size none gk 90 [.string k0, .string c, .int .i64 u]]) (allF_cons hk.old allF_nil) (allL_cons BlkOld.lasts allL_nil)) ?_
 refine sr_ ?_
 refine wl_box rfl rfl rfl fun g1 => ?_
 refine sg_ rfl (nn_ (sr_ (fd_ fo90_1 rfl rfl (lk_ sc9 0 rfl rfl rfl (fd_ fo90_1 rfl rfl ?_)))))
 refine wl_ov (ov_load (v := .string c) sc9 rfl (fun _ hm => (hm.fact 0 rfl).2) rfl) rfl ?_
 refine wl_ov (ov_seql rfl rfl) rfl (mv_ rfl ?_)
 rcases Bool.eq_false_or_eq_true (y1.toList == c.toList) with hb2 | hb2
 ·refine wl_set 9 rfl (congrArg Value.bool hb2) ?_
  refine wl_guard_on rfl rfl rfl (fd_ fo90_2 rfl rfl (wl_guard_on rfl rfl rfl (lk_ sc3 0 rfl rfl rfl (wl_guard_on rfl rfl rfl (fd_ fo90_2 rfl rfl (wl_guard_on rfl rfl rfl ?_))))))
  refine wl_ov (ov_load (v := .int .i64 u) sc3 rfl (fun _ hm => (hm.fact 0 rfl).2) rfl) rfl ?_
  refine wl_guard_on rfl rfl rfl (wl_ov (ov_eql rfl rfl) rfl (pt_ rfl rfl (sg_ rfl (nn_ ?_))))
  refine gw_ret ?_
  refine nx_ret1 rfl rfl fun wx hm => ?_
  exact ⟨by unfold gvQ; simp [hb2], hm.g⟩
 refine wl_set 9 rfl (congrArg Value.bool hb2) ?_
 refine goff rfl rfl rfl (goff rfl rfl rfl (goff rfl rfl rfl (goff rfl rfl rfl (goff rfl rfl rfl (pf_ rfl rfl (sg_ rfl (nn_ ?_)))))))
 refine gw_ret ?_
 refine nx_ret1 rfl rfl fun wx hm => ?_
 exact ⟨by unfold gvQ; simp [hb2], hm.g⟩
theorem ixGiven_any (zs : List Gv) (Z : Option Addr) (n c0 gk : Nat) (k0 c : ByteArray) (u : Int) (w : World) (hz : SlT gvEnc 3 90 w Z n zs) (hn : n ≤ 1000000) (hk : Blk w gk 90 [.string k0, .string c, .int .i64 u]) :
  Calls Tryz.prog 225 #[.slice Z n c0, .func (.func 130) #[] #[.pointer (some ⟨gk, 0, none⟩)]] w (GotE w (ixP (gvQ c u) zs 0)) := by
 refine gw_enter ⟨19, w, none, []⟩ Tryz.func225 rfl Tryz.ntmps225 rfl (mem0 (X := [SlOld gvEnc 3 90 w.heap.size none Z n zs, BlkOld w.heap.size none gk 90 [.string k0, .string c, .int .i64 u]]) (allF_cons hz.old (allF_cons hk.old allF_nil)) (allL_cons SlOld.lasts (allL_cons BlkOld.lasts allL_nil))) ?_
 refine sr_ ?_
 have hlen := hz.len
 refine sg_ rfl (nn_ (gw_seq (sr_ (mv_ rfl (wl_ov (ov_len es80 rfl) rfl (mv_ rfl (nn_ (gw_block ?_))))))))
 refine gw_loop (γ := Nat) (fun (j : Nat) => j ≤ n ∧ ixP (gvQ c u) zs 0 = ixP (gvQ c u) (zs.drop j) j) (fun (j : Nat) => [(0, .slice Z n c0), (1, .func (.func 130) #[] #[.pointer (some ⟨gk, 0, none⟩)]), (7, .int .i64 ((n : Nat) : Int)), (8, .int .i64 ((j : Nat) : Int))]) (fun (j : Nat) => fun _ => True) (fun (j : Nat) => []) (fun (j : Nat) => []) (fun (j : Nat) => [SlOld gvEnc 3 90 w.heap.size none Z n zs, BlkOld w.heap.size none gk 90 [.string k0, .string c, .int .i64 u]]) (fun (j : Nat) => n - j) 0 ⟨Nat.zero_le _, rfl⟩ ⟨rfl, rfl, rfl, rfl, trivial⟩ (fun _ hm => hm.pick [] [] [0, 1] rfl rfl) ?_
 intro j hinv
 replace hinv : j ≤ n ∧ ixP (gvQ c u) zs 0 = ixP (gvQ c u) (zs.drop j) j := hinv
 refine sr_ (wl_ov (ov_lss rfl rfl) rfl (nn_ (gw_seq ?_)))
 refine gw_cond rfl (fun hh => ?_) (fun hh => ?_)
 ·have hj : ((j : Nat) : Int) < ((n : Nat) : Int) := by simpa using hh
  clear hh
  refine gw_skip (nx_then (gw_seq (gw_block (sr_ ?_))))
  obtain ⟨b, off, hA, _, _⟩ := hz.get (by omega)
  subst hA
  obtain ⟨x, hx⟩ : ∃ x, zs[j]? = some x := ⟨_, List.getElem?_eq_getElem (by omega)⟩
  obtain ⟨y0, y1, y2⟩ := x
  have hat := ixP_at (p := gvQ c u) hx
  refine mv_ rfl (sg_ rfl (nn_ (sr_ (mv_ rfl (mv_ rfl (mv_ rfl ?_))))))
  refine wl_ov (ov_index (j := j) es80 rfl rfl (by omega)) rfl ?_
  refine wl_ov (ov_elem (vs := [.string y0, .string y1, .int .i64 y2]) rz90 rfl (fun _ hm => (hm.fact 0 rfl).1) hx rfl rfl) rfl ?_
  refine wl_callv rfl cb130 rfl rfl (fun wx hm => (agGiven1_any y0 y1 y2 gk k0 c u wx (hm.fact 1 rfl).2)) ?_
  refine nn_ ?_
  refine gw_cond rfl (fun hh => ?_) (fun hh => ?_)
  ·have hq : (gvQ c u ⟨y0, y1, y2⟩) = true := by simpa using hh
   clear hh
   refine sr_ (mv_ rfl (sg_ rfl (nn_ ?_)))
   refine gw_ret ?_
   refine nx_blk_ret (nx_then_ret (nx_then_ret (nx_blk_ret (nx_then_ret ?_))))
   refine nx_ret1 rfl rfl fun wx hm => ?_
   exact ⟨ret_int (by rw [hinv.2, hat, if_pos hq]), hm.g⟩
  have hq : (gvQ c u ⟨y0, y1, y2⟩) = false := by simpa using hh
  clear hh
  refine gw_skip (nx_blk_nrm (nx_then (gw_region (ad_ rfl rfl (mv_ rfl (wl_nil ?_))))))
  exact nx_round (j + 1) ⟨by omega, by rw [hinv.2, hat, if_neg (by rw [hq]; decide)]⟩ (by omega) ⟨rfl, rfl, rfl, (some_int (by omega)), trivial⟩ (fun _ hm => hm.pick [] [] [0, 1] rfl rfl)
 have hj : ¬ (((j : Nat) : Int) < ((n : Nat) : Int)) := by simpa using hh
 clear hh
 refine gw_exit ?_
 refine nx_then_exit (nx_then_exit ?_)
 refine nx_blk_here ?_
 refine nx_then (sr_ (sg_ rfl ?_))
 refine wl_set 4 (v' := .int .i64 (-1)) rfl rfl ?_
 refine nn_ ?_
 refine gw_ret ?_
 refine nx_ret1 rfl rfl fun wx hm => ?_
 exact ⟨ret_int (by rw [hinv.2, List.drop_eq_nil_of_le (by omega)]; rfl), hm.g⟩
theorem hasGiven_any (zs : List Gv) (Z : Option Addr) (n c0 gk : Nat) (k0 c : ByteArray) (u : Int) (w : World) (hz : SlT gvEnc 3 90 w Z n zs) (hn : n ≤ 1000000) (hk : Blk w gk 90 [.string k0, .string c, .int .i64 u]) :
  Calls Tryz.prog 129 #[.slice Z n c0, .func (.func 130) #[] #[.pointer (some ⟨gk, 0, none⟩)]] w (fun e w' => e = .returned (.bool (zs.any (gvQ c u))) ∧ w.grownBy w' none) := by
 refine gw_enter ⟨9, w, none, []⟩ Tryz.func129 rfl Tryz.ntmps129 rfl (mem0 (X := [SlOld gvEnc 3 90 w.heap.size none Z n zs, BlkOld w.heap.size none gk 90 [.string k0, .string c, .int .i64 u]]) (allF_cons hz.old (allF_cons hk.old allF_nil)) (allL_cons SlOld.lasts (allL_cons BlkOld.lasts allL_nil))) ?_
 refine sr_ (sg_ rfl (nn_ (sr_ (mv_ rfl (mv_ rfl ?_)))))
 refine wl_callv rfl cb225 rfl rfl (fun wx hm => (ixGiven_any zs Z n c0 gk k0 c u wx (hm.fact 0 rfl).1 hn (hm.fact 1 rfl).2)) ?_
 refine wl_ov (ov_geq rfl rfl) rfl ?_
 refine sg_ rfl (nn_ ?_)
 refine gw_ret ?_
 refine nx_ret1 rfl rfl fun wx hm => ?_
 exact ⟨by rw [← ix_dec], hm.g⟩
/-- What the document's fill does, with so many given. -/
def FlSpec (cs : List Cs) (A0 : Option Addr) (n0 c0 : Nat) (sl : List Sk) (A1 : Option Addr) (n1 c1 : Nat) (l : List Bk) (A : Option Addr) (n cb gl gc gs gf : Nat) (gn : Nat) : Prop := ∀ (st : List (ByteArray × Nat)) (left : Nat) (G : Option Addr) (gq : Nat) (w : World), st.length = gn → left ≤ 1000000 → (gn = 0 → G = none ∧ gq = 0) → SlT csEnc 2 158 w A0 n0 cs → SlT skEnc 2 211 w A1 n1 sl → SlT bkEnc 6 92 w A n l → Blk w gl 76 [.slice A n cb] → Blk w gc 58 [.slice A0 n0 c0] → Blk w gs 75 [.slice A1 n1 c1] → Blk w gf 187 [.func (.func 126) #[] #[.pointer (some ⟨gl, 0, none⟩), .pointer (some ⟨gc, 0, none⟩), .pointer (some ⟨gs, 0, none⟩), .pointer (some ⟨gf, 0, none⟩)]] → SlT gvEnc 3 90 w G gn (gvO l st) →
    Calls Tryz.prog 126 #[.slice G gn gq, .int .i64 ((left : Nat) : Int), .pointer (some ⟨gl, 0, none⟩), .pointer (some ⟨gc, 0, none⟩), .pointer (some ⟨gs, 0, none⟩), .pointer (some ⟨gf, 0, none⟩)] w (fun e w' => ((asgD cs sl l st left = none ∧ e = .returned (.slice none 0 0)) ∨ ∃ (o : List (ByteArray × Nat)) (g' c' : Nat), asgD cs sl l st left = some o ∧ e = .returned (.slice (some ⟨g', 0, none⟩) n c') ∧ w'.ownsRow w.heap.size 90 3 (.slice (some ⟨g', 0, none⟩) n c') n ((gvO l o).flatMap gvEnc)) ∧ w.grownBy w' none)
theorem fl_step (cs : List Cs) (A0 : Option Addr) (n0 c0 : Nat) (sl : List Sk) (A1 : Option Addr) (n1 c1 : Nat) (l : List Bk) (A : Option Addr) (n cb gl gc gs gf : Nat) (gn : Nat) (ih : gn < n → FlSpec cs A0 n0 c0 sl A1 n1 c1 l A n cb gl gc gs gf (gn + 1)) (hgnn : gn ≤ n) (hco : ∀ x ∈ cs, CsOk x) (hn0 : n0 ≤ 30) (hcl : Closed cs) (hlo : loopB cs cs.length = false) (hso : ∀ x ∈ sl, SkOk x) (hn1 : n1 ≤ 1000) (hmany : ∀ k, manyV sl k ≤ 100) (hix : ∀ b ∈ l, 0 ≤ ixP (csP b.cls) cs 0) (htm : BkTim l) (hn : n ≤ 12) : FlSpec cs A0 n0 c0 sl A1 n1 c1 l A n cb gl gc gs gf gn := by
 intro st left G gq w hss hleft hGn hcs hs hl hgl hgc hgs hgf hg
 refine gw_enter ⟨94, w, none, []⟩ Tryz.func126 rfl Tryz.ntmps126 rfl (mem0 (X := [SlOld csEnc 2 158 w.heap.size none A0 n0 cs, SlOld skEnc 2 211 w.heap.size none A1 n1 sl, SlOld bkEnc 6 92 w.heap.size none A n l, BlkOld w.heap.size none gl 76 [.slice A n cb], BlkOld w.heap.size none gc 58 [.slice A0 n0 c0], BlkOld w.heap.size none gs 75 [.slice A1 n1 c1], BlkOld w.heap.size none gf 187 [.func (.func 126) #[] #[.pointer (some ⟨gl, 0, none⟩), .pointer (some ⟨gc, 0, none⟩), .pointer (some ⟨gs, 0, none⟩), .pointer (some ⟨gf, 0, none⟩)]], SlOld gvEnc 3 90 w.heap.size none G gn (gvO l st)]) (allF_cons hcs.old (allF_cons hs.old (allF_cons hl.old (allF_cons hgl.old (allF_cons hgc.old (allF_cons hgs.old (allF_cons hgf.old (allF_cons hg.old allF_nil)))))))) (allL_cons SlOld.lasts (allL_cons SlOld.lasts (allL_cons SlOld.lasts (allL_cons BlkOld.lasts (allL_cons BlkOld.lasts (allL_cons BlkOld.lasts (allL_cons BlkOld.lasts (allL_cons SlOld.lasts allL_nil))))))))) ?_
 refine sr_ ?_
 have hlen := hl.len
 have hlen0 := hcs.len
 obtain ⟨RR, hRR⟩ : ∃ z, z = asgD cs sl l st left := ⟨_, rfl⟩
 rw [← hRR]
 refine sg_ rfl (nn_ (gw_seq (sr_ (mv_ rfl (wl_ov (ov_len es80 rfl) rfl ?_)))))
 refine wl_ov (ov_load (v := .slice A n cb) sc76 rfl (fun _ hm => (hm.fact 3 rfl).2) rfl) rfl ?_
 refine wl_ov (ov_len es76 rfl) rfl (wl_ov (ov_eql rfl rfl) rfl (nn_ ?_))
 refine gw_cond rfl (fun hh => ?_) (fun hh => ?_)
 ·have he : ((gn : Nat) : Int) = ((n : Nat) : Int) := by simpa using hh
  clear hh
  refine gw_seq (sr_ (mv_ rfl (wl_ov (ov_eql rfl rfl) rfl (nn_ ?_))))
  refine gw_cond rfl (fun hh => ?_) (fun hh => ?_)
  ·have hl0 : ((left : Nat) : Int) = 0 := by simpa using hh
   clear hh
   refine sr_ ?_
   have hRs : RR = some st := by rw [hRR, asgD_end (by omega), if_pos (by omega)]
   refine wl_buildSlice0 (e := 90) (sz := 3) (by kernel_rfl) (by kernel_rfl) rfl fun g1 => ?_
   refine mv_ rfl ?_
   refine wl_toOwn (sz := 3) (n := 0) 0 [] rfl rfl rfl (by unfold maxLen; omega) ?_
   have hng : n = gn := by omega
   subst hng
   by_cases hn00 : n = 0
   ·obtain ⟨hG1, hG2⟩ := hGn hn00
    subst hn00
    subst hG1
    subst hG2
    refine wl_appendN 0 ap80 rfl rfl rfl rfl ?_
    refine sg_ rfl (nn_ ?_)
    refine gw_ret ?_
    refine nx_then_ret (nx_then_ret ?_)
    refine nx_ret1 rfl rfl fun wx hm => ?_
    exact ⟨.inr ⟨st, g1, 0, hRs, rfl, by have hz : st = [] := List.length_eq_zero_iff.1 hss; rw [hz, gvO_nil]; exact (hm.ownI 0 rfl)⟩, hm.g⟩
   refine wl_appendS (T := 90) (l := gvO l st) 0 ap80 rfl rfl rfl (fun _ hm => (hm.fact 7 rfl).1) (fun h => absurd h hn00) gv_len gv_one (by omega) (by unfold maxLen; omega) rfl rfl fun v1 => ?_
   refine sg_ rfl (nn_ ?_)
   refine gw_ret ?_
   refine nx_then_ret (nx_then_ret ?_)
   refine nx_ret1 rfl rfl fun wx hm => ?_
   exact ⟨own_some (P := fun o => RR = some o) hRs (by omega) (hm.ownI 0 rfl), hm.g⟩
  have hl0 : ¬ (((left : Nat) : Int) = 0) := by simpa using hh
  clear hh
  refine gw_skip (nx_then (sr_ ?_))
  have hRs : RR = none := by rw [hRR, asgD_end (by omega), if_neg (by omega)]
  refine sg_ rfl (nn_ ?_)
  refine gw_ret ?_
  refine nx_then_ret ?_
  refine nx_ret1 rfl rfl fun wx hm => ?_
  exact ⟨.inl ⟨hRs, rfl⟩, hm.g⟩
 have he : ¬ (((gn : Nat) : Int) = ((n : Nat) : Int)) := by simpa using hh
 clear hh
 refine gw_skip (nx_then (sr_ ?_))
 have hgn : gn < n := by omega
 obtain ⟨b, off, hA, _, _⟩ := hl.get (by omega)
 subst hA
 obtain ⟨x, hx⟩ : ∃ x, l[gn]? = some x := ⟨_, List.getElem?_eq_getElem (by omega)⟩
 obtain ⟨x0, x1, x2, x3, x4, x5⟩ := x
 have hbm := List.mem_of_getElem? hx
 have hti := htm _ hbm
 have hixb := hix _ hbm
 dsimp only at hti hixb
 rw [← hss] at hx
 have hRa := asgD_at (cs := cs) (sl := sl) (left := left) hx
 rw [← hRR] at hRa
 have hsn := fun k => gvO_snoc (k := k) hx
 rw [hss] at hx
 obtain ⟨DL, hDL⟩ : ∃ z, z = dnB cs sl l st (⟨x0, x1, x2, x3, x4, x5⟩ : Bk) := ⟨_, rfl⟩
 have hch := dn_ch (cs := cs) (sl := sl) (l := l) (st := st) (b := (⟨x0, x1, x2, x3, x4, x5⟩ : Bk))
 rw [← hDL] at hRa hch
 have hdm : ∀ k ∈ DL, stepsV cs x1 k.1 = (k.2.1 : Int) ∧ k.2.1 ≤ cs.length ∧ 1 ≤ k.2.2 ∧ k.2.2 ≤ capB sl k.1 := fun k hk => dn_mem hcl hlo hixb (by rw [hDL] at hk; exact hk)
 refine wl_ov (ov_load (v := .slice (some ⟨b, off, none⟩) n cb) sc76 rfl (fun _ hm => (hm.fact 3 rfl).2) rfl) rfl ?_
 refine mv_ rfl (wl_ov (ov_len es80 rfl) rfl ?_)
 refine wl_ov (ov_index (j := gn) es76 rfl rfl (by omega)) rfl ?_
 refine wl_ov (ov_elem (vs := [.string x0, .string x1, .int .i64 x2, .int .i64 x3, .int .i64 x4, .int .i64 x5]) rz92 rfl (fun _ hm => (hm.fact 2 rfl).1) hx rfl rfl) rfl ?_
 refine wl_alloc zc92 rfl fun g2 => ?_
 refine wl_stores (cs' := [.string x0, .string x1, .int .i64 x2, .int .i64 x3, .int .i64 x4, .int .i64 x5]) 0 rz92 rfl rfl rfl rfl rfl rfl rfl rfl ?_
 refine nn_ (sr_ ?_)
 refine wl_makeMapF (enc := Value.bool) rfl fun g3 => ?_
 refine sg_ rfl (nn_ (gw_seq (sr_ ?_)))
 refine wl_ov (ov_load (v := .slice A0 n0 c0) sc58 rfl (fun _ hm => (hm.fact 5 rfl).2) rfl) rfl ?_
 refine wl_ov (ov_load (v := .slice A1 n1 c1) sc75 rfl (fun _ hm => (hm.fact 6 rfl).2) rfl) rfl ?_
 refine wl_ov (ov_load (v := .slice (some ⟨b, off, none⟩) n cb) sc76 rfl (fun _ hm => (hm.fact 4 rfl).2) rfl) rfl ?_
 refine mv_ rfl ?_
 refine wl_ov (ov_loads rz92 rfl (fun _ hm => hm.blkI 0 rfl) rfl rfl) rfl ?_
 refine wl_callgo (γ := Option Addr × Nat × Nat) (val := (fun g => .slice g.1 g.2.1 g.2.2)) (φ := (fun g => DL.length = g.2.1 ∧ g.2.1 ≤ 3100)) (fun g => ⟨.slice g.1 g.2.1 g.2.2, 90, 3, g.2.1, (DL.map (dcG (⟨x0, x1, x2, x3, x4, x5⟩ : Bk))).flatMap gvEnc⟩) rfl cb127 rfl rfl (fun wx hm => (by have h := choicesW_any cs A0 n0 c0 sl A1 n1 c1 l (gvO l st) (some ⟨b, off, none⟩) G n gn cb gq x0 x1 x2 x3 x4 x5 wx (hm.fact 1 rfl).1 hco hn0 hcl hlo (hm.fact 2 rfl).1 hso hn1 hmany (hm.fact 3 rfl).1 (hm.fact 8 rfl).1 (by omega) (by omega) (fun q hq => (htm q hq).2.1) hti.2.1; rw [hch] at h; exact h.mono fun _ _ ⟨A8, k2, c8, he, ho, hln, hk3, hg⟩ => ⟨(A8, k2, c8), he, ⟨by rw [List.length_map] at hln; exact hln, hk3⟩, ho, hg⟩)) ?_
 rintro ⟨A5, n5, c5⟩ hch5
 dsimp only at hch5 ⊢
 obtain ⟨hn5, h5b⟩ := hch5
 refine wl_ov (ov_len es80 rfl) rfl (mv_ rfl (nn_ (gw_block ?_)))
 refine gw_loop (γ := Nat × (ByteArray → Option Bool) × List ByteArray) (fun gg => gg.1 ≤ n5 ∧ (∀ k, (gg.2.1 k).getD false = true ↔ k ∈ gg.2.2) ∧ RR = docS st left (fun k => asgD cs sl l (st ++ [(k.1, k.2.2)]) (left - k.2.1)) (DL.drop (gg.1)) (gg.2.2)) (fun gg => [(0, .slice G gn gq), (1, .int .i64 ((left : Nat) : Int)), (3, .pointer (some ⟨gc, 0, none⟩)), (5, .pointer (some ⟨gf, 0, none⟩)), (9, .pointer (some ⟨g2, 0, none⟩)), (10, .map (some g3)), (38, .slice A5 n5 c5), (39, .int .i64 ((n5 : Nat) : Int)), (40, .int .i64 ((gg.1 : Nat) : Int))]) (fun gg => fun _ => True) (fun gg => [(g2, 92, [.string x0, .string x1, .int .i64 x2, .int .i64 x3, .int .i64 x4, .int .i64 x5])]) (fun gg => [⟨.slice A5 n5 c5, 90, 3, n5, (DL.map (dcG (⟨x0, x1, x2, x3, x4, x5⟩ : Bk))).flatMap gvEnc⟩]) (fun gg => [MapF Value.bool w.heap.size g3 (gg.2.1), SlOld csEnc 2 158 w.heap.size none A0 n0 cs, SlOld skEnc 2 211 w.heap.size none A1 n1 sl, SlOld bkEnc 6 92 w.heap.size none (some ⟨b, off, none⟩) n l, BlkOld w.heap.size none gl 76 [.slice (some ⟨b, off, none⟩) n cb], BlkOld w.heap.size none gc 58 [.slice A0 n0 c0], BlkOld w.heap.size none gs 75 [.slice A1 n1 c1], BlkOld w.heap.size none gf 187 [.func (.func 126) #[] #[.pointer (some ⟨gl, 0, none⟩), .pointer (some ⟨gc, 0, none⟩), .pointer (some ⟨gs, 0, none⟩), .pointer (some ⟨gf, 0, none⟩)]], SlOld gvEnc 3 90 w.heap.size none G gn (gvO l st)]) (fun gg => n5 - gg.1) (0, fNil, []) ⟨Nat.zero_le _, fun k => ⟨fun h => (by cases h), fun h => (by cases h)⟩, hRa⟩ ⟨rfl, rfl, rfl, rfl, rfl, rfl, rfl, rfl, rfl, trivial⟩ (fun _ hm => hm.pick [0] [0] [0, 1, 2, 3, 4, 5, 6, 7, 8] rfl rfl) ?_
 rintro ⟨j, F, fr⟩ hinv
 replace hinv : j ≤ n5 ∧ (∀ k, (F k).getD false = true ↔ k ∈ fr) ∧ RR = docS st left (fun k => asgD cs sl l (st ++ [(k.1, k.2.2)]) (left - k.2.1)) (DL.drop (j)) (fr) := hinv
 dsimp only
 refine sr_ ?_
 obtain ⟨hj0, hF, hRj⟩ := hinv
 refine wl_ov (ov_lss rfl rfl) rfl (nn_ (gw_seq ?_))
 refine gw_cond rfl (fun hh => ?_) (fun hh => ?_)
 ·have hj : ((j : Nat) : Int) < ((n5 : Nat) : Int) := by simpa using hh
  clear hh
  refine gw_skip (nx_then (gw_seq (gw_block (sr_ ?_))))
  refine wl_look (R := ∃ g, A5 = some ⟨g, 0, none⟩) (fun wx hm => own_addr (hm.ownI 0 rfl) (by omega)) ?_
  rintro ⟨g7, rfl⟩
  obtain ⟨q, hq⟩ : ∃ x, DL[j]? = some x := ⟨_, List.getElem?_eq_getElem (by omega)⟩
  obtain ⟨hst, hsl5, hu1, hu2⟩ := hdm q (List.mem_of_getElem? hq)
  have hmx := hmany q.1
  obtain ⟨cl, sp, u⟩ := q
  dsimp only at hst hsl5 hu1 hu2 hmx
  have hu3 : u ≤ 100 := by unfold capB at hu2; omega
  have hgq : (DL.map (dcG (⟨x0, x1, x2, x3, x4, x5⟩ : Bk)))[j]? = some ⟨x0, cl, ((u : Nat) : Int)⟩ := by rw [List.getElem?_map, hq]; rfl
  obtain ⟨US, hUS⟩ : ∃ z, z = (gvO l st).any (gvQ cl ((u : Nat) : Int)) := ⟨_, rfl⟩
  have hused : US = true ↔ (cl, u) ∈ st := by rw [hUS]; exact gv_used l st (by omega)
  refine wl_ov (ov_index (j := j) es80 rfl rfl (by omega)) rfl ?_
  refine wl_ov (ov_elem (vs := [.string x0, .string cl, .int .i64 ((u : Nat) : Int)]) rz90 rfl (fun _ hm => (SlT.ofOwn gv_len (hm.ownI 0 rfl) (by rw [List.length_map]; exact hn5))) hgq rfl rfl) rfl ?_
  refine wl_alloc zc90 rfl fun g4 => ?_
  refine wl_stores (cs' := [.string x0, .string cl, .int .i64 ((u : Nat) : Int)]) 0 rz90 rfl rfl rfl rfl rfl rfl rfl rfl ?_
  refine nn_ (sr_ ?_)
  refine wl_ov (ov_load (v := .slice A0 n0 c0) sc58 rfl (fun _ hm => (hm.fact 5 rfl).2) rfl) rfl ?_
  refine fd_ fo92_1 rfl rfl (lk_ sc9 1 rfl rfl rfl (fd_ fo90_1 rfl rfl (lk_ sc9 0 rfl rfl rfl ?_)))
  refine wl_callv (v := .tuple #[.int .i64 ((sp : Nat) : Int), .bool true]) rfl cb128 rfl rfl (fun wx hm => (by have h := stepsOf_any cs A0 n0 c0 x1 cl wx (hm.fact 1 rfl).1 hco (by omega) hcl hlo; rw [hst, show max ((sp : Nat) : Int) 0 = ((sp : Nat) : Int) by omega, decide_eq_true (show 0 ≤ ((sp : Nat) : Int) by omega)] at h; exact h)) ?_
  refine mv_ rfl (wl_ov (ov_extract rfl rfl) rfl (wl_ov (ov_extract rfl rfl) rfl (sg_ rfl (sg_ rfl (nn_ (sr_ (mv_ rfl (wl_ov (ov_makeFunc rfl rfl) rfl ?_))))))))
  refine wl_callv (v := .bool US) rfl cb129 rfl rfl (fun wx hm => (by rw [hUS]; exact hasGiven_any (gvO l st) G gn gq g4 x0 cl ((u : Nat) : Int) wx (hm.fact 8 rfl).1 (by omega) (hm.blkI 0 rfl))) ?_
  refine sg_ rfl (nn_ ?_)
  refine gw_cut (γ := Unit) (I := (fun (uu : Unit) => sp ≤ left ∧ ¬ (left < (cl, sp, u).2.1 ∨ (((cl, sp, u).1, (cl, sp, u).2.2) ∉ st ∧ (cl, sp, u).1 ∈ fr)))) (S' := (fun (uu : Unit) => [(0, .slice G gn gq), (1, .int .i64 ((left : Nat) : Int)), (3, .pointer (some ⟨gc, 0, none⟩)), (5, .pointer (some ⟨gf, 0, none⟩)), (9, .pointer (some ⟨g2, 0, none⟩)), (10, .map (some g3)), (12, .pointer (some ⟨g4, 0, none⟩)), (13, .int .i64 ((sp : Nat) : Int)), (15, .bool US), (38, .slice (some ⟨g7, 0, none⟩) n5 c5), (39, .int .i64 ((n5 : Nat) : Int)), (40, .int .i64 ((j : Nat) : Int))])) (K' := (fun (uu : Unit) => fun _ => True)) (L' := (fun (uu : Unit) => [(g4, 90, [.string x0, .string cl, .int .i64 ((u : Nat) : Int)]), (g2, 92, [.string x0, .string x1, .int .i64 x2, .int .i64 x3, .int .i64 x4, .int .i64 x5])])) (O' := (fun (uu : Unit) => [⟨.slice (some ⟨g7, 0, none⟩) n5 c5, 90, 3, n5, (DL.map (dcG (⟨x0, x1, x2, x3, x4, x5⟩ : Bk))).flatMap gvEnc⟩])) (X' := (fun (uu : Unit) => [MapF Value.bool w.heap.size g3 (F), SlOld csEnc 2 158 w.heap.size none A0 n0 cs, SlOld skEnc 2 211 w.heap.size none A1 n1 sl, SlOld bkEnc 6 92 w.heap.size none (some ⟨b, off, none⟩) n l, BlkOld w.heap.size none gl 76 [.slice (some ⟨b, off, none⟩) n cb], BlkOld w.heap.size none gc 58 [.slice A0 n0 c0], BlkOld w.heap.size none gs 75 [.slice A1 n1 c1], BlkOld w.heap.size none gf 187 [.func (.func 126) #[] #[.pointer (some ⟨gl, 0, none⟩), .pointer (some ⟨gc, 0, none⟩), .pointer (some ⟨gs, 0, none⟩), .pointer (some ⟨gf, 0, none⟩)]], SlOld gvEnc 3 90 w.heap.size none G gn (gvO l st)])) ?_ ?_
  ·refine sr_ (mv_ rfl (mv_ rfl ?_))
   refine wl_ov (ov_gtr rfl rfl) rfl ?_
   refine mv_ rfl ?_
   rcases Bool.eq_false_or_eq_true (decide (((left : Nat) : Int) < ((sp : Nat) : Int))) with hb1 | hb1
   ·refine wl_set 59 rfl (congrArg Value.bool hb1) ?_
    replace hb1 := of_decide_eq_true hb1
    refine goff rfl rfl rfl (goff rfl rfl rfl (goff rfl rfl rfl (gnd rfl rfl rfl (gnd rfl rfl rfl (gnd rfl rfl rfl (gnd rfl rfl rfl (goff rfl rfl rfl (pt_ rfl rfl (nn_ (ct_ rfl ?_))))))))))
    refine gw_exit ?_
    refine nx_then_exit ?_
    refine nx_blk_here ?_
    refine nx_then (gw_region (ad_ rfl rfl (mv_ rfl (wl_nil ?_))))
    rw [docS_skip1 hq (.inl (by dsimp only; omega))] at hRj
    exact nx_round (j + 1, F, fr) ⟨by dsimp only; omega, hF, hRj⟩ (by dsimp only; omega) ⟨rfl, rfl, rfl, rfl, rfl, rfl, rfl, rfl, (some_int (by omega)), trivial⟩ (fun _ hm => hm.pick [1] [0] [0, 1, 2, 3, 4, 5, 6, 7, 8] rfl rfl)
   refine wl_set 59 rfl (congrArg Value.bool hb1) ?_
   replace hb1 := of_decide_eq_false hb1
   refine wl_guard_on rfl rfl rfl (mv_ rfl (wl_guard_on rfl rfl rfl (wl_ov (ov_un_not rfl) rfl (wl_guard_on rfl rfl rfl (mv_ rfl ?_)))))
   rcases Bool.eq_false_or_eq_true (!US) with hb2 | hb2
   ·refine wl_set 62 rfl (congrArg Value.bool hb2) ?_
    refine wl_guard_on rfl rfl rfl (mv_ rfl (wl_guard_on rfl rfl rfl (fd_ fo90_1 rfl rfl (wl_guard_on rfl rfl rfl (lk_ sc9 0 rfl rfl rfl (wl_guard_on rfl rfl rfl ?_))))))
    refine wl_ov (ov_lookF (enc := Value.bool) (k := 9) (e := 4) false (by kernel_rfl) (by kernel_rfl) (by kernel_rfl) rfl rfl (fun _ hm => (hm.fact 0 rfl))) rfl ?_
    refine wl_guard_on rfl rfl rfl (pt_ rfl rfl (pf_ rfl rfl (nn_ ?_)))
    refine gw_cond rfl (fun hh => ?_) (fun hh => ?_)
    ·have hc3 : (((F) cl).getD false) = true := by simpa using hh
     clear hh
     refine gw_exit ?_
     refine nx_then_exit ?_
     refine nx_blk_here ?_
     refine nx_then (gw_region (ad_ rfl rfl (mv_ rfl (wl_nil ?_))))
     rw [docS_skip1 hq (.inr ⟨fun h => (by have h5 := hused.2 h; rw [h5] at hb2; cases hb2), (hF cl).1 hc3⟩)] at hRj
     exact nx_round (j + 1, F, fr) ⟨by dsimp only; omega, hF, hRj⟩ (by dsimp only; omega) ⟨rfl, rfl, rfl, rfl, rfl, rfl, rfl, rfl, (some_int (by omega)), trivial⟩ (fun _ hm => hm.pick [1] [0] [0, 1, 2, 3, 4, 5, 6, 7, 8] rfl rfl)
    have hc3 : (((F) cl).getD false) = false := by simpa using hh
    clear hh
    refine gw_skip ?_
    exact nx_meet () ⟨by omega, fun h => h.elim (fun h1 => (by dsimp only at h1; omega)) (fun h2 => (by have h5 := (hF cl).2 h2.2; rw [hc3] at h5; cases h5))⟩ ⟨rfl, rfl, rfl, rfl, rfl, rfl, rfl, rfl, rfl, rfl, rfl, rfl, trivial⟩ (fun _ hm => hm.pick [0, 1] [0] [0, 1, 2, 3, 4, 5, 6, 7, 8] rfl rfl)
   refine wl_set 62 rfl (congrArg Value.bool hb2) ?_
   refine goff rfl rfl rfl (goff rfl rfl rfl (goff rfl rfl rfl (goff rfl rfl rfl (wl_guard_on rfl rfl rfl (pf_ rfl rfl (pf_ rfl rfl (nn_ (cf_ rfl (gw_skip ?_)))))))))
   exact nx_meet () ⟨by omega, fun h => h.elim (fun h1 => (by dsimp only at h1; omega)) (fun h2 => h2.1 (hused.1 (by simpa using hb2)))⟩ ⟨rfl, rfl, rfl, rfl, rfl, rfl, rfl, rfl, rfl, rfl, rfl, rfl, trivial⟩ (fun _ hm => hm.pick [0, 1] [0] [0, 1, 2, 3, 4, 5, 6, 7, 8] rfl rfl)
  intro uu hinv
  replace hinv : sp ≤ left ∧ ¬ (left < (cl, sp, u).2.1 ∨ (((cl, sp, u).1, (cl, sp, u).2.2) ∉ st ∧ (cl, sp, u).1 ∈ fr)) := hinv
  obtain ⟨hle, hgo⟩ := hinv
  refine gw_cut (γ := ByteArray → Option Bool) (I := (fun (F2 : ByteArray → Option Bool) => ∀ k, (F2 k).getD false = true ↔ k ∈ docR st (cl, sp, u) fr)) (S' := (fun (F2 : ByteArray → Option Bool) => [(0, .slice G gn gq), (1, .int .i64 ((left : Nat) : Int)), (3, .pointer (some ⟨gc, 0, none⟩)), (5, .pointer (some ⟨gf, 0, none⟩)), (9, .pointer (some ⟨g2, 0, none⟩)), (10, .map (some g3)), (12, .pointer (some ⟨g4, 0, none⟩)), (13, .int .i64 ((sp : Nat) : Int)), (38, .slice (some ⟨g7, 0, none⟩) n5 c5), (39, .int .i64 ((n5 : Nat) : Int)), (40, .int .i64 ((j : Nat) : Int))])) (K' := (fun (F2 : ByteArray → Option Bool) => fun _ => True)) (L' := (fun (F2 : ByteArray → Option Bool) => [(g4, 90, [.string x0, .string cl, .int .i64 ((u : Nat) : Int)]), (g2, 92, [.string x0, .string x1, .int .i64 x2, .int .i64 x3, .int .i64 x4, .int .i64 x5])])) (O' := (fun (F2 : ByteArray → Option Bool) => [⟨.slice (some ⟨g7, 0, none⟩) n5 c5, 90, 3, n5, (DL.map (dcG (⟨x0, x1, x2, x3, x4, x5⟩ : Bk))).flatMap gvEnc⟩])) (X' := (fun (F2 : ByteArray → Option Bool) => [MapF Value.bool w.heap.size g3 (F2), SlOld csEnc 2 158 w.heap.size none A0 n0 cs, SlOld skEnc 2 211 w.heap.size none A1 n1 sl, SlOld bkEnc 6 92 w.heap.size none (some ⟨b, off, none⟩) n l, BlkOld w.heap.size none gl 76 [.slice (some ⟨b, off, none⟩) n cb], BlkOld w.heap.size none gc 58 [.slice A0 n0 c0], BlkOld w.heap.size none gs 75 [.slice A1 n1 c1], BlkOld w.heap.size none gf 187 [.func (.func 126) #[] #[.pointer (some ⟨gl, 0, none⟩), .pointer (some ⟨gc, 0, none⟩), .pointer (some ⟨gs, 0, none⟩), .pointer (some ⟨gf, 0, none⟩)]], SlOld gvEnc 3 90 w.heap.size none G gn (gvO l st)])) ?_ ?_
  ·refine gw_region (mv_ rfl (fd_ fo90_1 rfl rfl (lk_ sc9 0 rfl rfl rfl (mv_ rfl (fd_ fo90_1 rfl rfl (lk_ sc9 0 rfl rfl rfl ?_))))))
   refine wl_ov (ov_lookF (enc := Value.bool) (k := 9) (e := 4) false (by kernel_rfl) (by kernel_rfl) (by kernel_rfl) rfl rfl (fun _ hm => (hm.fact 0 rfl))) rfl ?_
   refine mv_ rfl ?_
   rcases Bool.eq_false_or_eq_true (((F) cl).getD false) with hb4 | hb4
   ·refine wl_set 76 rfl (congrArg Value.bool hb4) ?_
    refine goff rfl rfl rfl (goff rfl rfl rfl (pt_ rfl rfl ?_))
    refine wl_mapPut (enc := Value.bool) (v := true) (k := 9) (e := 4) (X' := [SlOld csEnc 2 158 w.heap.size none A0 n0 cs, SlOld skEnc 2 211 w.heap.size none A1 n1 sl, SlOld bkEnc 6 92 w.heap.size none (some ⟨b, off, none⟩) n l, BlkOld w.heap.size none gl 76 [.slice (some ⟨b, off, none⟩) n cb], BlkOld w.heap.size none gc 58 [.slice A0 n0 c0], BlkOld w.heap.size none gs 75 [.slice A1 n1 c1], BlkOld w.heap.size none gf 187 [.func (.func 126) #[] #[.pointer (some ⟨gl, 0, none⟩), .pointer (some ⟨gc, 0, none⟩), .pointer (some ⟨gs, 0, none⟩), .pointer (some ⟨gf, 0, none⟩)]], SlOld gvEnc 3 90 w.heap.size none G gn (gvO l st)]) 0 (by kernel_rfl) (by kernel_rfl) rfl rfl rfl rfl (far_cons (i := 1) SlOld.far rfl (far_cons (i := 2) SlOld.far rfl (far_cons (i := 3) SlOld.far rfl (far_cons (i := 4) BlkOld.far rfl (far_cons (i := 5) BlkOld.far rfl (far_cons (i := 6) BlkOld.far rfl (far_cons (i := 7) BlkOld.far rfl (far_cons (i := 8) SlOld.far rfl far_nil)))))))) ?_
    refine wl_nil ?_
    have hk0 : ∀ k, k ≠ cl → (k ∈ docR st (cl, sp, u) fr ↔ k ∈ fr) := fun k hk => docR_mem (st := st) (k := (cl, sp, u)) (fr := fr).trans ⟨fun h => h.elim id (fun h2 => absurd h2.1 hk), .inl⟩
    have hk1 : true = true ↔ cl ∈ docR st (cl, sp, u) fr := ⟨fun _ => docR_mem (st := st) (k := (cl, sp, u)) (fr := fr).2 (.inl ((hF cl).1 hb4)), fun _ => rfl⟩
    exact nx_meet (fPut (F) cl true) (fPut_iff hF hk1 hk0) ⟨rfl, rfl, rfl, rfl, rfl, rfl, rfl, rfl, rfl, rfl, rfl, trivial⟩ (fun _ hm => hm.pick [0, 1] [0] [0, 1, 2, 3, 4, 5, 6, 7, 8] rfl rfl)
   refine wl_set 76 rfl (congrArg Value.bool hb4) ?_
   refine wl_guard_on rfl rfl rfl (mv_ rfl (wl_guard_on rfl rfl rfl (wl_ov (ov_un_not rfl) rfl (pf_ rfl rfl ?_))))
   refine wl_mapPut (enc := Value.bool) (v := !US) (k := 9) (e := 4) (X' := [SlOld csEnc 2 158 w.heap.size none A0 n0 cs, SlOld skEnc 2 211 w.heap.size none A1 n1 sl, SlOld bkEnc 6 92 w.heap.size none (some ⟨b, off, none⟩) n l, BlkOld w.heap.size none gl 76 [.slice (some ⟨b, off, none⟩) n cb], BlkOld w.heap.size none gc 58 [.slice A0 n0 c0], BlkOld w.heap.size none gs 75 [.slice A1 n1 c1], BlkOld w.heap.size none gf 187 [.func (.func 126) #[] #[.pointer (some ⟨gl, 0, none⟩), .pointer (some ⟨gc, 0, none⟩), .pointer (some ⟨gs, 0, none⟩), .pointer (some ⟨gf, 0, none⟩)]], SlOld gvEnc 3 90 w.heap.size none G gn (gvO l st)]) 0 (by kernel_rfl) (by kernel_rfl) rfl rfl rfl rfl (far_cons (i := 1) SlOld.far rfl (far_cons (i := 2) SlOld.far rfl (far_cons (i := 3) SlOld.far rfl (far_cons (i := 4) BlkOld.far rfl (far_cons (i := 5) BlkOld.far rfl (far_cons (i := 6) BlkOld.far rfl (far_cons (i := 7) BlkOld.far rfl (far_cons (i := 8) SlOld.far rfl far_nil)))))))) ?_
   refine wl_nil ?_
   have hk0 : ∀ k, k ≠ cl → (k ∈ docR st (cl, sp, u) fr ↔ k ∈ fr) := fun k hk => docR_mem (st := st) (k := (cl, sp, u)) (fr := fr).trans ⟨fun h => h.elim id (fun h2 => absurd h2.1 hk), .inl⟩
   have hk1 : (!US) = true ↔ cl ∈ docR st (cl, sp, u) fr := by
    rw [docR_mem (st := st) (k := (cl, sp, u)) (fr := fr)]
    constructor
    ·exact fun h => .inr ⟨rfl, fun h2 => (by have h5 := hused.2 h2; rw [h5] at h; cases h)⟩
    rintro (h | h)
    ·have h5 := (hF cl).2 h; rw [hb4] at h5; cases h5
    cases hu : US with
    | false => rfl
    | true => exact absurd (hused.1 hu) h.2
   exact nx_meet (fPut (F) cl (!US)) (fPut_iff hF hk1 hk0) ⟨rfl, rfl, rfl, rfl, rfl, rfl, rfl, rfl, rfl, rfl, rfl, trivial⟩ (fun _ hm => hm.pick [0, 1] [0] [0, 1, 2, 3, 4, 5, 6, 7, 8] rfl rfl)
  intro F2 hinv
  replace hinv : ∀ k, (F2 k).getD false = true ↔ k ∈ docR st (cl, sp, u) fr := hinv
  refine gw_seq ?_
  have hF2 : ∀ k, (F2 k).getD false = true ↔ k ∈ docR st (cl, sp, u) fr := hinv
  have hsn2 := hsn (cl, u)
  dsimp only at hsn2
  rcases hV : asgD cs sl l (st ++ [(cl, u)]) (left - sp) with _ | o2
  ·refine gd (fun wz => Blk wz g4 90 [.string x0, .string cl, .int .i64 ((u : Nat) : Int)] ∧ Blk wz g2 92 [.string x0, .string x1, .int .i64 x2, .int .i64 x3, .int .i64 x4, .int .i64 x5] ∧ (MapF Value.bool w.heap.size g3 (F2)) wz ∧ (SlOld csEnc 2 158 w.heap.size none A0 n0 cs) wz ∧ (SlOld skEnc 2 211 w.heap.size none A1 n1 sl) wz ∧ (SlOld bkEnc 6 92 w.heap.size none (some ⟨b, off, none⟩) n l) wz ∧ (BlkOld w.heap.size none gl 76 [.slice (some ⟨b, off, none⟩) n cb]) wz ∧ (BlkOld w.heap.size none gc 58 [.slice A0 n0 c0]) wz ∧ (BlkOld w.heap.size none gs 75 [.slice A1 n1 c1]) wz ∧ (BlkOld w.heap.size none gf 187 [.func (.func 126) #[] #[.pointer (some ⟨gl, 0, none⟩), .pointer (some ⟨gc, 0, none⟩), .pointer (some ⟨gs, 0, none⟩), .pointer (some ⟨gf, 0, none⟩)]]) wz ∧ (SlOld gvEnc 3 90 w.heap.size none G gn (gvO l st)) wz ∧ True) mixed (fun _ hm => ⟨hm.bl 0, hm.bl 1, hm.fa 0, hm.fa 1, hm.fa 2, hm.fa 3, hm.fa 4, hm.fa 5, hm.fa 6, hm.fa 7, hm.fa 8, trivial⟩) fun z => ?_
   refine wt 0 11 1 rfl z (ov_load (v := .func (.func 126) #[] #[.pointer (some ⟨gl, 0, none⟩), .pointer (some ⟨gc, 0, none⟩), .pointer (some ⟨gs, 0, none⟩), .pointer (some ⟨gf, 0, none⟩)]) sc187 rfl (fun _ hm => (hm.2.2.2.2.2.2.2.2.2.1).2) rfl) ?_
   refine wt 1 11 3 rfl z (ov_move rfl) ?_
   refine wt 3 11 11 rfl z (ov_loads rz90 rfl (fun _ hm => hm.1) rfl rfl) ?_
   refine wt 6 11 75 rfl z (ov_move rfl) ?_
   refine wt 7 11 203 rfl z (ov_move rfl) ?_
   refine wt 8 11 459 rfl z (ov_sub rfl rfl (by omega) (by omega)) ?_
   refine wa_set 88 (v' := .int .i64 ((left - sp : Nat) : Int)) rfl (congrArg (Value.int .i64) (by omega)) ?_
   refine wa_all [2, 4] (by kernel_rfl) rfl ⟨⟨_, rfl, ?_⟩, ⟨_, rfl, ?_⟩, trivial⟩
   ·refine wl_callgo (γ := Option Addr × Nat) (val := (fun g => .slice g.1 gn g.2)) (φ := (fun g => True)) (fun g => ⟨.slice g.1 gn g.2, 90, 3, gn, (gvO l st).flatMap gvEnc⟩) rfl cb131 rfl rfl (fun wx hm => (cloneGvs_any (gvO l st) G gn gq wx (hm.fact 8 rfl).1 (by omega)).mono fun _ _ ⟨A, c, he, ho, hg⟩ => ⟨(A, c), he, trivial, ho, hg⟩) ?_
    rintro ⟨A2, c2⟩ hphi
    dsimp only at hphi ⊢
    refine wl_nil ?_
    refine nw 11 463 (fun _ hm => ⟨hm.bl 0, hm.bl 1, hm.fa 0, hm.fa 1, hm.fa 2, hm.fa 3, hm.fa 4, hm.fa 5, hm.fa 6, hm.fa 7, hm.fa 8, trivial⟩) fun z => ?_
    refine wa1 4 rfl ?_
    refine wl_buildSlice (e := 90) (cs := [.string x0, .string cl, .int .i64 ((u : Nat) : Int)]) rfl (by kernel_rfl) rfl fun g5 => ?_
    refine wl_nil ?_
    refine nw 11 479 (fun _ hm => ⟨hm.bl 1, hm.bl 2, hm.fa 0, hm.fa 1, hm.fa 2, hm.fa 3, hm.fa 4, hm.fa 5, hm.fa 6, hm.fa 7, hm.fa 8, trivial⟩) fun z => ?_
    refine wa1 5 rfl ?_
    refine wl_append (news := [.string x0, .string cl, .int .i64 ((u : Nat) : Int)]) 0 0 ap80 rfl rfl rfl rfl rfl rfl rfl (by omega) (by unfold maxLen; omega) rfl rfl fun v6 hv6 => ?_
    rw [show (gvO l st).flatMap gvEnc ++ ([.string x0, .string cl, .int .i64 ((u : Nat) : Int)] : List Value) = (gvO l (st ++ [(cl, u)])).flatMap gvEnc from by rw [hsn2]; simp [gvEnc]]
    refine wl_look (R := ∃ A cc, v6 = .slice A (gn + 1) cc) (fun wx hm => own_slice (hm.ownI 0 rfl)) ?_
    rintro ⟨A6, c6, rfl⟩
    refine wl_nil ?_
    refine nw 11 511 (fun _ hm => ⟨hm.bl 1, hm.bl 2, hm.fa 0, hm.fa 1, hm.fa 2, hm.fa 3, hm.fa 4, hm.fa 5, hm.fa 6, hm.fa 7, hm.fa 8, trivial⟩) fun z => ?_
    refine wa1 9 rfl ?_
    refine wl_callv rfl cb126 rfl rfl (fun wx hm => ((ih hgn (st ++ [(cl, u)]) (left - sp) A6 c6 wx (by rw [List.length_append, hss]; rfl) (by omega) (fun h => absurd h (by omega)) (hm.fact 1 rfl).1 (hm.fact 2 rfl).1 (hm.fact 3 rfl).1 (hm.fact 4 rfl).2 (hm.fact 5 rfl).2 (hm.fact 6 rfl).2 (hm.fact 7 rfl).2 (SlT.ofOwn gv_len (hm.ownI 0 rfl) (by rw [gvO_len (by rw [List.length_append, List.length_singleton]; omega), List.length_append, List.length_singleton]; omega))).mono fun _ _ ⟨h, hg⟩ => by
     rcases h with ⟨_, he⟩ | ⟨o, g8, c8, h2, _⟩
     ·exact ⟨he, hg⟩
     rw [hV] at h2; cases h2)) ?_
    refine wl_nil ?_
    refine nw 11 1023 (fun _ hm => ⟨hm.bl 1, hm.bl 2, hm.fa 0, hm.fa 1, hm.fa 2, hm.fa 3, hm.fa 4, hm.fa 5, hm.fa 6, hm.fa 7, hm.fa 8, trivial⟩) fun z => ?_
    refine wt 10 11 2047 rfl z (ov_assign rfl) ?_
    refine wa_done (by kernel_rfl) ?_
    refine nx_then (sr_ (mv_ rfl ?_))
    refine wl_ov (ov_bin (v := .bool false) rfl rfl (fun _ => rfl)) rfl ?_
    refine nn_ (cf_ rfl (gw_skip (nx_blk_nrm (nx_then (gw_region (ad_ rfl rfl (mv_ rfl (wl_nil ?_))))))))
    rw [docS_next hq hgo hV] at hRj
    exact nx_round (j + 1, F2, docR st (cl, sp, u) fr) ⟨by dsimp only; omega, hF2, hRj⟩ (by dsimp only; omega) ⟨rfl, rfl, rfl, rfl, rfl, rfl, rfl, rfl, (some_int (by omega)), trivial⟩ (fun _ hm => hm.pick [2] [1] [0, 1, 2, 3, 4, 5, 6, 7, 8] rfl rfl)
   refine wl_buildSlice (e := 90) (cs := [.string x0, .string cl, .int .i64 ((u : Nat) : Int)]) rfl (by kernel_rfl) rfl fun g6 => ?_
   refine wl_nil ?_
   refine nw 11 475 (fun _ hm => ⟨hm.bl 1, hm.bl 2, hm.fa 0, hm.fa 1, hm.fa 2, hm.fa 3, hm.fa 4, hm.fa 5, hm.fa 6, hm.fa 7, hm.fa 8, trivial⟩) fun z => ?_
   refine wa1 2 rfl ?_
   refine wl_callgo (γ := Option Addr × Nat) (val := (fun g => .slice g.1 gn g.2)) (φ := (fun g => True)) (fun g => ⟨.slice g.1 gn g.2, 90, 3, gn, (gvO l st).flatMap gvEnc⟩) rfl cb131 rfl rfl (fun wx hm => (cloneGvs_any (gvO l st) G gn gq wx (hm.fact 8 rfl).1 (by omega)).mono fun _ _ ⟨A, c, he, ho, hg⟩ => ⟨(A, c), he, trivial, ho, hg⟩) ?_
   rintro ⟨A2, c2⟩ hphi
   dsimp only at hphi ⊢
   refine wl_nil ?_
   refine nw 11 479 (fun _ hm => ⟨hm.bl 1, hm.bl 2, hm.fa 0, hm.fa 1, hm.fa 2, hm.fa 3, hm.fa 4, hm.fa 5, hm.fa 6, hm.fa 7, hm.fa 8, trivial⟩) fun z => ?_
   refine wa1 5 rfl ?_
   refine wl_append (news := [.string x0, .string cl, .int .i64 ((u : Nat) : Int)]) 0 0 ap80 rfl rfl rfl rfl rfl rfl rfl (by omega) (by unfold maxLen; omega) rfl rfl fun v6 hv6 => ?_
   rw [show (gvO l st).flatMap gvEnc ++ ([.string x0, .string cl, .int .i64 ((u : Nat) : Int)] : List Value) = (gvO l (st ++ [(cl, u)])).flatMap gvEnc from by rw [hsn2]; simp [gvEnc]]
   refine wl_look (R := ∃ A cc, v6 = .slice A (gn + 1) cc) (fun wx hm => own_slice (hm.ownI 0 rfl)) ?_
   rintro ⟨A6, c6, rfl⟩
   refine wl_nil ?_
   refine nw 11 511 (fun _ hm => ⟨hm.bl 1, hm.bl 2, hm.fa 0, hm.fa 1, hm.fa 2, hm.fa 3, hm.fa 4, hm.fa 5, hm.fa 6, hm.fa 7, hm.fa 8, trivial⟩) fun z => ?_
   refine wa1 9 rfl ?_
   refine wl_callv rfl cb126 rfl rfl (fun wx hm => ((ih hgn (st ++ [(cl, u)]) (left - sp) A6 c6 wx (by rw [List.length_append, hss]; rfl) (by omega) (fun h => absurd h (by omega)) (hm.fact 1 rfl).1 (hm.fact 2 rfl).1 (hm.fact 3 rfl).1 (hm.fact 4 rfl).2 (hm.fact 5 rfl).2 (hm.fact 6 rfl).2 (hm.fact 7 rfl).2 (SlT.ofOwn gv_len (hm.ownI 0 rfl) (by rw [gvO_len (by rw [List.length_append, List.length_singleton]; omega), List.length_append, List.length_singleton]; omega))).mono fun _ _ ⟨h, hg⟩ => by
    rcases h with ⟨_, he⟩ | ⟨o, g8, c8, h2, _⟩
    ·exact ⟨he, hg⟩
    rw [hV] at h2; cases h2)) ?_
   refine wl_nil ?_
   refine nw 11 1023 (fun _ hm => ⟨hm.bl 1, hm.bl 2, hm.fa 0, hm.fa 1, hm.fa 2, hm.fa 3, hm.fa 4, hm.fa 5, hm.fa 6, hm.fa 7, hm.fa 8, trivial⟩) fun z => ?_
   refine wt 10 11 2047 rfl z (ov_assign rfl) ?_
   refine wa_done (by kernel_rfl) ?_
   refine nx_then (sr_ (mv_ rfl ?_))
   refine wl_ov (ov_bin (v := .bool false) rfl rfl (fun _ => rfl)) rfl ?_
   refine nn_ (cf_ rfl (gw_skip (nx_blk_nrm (nx_then (gw_region (ad_ rfl rfl (mv_ rfl (wl_nil ?_))))))))
   rw [docS_next hq hgo hV] at hRj
   exact nx_round (j + 1, F2, docR st (cl, sp, u) fr) ⟨by dsimp only; omega, hF2, hRj⟩ (by dsimp only; omega) ⟨rfl, rfl, rfl, rfl, rfl, rfl, rfl, rfl, (some_int (by omega)), trivial⟩ (fun _ hm => hm.pick [2] [1] [0, 1, 2, 3, 4, 5, 6, 7, 8] rfl rfl)
  refine gd (fun wz => Blk wz g4 90 [.string x0, .string cl, .int .i64 ((u : Nat) : Int)] ∧ Blk wz g2 92 [.string x0, .string x1, .int .i64 x2, .int .i64 x3, .int .i64 x4, .int .i64 x5] ∧ (MapF Value.bool w.heap.size g3 (F2)) wz ∧ (SlOld csEnc 2 158 w.heap.size none A0 n0 cs) wz ∧ (SlOld skEnc 2 211 w.heap.size none A1 n1 sl) wz ∧ (SlOld bkEnc 6 92 w.heap.size none (some ⟨b, off, none⟩) n l) wz ∧ (BlkOld w.heap.size none gl 76 [.slice (some ⟨b, off, none⟩) n cb]) wz ∧ (BlkOld w.heap.size none gc 58 [.slice A0 n0 c0]) wz ∧ (BlkOld w.heap.size none gs 75 [.slice A1 n1 c1]) wz ∧ (BlkOld w.heap.size none gf 187 [.func (.func 126) #[] #[.pointer (some ⟨gl, 0, none⟩), .pointer (some ⟨gc, 0, none⟩), .pointer (some ⟨gs, 0, none⟩), .pointer (some ⟨gf, 0, none⟩)]]) wz ∧ (SlOld gvEnc 3 90 w.heap.size none G gn (gvO l st)) wz ∧ True) mixed (fun _ hm => ⟨hm.bl 0, hm.bl 1, hm.fa 0, hm.fa 1, hm.fa 2, hm.fa 3, hm.fa 4, hm.fa 5, hm.fa 6, hm.fa 7, hm.fa 8, trivial⟩) fun z => ?_
  refine wt 0 11 1 rfl z (ov_load (v := .func (.func 126) #[] #[.pointer (some ⟨gl, 0, none⟩), .pointer (some ⟨gc, 0, none⟩), .pointer (some ⟨gs, 0, none⟩), .pointer (some ⟨gf, 0, none⟩)]) sc187 rfl (fun _ hm => (hm.2.2.2.2.2.2.2.2.2.1).2) rfl) ?_
  refine wt 1 11 3 rfl z (ov_move rfl) ?_
  refine wt 3 11 11 rfl z (ov_loads rz90 rfl (fun _ hm => hm.1) rfl rfl) ?_
  refine wt 6 11 75 rfl z (ov_move rfl) ?_
  refine wt 7 11 203 rfl z (ov_move rfl) ?_
  refine wt 8 11 459 rfl z (ov_sub rfl rfl (by omega) (by omega)) ?_
  refine wa_set 88 (v' := .int .i64 ((left - sp : Nat) : Int)) rfl (congrArg (Value.int .i64) (by omega)) ?_
  refine wa_all [2, 4] (by kernel_rfl) rfl ⟨⟨_, rfl, ?_⟩, ⟨_, rfl, ?_⟩, trivial⟩
  ·refine wl_callgo (γ := Option Addr × Nat) (val := (fun g => .slice g.1 gn g.2)) (φ := (fun g => True)) (fun g => ⟨.slice g.1 gn g.2, 90, 3, gn, (gvO l st).flatMap gvEnc⟩) rfl cb131 rfl rfl (fun wx hm => (cloneGvs_any (gvO l st) G gn gq wx (hm.fact 8 rfl).1 (by omega)).mono fun _ _ ⟨A, c, he, ho, hg⟩ => ⟨(A, c), he, trivial, ho, hg⟩) ?_
   rintro ⟨A2, c2⟩ hphi
   dsimp only at hphi ⊢
   refine wl_nil ?_
   refine nw 11 463 (fun _ hm => ⟨hm.bl 0, hm.bl 1, hm.fa 0, hm.fa 1, hm.fa 2, hm.fa 3, hm.fa 4, hm.fa 5, hm.fa 6, hm.fa 7, hm.fa 8, trivial⟩) fun z => ?_
   refine wa1 4 rfl ?_
   refine wl_buildSlice (e := 90) (cs := [.string x0, .string cl, .int .i64 ((u : Nat) : Int)]) rfl (by kernel_rfl) rfl fun g7 => ?_
   refine wl_nil ?_
   refine nw 11 479 (fun _ hm => ⟨hm.bl 1, hm.bl 2, hm.fa 0, hm.fa 1, hm.fa 2, hm.fa 3, hm.fa 4, hm.fa 5, hm.fa 6, hm.fa 7, hm.fa 8, trivial⟩) fun z => ?_
   refine wa1 5 rfl ?_
   refine wl_append (news := [.string x0, .string cl, .int .i64 ((u : Nat) : Int)]) 0 0 ap80 rfl rfl rfl rfl rfl rfl rfl (by omega) (by unfold maxLen; omega) rfl rfl fun v6 hv6 => ?_
   rw [show (gvO l st).flatMap gvEnc ++ ([.string x0, .string cl, .int .i64 ((u : Nat) : Int)] : List Value) = (gvO l (st ++ [(cl, u)])).flatMap gvEnc from by rw [hsn2]; simp [gvEnc]]
   refine wl_look (R := ∃ A cc, v6 = .slice A (gn + 1) cc) (fun wx hm => own_slice (hm.ownI 0 rfl)) ?_
   rintro ⟨A6, c6, rfl⟩
   refine wl_nil ?_
   refine nw 11 511 (fun _ hm => ⟨hm.bl 1, hm.bl 2, hm.fa 0, hm.fa 1, hm.fa 2, hm.fa 3, hm.fa 4, hm.fa 5, hm.fa 6, hm.fa 7, hm.fa 8, trivial⟩) fun z => ?_
   refine wa1 9 rfl ?_
   refine wl_callgo (γ := Nat × Nat) (val := (fun g => .slice (some ⟨g.1, 0, none⟩) n g.2)) (φ := (fun g => True)) (fun g => ⟨.slice (some ⟨g.1, 0, none⟩) n g.2, 90, 3, n, (gvO l o2).flatMap gvEnc⟩) rfl cb126 rfl rfl (fun wx hm => (ih hgn (st ++ [(cl, u)]) (left - sp) A6 c6 wx (by rw [List.length_append, hss]; rfl) (by omega) (fun h => absurd h (by omega)) (hm.fact 1 rfl).1 (hm.fact 2 rfl).1 (hm.fact 3 rfl).1 (hm.fact 4 rfl).2 (hm.fact 5 rfl).2 (hm.fact 6 rfl).2 (hm.fact 7 rfl).2 (SlT.ofOwn gv_len (hm.ownI 0 rfl) (by rw [gvO_len (by rw [List.length_append, List.length_singleton]; omega), List.length_append, List.length_singleton]; omega))).mono fun _ _ ⟨h, hg⟩ => by
    rcases h with ⟨h2, _⟩ | ⟨o, g8, c8, h2, he, ho⟩
    ·rw [hV] at h2; cases h2
    rw [hV] at h2; cases h2; exact ⟨(g8, c8), he, trivial, ho, hg⟩) ?_
   rintro ⟨g8, c8⟩ hphi
   dsimp only at hphi ⊢
   refine wl_nil ?_
   refine nw 11 1023 (fun _ hm => ⟨hm.bl 1, hm.bl 2, hm.fa 0, hm.fa 1, hm.fa 2, hm.fa 3, hm.fa 4, hm.fa 5, hm.fa 6, hm.fa 7, hm.fa 8, trivial⟩) fun z => ?_
   refine wt 10 11 2047 rfl z (ov_assign rfl) ?_
   refine wa_done (by kernel_rfl) ?_
   refine nx_then (sr_ (mv_ rfl ?_))
   refine wl_ov (ov_bin (v := .bool true) rfl rfl (fun _ => rfl)) rfl ?_
   refine nn_ (ct_ rfl (sr_ (mv_ rfl (sg_ rfl (nn_ ?_)))))
   refine gw_ret ?_
   refine nx_blk_ret (nx_then_ret (nx_then_ret (nx_blk_ret (nx_then_ret ?_))))
   have hRo : RR = some o2 := by rw [hRj]; exact docS_got hq hgo hV
   refine nx_ret1 rfl rfl fun wx hm => ?_
   exact ⟨.inr ⟨o2, g8, c8, hRo, rfl, (hm.ownI 0 rfl)⟩, hm.g⟩
  refine wl_buildSlice (e := 90) (cs := [.string x0, .string cl, .int .i64 ((u : Nat) : Int)]) rfl (by kernel_rfl) rfl fun g8 => ?_
  refine wl_nil ?_
  refine nw 11 475 (fun _ hm => ⟨hm.bl 1, hm.bl 2, hm.fa 0, hm.fa 1, hm.fa 2, hm.fa 3, hm.fa 4, hm.fa 5, hm.fa 6, hm.fa 7, hm.fa 8, trivial⟩) fun z => ?_
  refine wa1 2 rfl ?_
  refine wl_callgo (γ := Option Addr × Nat) (val := (fun g => .slice g.1 gn g.2)) (φ := (fun g => True)) (fun g => ⟨.slice g.1 gn g.2, 90, 3, gn, (gvO l st).flatMap gvEnc⟩) rfl cb131 rfl rfl (fun wx hm => (cloneGvs_any (gvO l st) G gn gq wx (hm.fact 8 rfl).1 (by omega)).mono fun _ _ ⟨A, c, he, ho, hg⟩ => ⟨(A, c), he, trivial, ho, hg⟩) ?_
  rintro ⟨A2, c2⟩ hphi
  dsimp only at hphi ⊢
  refine wl_nil ?_
  refine nw 11 479 (fun _ hm => ⟨hm.bl 1, hm.bl 2, hm.fa 0, hm.fa 1, hm.fa 2, hm.fa 3, hm.fa 4, hm.fa 5, hm.fa 6, hm.fa 7, hm.fa 8, trivial⟩) fun z => ?_
  refine wa1 5 rfl ?_
  refine wl_append (news := [.string x0, .string cl, .int .i64 ((u : Nat) : Int)]) 0 0 ap80 rfl rfl rfl rfl rfl rfl rfl (by omega) (by unfold maxLen; omega) rfl rfl fun v6 hv6 => ?_
  rw [show (gvO l st).flatMap gvEnc ++ ([.string x0, .string cl, .int .i64 ((u : Nat) : Int)] : List Value) = (gvO l (st ++ [(cl, u)])).flatMap gvEnc from by rw [hsn2]; simp [gvEnc]]
  refine wl_look (R := ∃ A cc, v6 = .slice A (gn + 1) cc) (fun wx hm => own_slice (hm.ownI 0 rfl)) ?_
  rintro ⟨A6, c6, rfl⟩
  refine wl_nil ?_
  refine nw 11 511 (fun _ hm => ⟨hm.bl 1, hm.bl 2, hm.fa 0, hm.fa 1, hm.fa 2, hm.fa 3, hm.fa 4, hm.fa 5, hm.fa 6, hm.fa 7, hm.fa 8, trivial⟩) fun z => ?_
  refine wa1 9 rfl ?_
  refine wl_callgo (γ := Nat × Nat) (val := (fun g => .slice (some ⟨g.1, 0, none⟩) n g.2)) (φ := (fun g => True)) (fun g => ⟨.slice (some ⟨g.1, 0, none⟩) n g.2, 90, 3, n, (gvO l o2).flatMap gvEnc⟩) rfl cb126 rfl rfl (fun wx hm => (ih hgn (st ++ [(cl, u)]) (left - sp) A6 c6 wx (by rw [List.length_append, hss]; rfl) (by omega) (fun h => absurd h (by omega)) (hm.fact 1 rfl).1 (hm.fact 2 rfl).1 (hm.fact 3 rfl).1 (hm.fact 4 rfl).2 (hm.fact 5 rfl).2 (hm.fact 6 rfl).2 (hm.fact 7 rfl).2 (SlT.ofOwn gv_len (hm.ownI 0 rfl) (by rw [gvO_len (by rw [List.length_append, List.length_singleton]; omega), List.length_append, List.length_singleton]; omega))).mono fun _ _ ⟨h, hg⟩ => by
   rcases h with ⟨h2, _⟩ | ⟨o, g8, c8, h2, he, ho⟩
   ·rw [hV] at h2; cases h2
   rw [hV] at h2; cases h2; exact ⟨(g8, c8), he, trivial, ho, hg⟩) ?_
  rintro ⟨g8, c8⟩ hphi
  dsimp only at hphi ⊢
  refine wl_nil ?_
  refine nw 11 1023 (fun _ hm => ⟨hm.bl 1, hm.bl 2, hm.fa 0, hm.fa 1, hm.fa 2, hm.fa 3, hm.fa 4, hm.fa 5, hm.fa 6, hm.fa 7, hm.fa 8, trivial⟩) fun z => ?_
  refine wt 10 11 2047 rfl z (ov_assign rfl) ?_
  refine wa_done (by kernel_rfl) ?_
  refine nx_then (sr_ (mv_ rfl ?_))
  refine wl_ov (ov_bin (v := .bool true) rfl rfl (fun _ => rfl)) rfl ?_
  refine nn_ (ct_ rfl (sr_ (mv_ rfl (sg_ rfl (nn_ ?_)))))
  refine gw_ret ?_
  refine nx_blk_ret (nx_then_ret (nx_then_ret (nx_blk_ret (nx_then_ret ?_))))
  have hRo : RR = some o2 := by rw [hRj]; exact docS_got hq hgo hV
  refine nx_ret1 rfl rfl fun wx hm => ?_
  exact ⟨.inr ⟨o2, g8, c8, hRo, rfl, (hm.ownI 0 rfl)⟩, hm.g⟩
 have hj : ¬ (((j : Nat) : Int) < ((n5 : Nat) : Int)) := by simpa using hh
 clear hh
 refine gw_exit ?_
 refine nx_then_exit (nx_then_exit ?_)
 refine nx_blk_here ?_
 refine nx_then (sr_ (sg_ rfl (nn_ ?_)))
 refine gw_ret ?_
 rw [docS_end (by omega)] at hRj
 refine nx_ret1 rfl rfl fun wx hm => ?_
 exact ⟨.inl ⟨hRj, rfl⟩, hm.g⟩
theorem fl_all (cs : List Cs) (A0 : Option Addr) (n0 c0 : Nat) (sl : List Sk) (A1 : Option Addr) (n1 c1 : Nat) (l : List Bk) (A : Option Addr) (n cb gl gc gs gf : Nat) (hco : ∀ x ∈ cs, CsOk x) (hn0 : n0 ≤ 30) (hcl : Closed cs) (hlo : loopB cs cs.length = false) (hso : ∀ x ∈ sl, SkOk x) (hn1 : n1 ≤ 1000) (hmany : ∀ k, manyV sl k ≤ 100) (hix : ∀ b ∈ l, 0 ≤ ixP (csP b.cls) cs 0) (htm : BkTim l) (hn : n ≤ 12) : ∀ (d gn : Nat), gn + d = n → FlSpec cs A0 n0 c0 sl A1 n1 c1 l A n cb gl gc gs gf gn
  | 0, gn, h => fl_step cs A0 n0 c0 sl A1 n1 c1 l A n cb gl gc gs gf gn (fun h2 => absurd h2 (by omega)) (by omega) hco hn0 hcl hlo hso hn1 hmany hix htm hn
  | d + 1, gn, h => fl_step cs A0 n0 c0 sl A1 n1 c1 l A n cb gl gc gs gf gn (fun _ => fl_all cs A0 n0 c0 sl A1 n1 c1 l A n cb gl gc gs gf hco hn0 hcl hlo hso hn1 hmany hix htm hn d (gn + 1) (by omega)) (by omega) hco hn0 hcl hlo hso hn1 hmany hix htm hn
end Go.Proofs.YtempjmpfdniecaaGreatDoor
namespace Go.Proofs.YtempjmpfdniecaaGreatDoor
open Go.RowKit
theorem zc187 : zeroCs Tryz.prog 187 = some [.nilFunc] := by kernel_rfl
theorem assignOf_any (cs : List Cs) (A0 : Option Addr) (n0 c0 : Nat) (sl : List Sk) (A1 : Option Addr) (n1 c1 : Nat) (l : List Bk) (A : Option Addr) (n c : Nat) (w : World) (hcs : SlT csEnc 2 158 w A0 n0 cs) (hco : ∀ x ∈ cs, CsOk x) (hn0 : n0 ≤ 30) (hcl : Closed cs) (hlo : loopB cs cs.length = false) (hs : SlT skEnc 2 211 w A1 n1 sl) (hso : ∀ x ∈ sl, SkOk x) (hn1 : n1 ≤ 1000) (hmany : ∀ k, manyV sl k ≤ 100) (hl : SlT bkEnc 6 92 w A n l) (hix : ∀ b ∈ l, 0 ≤ ixP (csP b.cls) cs 0) (htm : BkTim l) (hn : n ≤ 12) :
  Calls Tryz.prog 39 #[.slice A0 n0 c0, .slice A1 n1 c1, .slice A n c] w (fun e w' => ((asgO cs sl l = none ∧ e = .returned (.tuple #[.slice none 0 0, .bool false])) ∨ ∃ (o : List (ByteArray × Nat)) (A' : Option Addr) (c' : Nat), asgO cs sl l = some o ∧ e = .returned (.tuple #[.slice A' n c', .bool true]) ∧ SlT gvEnc 3 90 w' A' n (gvO l o)) ∧ w.grownBy w' none) := by
 refine gw_enter ⟨28, w, none, []⟩ Tryz.func39 rfl Tryz.ntmps39 rfl (mem0 (X := [SlOld csEnc 2 158 w.heap.size none A0 n0 cs, SlOld skEnc 2 211 w.heap.size none A1 n1 sl, SlOld bkEnc 6 92 w.heap.size none A n l]) (allF_cons hcs.old (allF_cons hs.old (allF_cons hl.old allF_nil))) (allL_cons SlOld.lasts (allL_cons SlOld.lasts (allL_cons SlOld.lasts allL_nil)))) ?_
 refine sr_ ?_
 have hlen := hl.len
 have hlen0 := hcs.len
 have hN : n * n0 ≤ 360 := Nat.mul_le_mul hn hn0
 refine wl_box rfl rfl rfl fun g1 => ?_
 refine wl_box rfl rfl rfl fun g2 => ?_
 refine wl_box rfl rfl rfl fun g3 => ?_
 refine sg_ rfl (sg_ rfl (nn_ (sr_ ?_)))
 refine wl_alloc zc187 rfl fun g4 => ?_
 refine nn_ (sr_ (wl_ov (ov_makeFunc rfl rfl) rfl ?_))
 refine wl_store 0 sc187 rfl rfl rfl rfl rfl rfl ?_
 refine nn_ (gw_seq (sr_ (lk_ sc76 1 rfl rfl rfl (wl_ov (ov_len es76 rfl) rfl (lk_ sc58 3 rfl rfl rfl (wl_ov (ov_len es58 rfl) rfl ?_))))))
 refine wl_ov (ov_mul rfl rfl (by rw [← Int.natCast_mul]; omega) (by rw [← Int.natCast_mul]; omega)) rfl ?_
 refine wl_set 16 (v' := .int .i64 ((n * n0 : Nat) : Int)) rfl (congrArg (Value.int .i64) (Int.natCast_mul n n0).symm) ?_
 refine ad_ rfl rfl ?_
 refine wl_set 17 (v' := .int .i64 ((n * n0 + 1 : Nat) : Int)) rfl (congrArg (Value.int .i64) (by omega)) ?_
 refine mv_ rfl (nn_ (gw_block ?_))
 refine gw_loop (γ := Nat) (fun (i : Nat) => i ≤ n * n0 + 1 ∧ ∀ k, k < i → asgF cs sl l k = none) (fun (i : Nat) => [(8, .pointer (some ⟨g4, 0, none⟩)), (17, .int .i64 ((n * n0 + 1 : Nat) : Int)), (18, .int .i64 ((i : Nat) : Int))]) (fun (i : Nat) => fun _ => True) (fun (i : Nat) => [(g4, 187, [.func (.func 126) #[] #[.pointer (some ⟨g3, 0, none⟩), .pointer (some ⟨g1, 0, none⟩), .pointer (some ⟨g2, 0, none⟩), .pointer (some ⟨g4, 0, none⟩)]]), (g3, 76, [.slice A n c]), (g2, 75, [.slice A1 n1 c1]), (g1, 58, [.slice A0 n0 c0])]) (fun (i : Nat) => []) (fun (i : Nat) => [SlOld csEnc 2 158 w.heap.size none A0 n0 cs, SlOld skEnc 2 211 w.heap.size none A1 n1 sl, SlOld bkEnc 6 92 w.heap.size none A n l]) (fun (i : Nat) => n * n0 + 1 - i) 0 ⟨Nat.zero_le _, fun k h => absurd h (Nat.not_lt_zero k)⟩ ⟨rfl, rfl, rfl, trivial⟩ (fun _ hm => hm.pick [0, 1, 2, 3] [] [0, 1, 2] rfl rfl) ?_
 intro i hinv
 replace hinv : i ≤ n * n0 + 1 ∧ ∀ k, k < i → asgF cs sl l k = none := hinv
 refine sr_ ?_
 obtain ⟨hi0, hno⟩ := hinv
 refine wl_ov (ov_lss rfl rfl) rfl (nn_ (gw_seq ?_))
 refine gw_cond rfl (fun hh => ?_) (fun hh => ?_)
 ·have hi : ((i : Nat) : Int) < ((n * n0 + 1 : Nat) : Int) := by simpa using hh
  clear hh
  refine gw_skip (nx_then (gw_seq (gw_block (sr_ (mv_ rfl (sg_ rfl (nn_ (sr_ (lk_ sc187 0 rfl rfl rfl (mv_ rfl ?_))))))))))
  rcases hV : asgF cs sl l i with _ | o
  ·refine wl_callv rfl cb126 rfl rfl (fun wx hm => ((fl_all cs A0 n0 c0 sl A1 n1 c1 l A n c g3 g1 g2 g4 hco hn0 hcl hlo hso hn1 hmany hix htm hn n 0 (by omega) [] i none 0 wx rfl (by omega) (fun _ => ⟨rfl, rfl⟩) (hm.fact 0 rfl).1 (hm.fact 1 rfl).1 (hm.fact 2 rfl).1 (hm.blkI 1 rfl) (hm.blkI 3 rfl) (hm.blkI 2 rfl) (hm.blkI 0 rfl) (by rw [gvO_nil]; exact SlT.nil_ _ _)).mono fun _ _ ⟨h, hg⟩ => by
    rcases h with ⟨_, he⟩ | ⟨o, g8, c8, h2, _⟩
    ·exact ⟨he, hg⟩
    rw [← asgF_D, hV] at h2; cases h2)) ?_
   refine sg_ rfl (nn_ (sr_ (mv_ rfl ?_)))
   refine wl_ov (ov_bin (v := .bool false) rfl rfl (fun _ => rfl)) rfl ?_
   refine nn_ (cf_ rfl (gw_skip (nx_blk_nrm (nx_then (gw_region (ad_ rfl rfl (mv_ rfl (wl_nil ?_))))))))
   exact nx_round (i + 1) ⟨by omega, fun k hk => by
    by_cases e : k = i
    ·rw [e]; exact hV
    exact hno k (by omega)⟩ (by omega) ⟨rfl, rfl, (some_int (by omega)), trivial⟩ (fun _ hm => hm.pick [0, 1, 2, 3] [] [0, 1, 2] rfl rfl)
  refine wl_callgo (γ := Nat × Nat) (val := (fun g => .slice (some ⟨g.1, 0, none⟩) n g.2)) (φ := (fun g => True)) (fun g => ⟨.slice (some ⟨g.1, 0, none⟩) n g.2, 90, 3, n, (gvO l o).flatMap gvEnc⟩) rfl cb126 rfl rfl (fun wx hm => (fl_all cs A0 n0 c0 sl A1 n1 c1 l A n c g3 g1 g2 g4 hco hn0 hcl hlo hso hn1 hmany hix htm hn n 0 (by omega) [] i none 0 wx rfl (by omega) (fun _ => ⟨rfl, rfl⟩) (hm.fact 0 rfl).1 (hm.fact 1 rfl).1 (hm.fact 2 rfl).1 (hm.blkI 1 rfl) (hm.blkI 3 rfl) (hm.blkI 2 rfl) (hm.blkI 0 rfl) (by rw [gvO_nil]; exact SlT.nil_ _ _)).mono fun _ _ ⟨h, hg⟩ => by
   rcases h with ⟨h2, _⟩ | ⟨o, g8, c8, h2, he, ho⟩
   ·rw [← asgF_D, hV] at h2; cases h2
   rw [← asgF_D, hV] at h2; cases h2; exact ⟨(g8, c8), he, trivial, ho, hg⟩) ?_
  rintro ⟨g8, c8⟩ hphi
  dsimp only at hphi ⊢
  refine sg_ rfl (nn_ (sr_ (mv_ rfl ?_)))
  refine wl_ov (ov_bin (v := .bool true) rfl rfl (fun _ => rfl)) rfl ?_
  refine nn_ (ct_ rfl (sr_ (mv_ rfl (sg_ rfl (sg_ rfl (nn_ ?_))))))
  refine gw_ret ?_
  refine nx_blk_ret (nx_then_ret (nx_then_ret (nx_blk_ret (nx_then_ret ?_))))
  have hao : asgO cs sl l = some o := range_find hno hV (by rw [hlen, hlen0]; omega)
  have hol : (gvO l o).length = n := by rw [gvO_len (by rw [asgO_len hao]; exact Nat.le_refl _), asgO_len hao]; exact hlen
  refine nx_ret2 rfl rfl rfl fun wx hm => ?_
  exact ⟨.inr ⟨o, _, c8, hao, rfl, SlT.ofOwn gv_len (hm.ownI 0 rfl) hol⟩, hm.g⟩
 have hi : ¬ (((i : Nat) : Int) < ((n * n0 + 1 : Nat) : Int)) := by simpa using hh
 clear hh
 refine gw_exit ?_
 refine nx_then_exit (nx_then_exit ?_)
 refine nx_blk_here ?_
 refine nx_then (sr_ (sg_ rfl (sg_ rfl (nn_ ?_))))
 refine gw_ret ?_
 have hao : asgO cs sl l = none := fs_none fun k hk => hno k (by have := List.mem_range.1 hk; rw [hlen, hlen0] at this; omega)
 refine nx_ret2 rfl rfl rfl fun wx hm => ?_
 exact ⟨.inl ⟨hao, rfl⟩, hm.g⟩
end Go.Proofs.YtempjmpfdniecaaGreatDoor
namespace Go.Proofs.YtempjmpfdniecaaGreatDoor
open Go.RowKit
theorem firstE_cons0 {a : Int} {r : List Int} (h : firstE (a :: r) = 0) : a = 0 ∧ firstE r = 0 := by
  unfold firstE at h
  split at h
  · exact ⟨‹_›, h⟩
  · exact absurd h ‹_›
theorem whenE_no {b : Bool} {e : Int} (h : whenE b e = 0) (he : e ≠ 0) : b = false := by
  cases b
  · rfl
  · exact absurd h he
theorem newE_ok {cs : List Cs} {l : List Bk} {b : Bk} (h : newE cs l b = 0) : classedE cs [b] = 0 ∧ hasB l b.key = false ∧ l.length ≤ 6 := by
  obtain ⟨h1, h⟩ := firstE_cons0 h
  obtain ⟨h2, h⟩ := firstE_cons0 h
  obtain ⟨h3, _⟩ := firstE_cons0 h
  have h4 := of_decide_eq_false (whenE_no h3 (by decide))
  exact ⟨h1, whenE_no h2 (by decide), by omega⟩
/-- The error of Can. -/
def canE (cs : List Cs) (sl : List Sk) (l : List Bk) (b : Bk) : Int := if firstE [stockE cs sl, checkE cs l] = 0 then newE cs l b else firstE [stockE cs sl, checkE cs l]
/-- It can be added. -/
def canB (cs : List Cs) (sl : List Sk) (l : List Bk) (b : Bk) : Bool := (asgO cs sl (withB l b)).isSome
theorem canE_ok {cs : List Cs} {sl : List Sk} {l : List Bk} {b : Bk} (h : canE cs sl l b = 0) : firstE [stockE cs sl, checkE cs l] = 0 ∧ newE cs l b = 0 := by
  unfold canE at h
  split at h
  · exact ⟨‹_›, h⟩
  · exact absurd h ‹_›
/-- What a right booking has. -/
theorem oneB_has {cs : List Cs} {sl : List Sk} {l : List Bk} {b : Bk} (h0 : firstE [stockE cs sl, checkE cs l] = 0) (h1 : classedE cs [b] = 0) : keysE cs [b.cls] = 0 ∧ (0 ≤ b.fr ∧ b.fr < b.to_ ∧ b.to_ ≤ 5761439) := by
  obtain ⟨hs, hc⟩ := firstE_two h0
  obtain ⟨hc0, _⟩ := firstE_two hc
  have h2 : firstE [stockE cs sl, checkE cs [b]] = 0 := by
    unfold checkE
    rw [hs, hc0, h1]; rfl
  obtain ⟨_, _, hk, ht, _⟩ := right_has h2
  exact ⟨hk b (List.mem_singleton.2 rfl), ht b (List.mem_singleton.2 rfl)⟩
theorem with_has {cs : List Cs} {sl : List Sk} {l : List Bk} {b : Bk} (h0 : firstE [stockE cs sl, checkE cs l] = 0) (hk : keysE cs [b.cls] = 0) (ht : 0 ≤ b.fr ∧ b.fr < b.to_ ∧ b.to_ ≤ 5761439) : (∀ x ∈ withB l b, keysE cs [x.cls] = 0) ∧ BkTim (withB l b) := by
  obtain ⟨_, _, h2, h3, _⟩ := right_has h0
  refine ⟨fun x hx => ?_, fun x hx => ?_⟩
  · rcases withB_mem.1 hx with hx | rfl
    · exact h2 x hx
    · exact hk
  · rcases withB_mem.1 hx with hx | rfl
    · exact h3 x hx
    · exact ht
theorem can_any (cs : List Cs) (A0 : Option Addr) (n0 c0 : Nat) (sl : List Sk) (A1 : Option Addr) (n1 c1 : Nat) (l : List Bk) (A : Option Addr) (n c : Nat) (x0 x1 : ByteArray) (x2 x3 x4 x5 : Int) (w : World) (hcs : SlT csEnc 2 158 w A0 n0 cs) (hco : ∀ x ∈ cs, CsOk x) (hn0 : n0 ≤ 1000) (hs : SlT skEnc 2 211 w A1 n1 sl) (hso : ∀ x ∈ sl, SkOk x) (hn1 : n1 ≤ 1000) (hl : SlT bkEnc 6 92 w A n l) (hok : ∀ x ∈ l, BkOk x) (hn : n ≤ 1000) (hbo : BkOk (⟨x0, x1, x2, x3, x4, x5⟩ : Bk)) :
  Calls Tryz.prog 43 #[.slice A0 n0 c0, .slice A1 n1 c1, .slice A n c, .agg #[.string x0, .string x1, .int .i64 x2, .int .i64 x3, .int .i64 x4, .int .i64 x5]] w (fun e w' => e = .returned (.tuple #[.bool (if canE cs sl l (⟨x0, x1, x2, x3, x4, x5⟩ : Bk) = 0 then canB cs sl l (⟨x0, x1, x2, x3, x4, x5⟩ : Bk) else false), .int .i64 (canE cs sl l (⟨x0, x1, x2, x3, x4, x5⟩ : Bk))]) ∧ w.grownBy w' none) := by
 refine gw_enter ⟨26, w, none, [92]⟩ Tryz.func43 rfl Tryz.ntmps43 rfl (mem0 (X := [SlOld csEnc 2 158 w.heap.size none A0 n0 cs, SlOld skEnc 2 211 w.heap.size none A1 n1 sl, SlOld bkEnc 6 92 w.heap.size none A n l]) (allF_cons hcs.old (allF_cons hs.old (allF_cons hl.old allF_nil))) (allL_cons SlOld.lasts (allL_cons SlOld.lasts (allL_cons SlOld.lasts allL_nil)))) ?_
 refine sr_ ?_
 have hlen := hl.len
 obtain ⟨CE, hCE⟩ : ∃ z, z = canE cs sl l (⟨x0, x1, x2, x3, x4, x5⟩ : Bk) := ⟨_, rfl⟩
 obtain ⟨CB, hCB⟩ : ∃ z, z = canB cs sl l (⟨x0, x1, x2, x3, x4, x5⟩ : Bk) := ⟨_, rfl⟩
 rw [← hCE, ← hCB]
 refine wl_box rfl rfl rfl fun g1 => ?_
 refine sg_ rfl (sg_ rfl (nn_ (gw_seq (sr_ (mv_ rfl (mv_ rfl (mv_ rfl ?_)))))))
 refine wl_ov (ov_loads rz92 rfl (fun _ hm => hm.blkI 0 rfl) rfl rfl) rfl ?_
 refine wl_callv (v := .int .i64 CE) rfl cb133 rfl rfl (fun wx hm => (by rw [hCE]; exact checkNew_any cs A0 n0 c0 sl A1 n1 c1 l A n c x0 x1 x2 x3 x4 x5 wx (hm.fact 0 rfl).1 hco hn0 (hm.fact 1 rfl).1 hso hn1 (hm.fact 2 rfl).1 hok hn hbo)) ?_
 refine sg_ rfl (nn_ (sr_ (mv_ rfl (wl_ov (ov_neq rfl rfl) rfl (nn_ ?_)))))
 refine gw_cond rfl (fun hh => ?_) (fun hh => ?_)
 ·have h1 : ¬ (CE = 0) := by simpa using hh
  clear hh
  refine sr_ (mv_ rfl (sg_ rfl (sg_ rfl (nn_ ?_))))
  refine gw_ret ?_
  refine nx_then_ret ?_
  refine nx_ret2 rfl rfl rfl fun wx hm => ?_
  exact ⟨by rw [if_neg (by simpa using h1)], hm.g⟩
 have h1 : CE = 0 := by simpa using hh
 clear hh
 refine gw_skip (nx_then (sr_ ?_))
 have h1 : CE = 0 := by simpa using h1
 obtain ⟨hz0, hz1⟩ := canE_ok (hCE.symm.trans h1)
 obtain ⟨hz2, _, hz6⟩ := newE_ok hz1
 obtain ⟨hzk, hzt⟩ := oneB_has hz0 hz2
 obtain ⟨hkw, htw⟩ := with_has hz0 hzk hzt
 obtain ⟨⟨h30, hcl, hlo⟩, hmany, _, _, _⟩ := right_has hz0
 rw [if_pos h1]
 refine mv_ rfl (mv_ rfl (mv_ rfl ?_))
 refine wl_ov (ov_loads rz92 rfl (fun _ hm => hm.blkI 0 rfl) rfl rfl) rfl ?_
 refine wl_callx (γ := Option Addr × Nat) (val := (fun g => .slice g.1 (n + 1) g.2)) (φ := (fun g => True)) (Y := (fun g => fun wy => SlT bkEnc 6 92 wy g.1 (n + 1) (withB l (⟨x0, x1, x2, x3, x4, x5⟩ : Bk)))) rfl cb135 rfl rfl (fun wx hm => (with_ky l A n c x0 x1 x2 x3 x4 x5 wx (hm.fact 2 rfl).1 (by omega)).mono fun _ _ ⟨A2, c2, he, hs, hg⟩ => ⟨(A2, c2), he, trivial, hg, hs⟩) (fun _ => SlT.lasts2 rfl) ?_
 rintro ⟨A2, c2⟩ hphi
 dsimp only
 clear hphi
 refine wl_callx (γ := Int) (val := (fun g => .int .i64 g)) (φ := (fun g => FwOk cs sl (withB l (⟨x0, x1, x2, x3, x4, x5⟩ : Bk)) g)) (Y := (fun g => fun _ => True)) rfl cb134 rfl rfl (fun wx hm => (fewest_any cs A0 n0 c0 sl A1 n1 c1 (withB l (⟨x0, x1, x2, x3, x4, x5⟩ : Bk)) A2 (n + 1) c2 wx (hm.fact 1 rfl).1 hco hn0 (hm.fact 2 rfl).1 hso hn1 (hm.fact 0 rfl) (by omega) hcl hlo h30 hkw htw).mono fun _ _ ⟨v, he, hf, hg⟩ => ⟨v, he, hf, hg, trivial⟩) (fun _ => Lasts2.true_) ?_
 rintro v hfw
 have hcan := fw_iff hfw
 refine wl_ov (ov_geq rfl rfl) rfl ?_
 refine sg_ rfl (sg_ rfl (nn_ ?_))
 refine gw_ret ?_
 refine nx_ret2 rfl rfl rfl fun wx hm => ?_
 exact ⟨by rw [hcan, h1, hCB]; rfl, hm.g⟩
theorem canOf_any (cs : List Cs) (A0 : Option Addr) (n0 c0 : Nat) (sl : List Sk) (A1 : Option Addr) (n1 c1 : Nat) (l : List Bk) (A : Option Addr) (n c : Nat) (x0 x1 : ByteArray) (x2 x3 x4 x5 : Int) (w : World) (hcs : SlT csEnc 2 158 w A0 n0 cs) (hco : ∀ x ∈ cs, CsOk x) (hn0 : n0 ≤ 30) (hcl : Closed cs) (hlo : loopB cs cs.length = false) (hs : SlT skEnc 2 211 w A1 n1 sl) (hso : ∀ x ∈ sl, SkOk x) (hn1 : n1 ≤ 1000) (hmany : ∀ k, manyV sl k ≤ 100) (hl : SlT bkEnc 6 92 w A n l) (hn : n ≤ 11) (hkw : ∀ x ∈ (withB l (⟨x0, x1, x2, x3, x4, x5⟩ : Bk)), keysE cs [x.cls] = 0) (htw : BkTim (withB l (⟨x0, x1, x2, x3, x4, x5⟩ : Bk))) :
  Calls Tryz.prog 46 #[.slice A0 n0 c0, .slice A1 n1 c1, .slice A n c, .agg #[.string x0, .string x1, .int .i64 x2, .int .i64 x3, .int .i64 x4, .int .i64 x5]] w (fun e w' => e = .returned (.bool (canB cs sl l (⟨x0, x1, x2, x3, x4, x5⟩ : Bk))) ∧ w.grownBy w' none) := by
 refine gw_enter ⟨21, w, none, [92]⟩ Tryz.func46 rfl Tryz.ntmps46 rfl (mem0 (X := [SlOld csEnc 2 158 w.heap.size none A0 n0 cs, SlOld skEnc 2 211 w.heap.size none A1 n1 sl, SlOld bkEnc 6 92 w.heap.size none A n l]) (allF_cons hcs.old (allF_cons hs.old (allF_cons hl.old allF_nil))) (allL_cons SlOld.lasts (allL_cons SlOld.lasts (allL_cons SlOld.lasts allL_nil)))) ?_
 refine sr_ ?_
 have hlen := hl.len
 refine wl_box rfl rfl rfl fun g1 => ?_
 refine sg_ rfl (nn_ (sr_ (mv_ rfl (mv_ rfl (mv_ rfl ?_)))))
 refine wl_ov (ov_loads rz92 rfl (fun _ hm => hm.blkI 0 rfl) rfl rfl) rfl ?_
 refine wl_callx (γ := Option Addr × Nat) (val := (fun g => .slice g.1 (n + 1) g.2)) (φ := (fun g => True)) (Y := (fun g => fun wy => SlT bkEnc 6 92 wy g.1 (n + 1) (withB l (⟨x0, x1, x2, x3, x4, x5⟩ : Bk)))) rfl cb140 rfl rfl (fun wx hm => (with_kz l A n c x0 x1 x2 x3 x4 x5 wx (hm.fact 2 rfl).1 hn).mono fun _ _ ⟨A2, c2, he, hs, hg⟩ => ⟨(A2, c2), he, trivial, hg, hs⟩) (fun _ => SlT.lasts2 rfl) ?_
 rintro ⟨A2, c2⟩ hphi
 dsimp only
 clear hphi
 refine wl_callx (γ := Option Addr × Nat × Nat × Bool) (val := (fun g => .tuple #[.slice g.1 g.2.1 g.2.2.1, .bool g.2.2.2])) (φ := (fun g => g.2.2.2 = canB cs sl l (⟨x0, x1, x2, x3, x4, x5⟩ : Bk))) (Y := (fun g => fun _ => True)) rfl cb39 rfl rfl (fun wx hm => (assignOf_any cs A0 n0 c0 sl A1 n1 c1 (withB l (⟨x0, x1, x2, x3, x4, x5⟩ : Bk)) A2 (n + 1) c2 wx (hm.fact 1 rfl).1 hco hn0 hcl hlo (hm.fact 2 rfl).1 hso hn1 hmany (hm.fact 0 rfl) (keys_ix hkw) htw (by omega)).mono fun _ _ ⟨h, hg⟩ => by
  rcases h with ⟨ha, he⟩ | ⟨o, A3, c3, ha, he, _⟩
  ·exact ⟨(none, 0, 0, false), he, (by unfold canB; rw [ha]; rfl), hg, trivial⟩
  exact ⟨(A3, n + 1, c3, true), he, (by unfold canB; rw [ha]; rfl), hg, trivial⟩) (fun _ => Lasts2.true_) ?_
 rintro ⟨A3, n3, c3, bb⟩ hbb
 dsimp only at hbb ⊢
 refine mv_ rfl (wl_ov (ov_extract rfl rfl) rfl (wl_ov (ov_extract rfl rfl) rfl (sg_ rfl (sg_ rfl (nn_ (sr_ (mv_ rfl (sg_ rfl (nn_ ?_)))))))))
 refine gw_ret ?_
 refine nx_ret1 rfl rfl fun wx hm => ?_
 exact ⟨by rw [hbb], hm.g⟩
theorem pred_canf (y0 y1 : ByteArray) (y2 y3 y4 y5 : Int) (x0 x1 : ByteArray) (x2 x3 x4 x5 : Int) (gk : Nat) (w : World) (hk : Blk w gk 92 [.string x0, .string x1, .int .i64 x2, .int .i64 x3, .int .i64 x4, .int .i64 x5]) :
  Calls Tryz.prog 139 #[.agg #[.string y0, .string y1, .int .i64 y2, .int .i64 y3, .int .i64 y4, .int .i64 y5], .pointer (some ⟨gk, 0, none⟩)] w (fun e w' => e = .returned (.bool (kyP x0 ⟨y0, y1, y2, y3, y4, y5⟩)) ∧ w.grownBy w' none) := by
 refine gw_enter ⟨9, w, none, []⟩ Tryz.func139 rfl Tryz.ntmps139 rfl (mem0 (X := [BlkOld w.heap.size none gk 92 [.string x0, .string x1, .int .i64 x2, .int .i64 x3, .int .i64 x4, .int .i64 x5]]) (allF_cons hk.old allF_nil) (allL_cons BlkOld.lasts allL_nil)) ?_
 refine sr_ ?_
 refine wl_box rfl rfl rfl fun g1 => ?_
 refine sg_ rfl (nn_ (sr_ (fd_ fo92_0 rfl rfl (lk_ sc9 0 rfl rfl rfl (fd_ fo92_0 rfl rfl ?_)))))
 refine wl_ov (ov_load (v := .string x0) sc9 rfl (fun _ hm => (hm.fact 0 rfl).2) rfl) rfl ?_
 refine wl_ov (ov_seql rfl rfl) rfl (sg_ rfl (nn_ ?_))
 refine gw_ret ?_
 refine nx_ret1 rfl rfl fun wx hm => ?_
 exact ⟨rfl, hm.g⟩
theorem index_canf (l : List Bk) (A : Option Addr) (n c : Nat) (x0 x1 : ByteArray) (x2 x3 x4 x5 : Int) (gk : Nat) (w : World) (hl : SlT bkEnc 6 92 w A n l) (hn : n ≤ 1000000) (hk : Blk w gk 92 [.string x0, .string x1, .int .i64 x2, .int .i64 x3, .int .i64 x4, .int .i64 x5]) :
  Calls Tryz.prog 151 #[.slice A n c, .func (.func 139) #[] #[.pointer (some ⟨gk, 0, none⟩)]] w (GotE w (ixP (kyP x0) l 0)) := by
 refine gw_enter ⟨19, w, none, []⟩ Tryz.func151 rfl Tryz.ntmps151 rfl (mem0 (X := [SlOld bkEnc 6 92 w.heap.size none A n l, BlkOld w.heap.size none gk 92 [.string x0, .string x1, .int .i64 x2, .int .i64 x3, .int .i64 x4, .int .i64 x5]]) (allF_cons hl.old (allF_cons hk.old allF_nil)) (allL_cons SlOld.lasts (allL_cons BlkOld.lasts allL_nil))) ?_
 refine sr_ ?_
 have hlen := hl.len
 refine sg_ rfl (nn_ (gw_seq (sr_ (mv_ rfl (wl_ov (ov_len es76 rfl) rfl (mv_ rfl (nn_ (gw_block ?_))))))))
 refine gw_loop (γ := Nat) (fun (i : Nat) => i ≤ n ∧ ixP (kyP x0) l 0 = ixP (kyP x0) (l.drop i) i) (fun (i : Nat) => [(0, .slice A n c), (1, .func (.func 139) #[] #[.pointer (some ⟨gk, 0, none⟩)]), (7, .int .i64 ((n : Nat) : Int)), (8, .int .i64 ((i : Nat) : Int))]) (fun (i : Nat) => fun _ => True) (fun (i : Nat) => []) (fun (i : Nat) => []) (fun (i : Nat) => [SlOld bkEnc 6 92 w.heap.size none A n l, BlkOld w.heap.size none gk 92 [.string x0, .string x1, .int .i64 x2, .int .i64 x3, .int .i64 x4, .int .i64 x5]]) (fun (i : Nat) => n - i) 0 ⟨Nat.zero_le _, rfl⟩ ⟨rfl, rfl, rfl, rfl, trivial⟩ (fun _ hm => hm.pick [] [] [0, 1] rfl rfl) ?_
 intro i hinv
 replace hinv : i ≤ n ∧ ixP (kyP x0) l 0 = ixP (kyP x0) (l.drop i) i := hinv
 refine sr_ (wl_ov (ov_lss rfl rfl) rfl (nn_ (gw_seq ?_)))
 refine gw_cond rfl (fun hh => ?_) (fun hh => ?_)
 ·have hi : ((i : Nat) : Int) < ((n : Nat) : Int) := by simpa using hh
  clear hh
  refine gw_skip (nx_then (gw_seq (gw_block (sr_ ?_))))
  obtain ⟨b, off, hA, _, _⟩ := hl.get (by omega)
  subst hA
  obtain ⟨x, hx⟩ : ∃ x, l[i]? = some x := ⟨_, List.getElem?_eq_getElem (by omega)⟩
  obtain ⟨y0, y1, y2, y3, y4, y5⟩ := x
  have hat := ixP_at (p := kyP x0) hx
  refine mv_ rfl (sg_ rfl (nn_ (sr_ (mv_ rfl (mv_ rfl (mv_ rfl ?_))))))
  refine wl_ov (ov_index (j := i) es76 rfl rfl (by omega)) rfl ?_
  refine wl_ov (ov_elem (vs := [.string y0, .string y1, .int .i64 y2, .int .i64 y3, .int .i64 y4, .int .i64 y5]) rz92 rfl (fun _ hm => (hm.fact 0 rfl).1) hx rfl rfl) rfl ?_
  refine wl_callv rfl cb139 rfl rfl (fun wx hm => (pred_canf y0 y1 y2 y3 y4 y5 x0 x1 x2 x3 x4 x5 gk wx (hm.fact 1 rfl).2)) ?_
  refine nn_ ?_
  refine gw_cond rfl (fun hh => ?_) (fun hh => ?_)
  ·have hq : (kyP x0 ⟨y0, y1, y2, y3, y4, y5⟩) = true := by simpa using hh
   clear hh
   refine sr_ (mv_ rfl (sg_ rfl (nn_ ?_)))
   refine gw_ret ?_
   refine nx_blk_ret (nx_then_ret (nx_then_ret (nx_blk_ret (nx_then_ret ?_))))
   refine nx_ret1 rfl rfl fun wx hm => ?_
   exact ⟨ret_int (by rw [hinv.2, hat, if_pos hq]), hm.g⟩
  have hq : (kyP x0 ⟨y0, y1, y2, y3, y4, y5⟩) = false := by simpa using hh
  clear hh
  refine gw_skip (nx_blk_nrm (nx_then (gw_region (ad_ rfl rfl (mv_ rfl (wl_nil ?_))))))
  exact nx_round (i + 1) ⟨by omega, by rw [hinv.2, hat, if_neg (by rw [hq]; decide)]⟩ (by omega) ⟨rfl, rfl, rfl, (some_int (by omega)), trivial⟩ (fun _ hm => hm.pick [] [] [0, 1] rfl rfl)
 have hi : ¬ (((i : Nat) : Int) < ((n : Nat) : Int)) := by simpa using hh
 clear hh
 refine gw_exit ?_
 refine nx_then_exit (nx_then_exit ?_)
 refine nx_blk_here ?_
 refine nx_then (sr_ (sg_ rfl ?_))
 refine wl_set 4 (v' := .int .i64 (-1)) rfl rfl ?_
 refine nn_ ?_
 refine gw_ret ?_
 refine nx_ret1 rfl rfl fun wx hm => ?_
 exact ⟨ret_int (by rw [hinv.2, List.drop_eq_nil_of_le (by omega)]; rfl), hm.g⟩
theorem hasF_any (l : List Bk) (A : Option Addr) (n c : Nat) (x0 x1 : ByteArray) (x2 x3 x4 x5 : Int) (gk : Nat) (w : World) (hl : SlT bkEnc 6 92 w A n l) (hn : n ≤ 1000000) (hk : Blk w gk 92 [.string x0, .string x1, .int .i64 x2, .int .i64 x3, .int .i64 x4, .int .i64 x5]) :
  Calls Tryz.prog 52 #[.slice A n c, .func (.func 139) #[] #[.pointer (some ⟨gk, 0, none⟩)]] w (fun e w' => e = .returned (.bool (hasB l x0)) ∧ w.grownBy w' none) := by
 refine gw_enter ⟨9, w, none, []⟩ Tryz.func52 rfl Tryz.ntmps52 rfl (mem0 (X := [SlOld bkEnc 6 92 w.heap.size none A n l, BlkOld w.heap.size none gk 92 [.string x0, .string x1, .int .i64 x2, .int .i64 x3, .int .i64 x4, .int .i64 x5]]) (allF_cons hl.old (allF_cons hk.old allF_nil)) (allL_cons SlOld.lasts (allL_cons BlkOld.lasts allL_nil))) ?_
 refine sr_ (sg_ rfl (nn_ (sr_ (mv_ rfl (mv_ rfl ?_)))))
 refine wl_callv rfl cb151 rfl rfl (fun wx hm => (index_canf l A n c x0 x1 x2 x3 x4 x5 gk wx (hm.fact 0 rfl).1 hn (hm.fact 1 rfl).2)) ?_
 refine wl_ov (ov_geq rfl rfl) rfl ?_
 refine sg_ rfl (nn_ ?_)
 refine gw_ret ?_
 refine nx_ret1 rfl rfl fun wx hm => ?_
 exact ⟨rfl, hm.g⟩
theorem canFault_any (cs : List Cs) (A0 : Option Addr) (n0 c0 : Nat) (l : List Bk) (A : Option Addr) (n c : Nat) (x0 x1 : ByteArray) (x2 x3 x4 x5 : Int) (w : World) (hcs : SlT csEnc 2 158 w A0 n0 cs) (hco : ∀ x ∈ cs, CsOk x) (hn0 : n0 ≤ 1000) (hl : SlT bkEnc 6 92 w A n l) (_hok : ∀ x ∈ l, BkOk x) (hn : n ≤ 1000) (hbo : BkOk (⟨x0, x1, x2, x3, x4, x5⟩ : Bk)) :
  Calls Tryz.prog 45 #[.slice A0 n0 c0, .slice A n c, .agg #[.string x0, .string x1, .int .i64 x2, .int .i64 x3, .int .i64 x4, .int .i64 x5]] w (GotE w (newE cs l (⟨x0, x1, x2, x3, x4, x5⟩ : Bk))) := by
 refine gw_enter ⟨29, w, none, []⟩ Tryz.func45 rfl Tryz.ntmps45 rfl (mem0 (X := [SlOld csEnc 2 158 w.heap.size none A0 n0 cs, SlOld bkEnc 6 92 w.heap.size none A n l]) (allF_cons hcs.old (allF_cons hl.old allF_nil)) (allL_cons SlOld.lasts (allL_cons SlOld.lasts allL_nil))) ?_
 refine sr_ ?_
 have hlen := hl.len
 obtain ⟨FE, hFE⟩ : ∃ z, z = formE [(⟨x0, x1, x2, x3, x4, x5⟩ : Bk)] := ⟨_, rfl⟩
 obtain ⟨KE, hKE⟩ : ∃ z, z = (if [(⟨x0, x1, x2, x3, x4, x5⟩ : Bk)].any (fun b => noB cs b.cls) = true then (8 : Int) else 0) := ⟨_, rfl⟩
 have hK8 : KE = 8 ∨ KE = 0 := by rw [hKE]; split <;> simp
 obtain ⟨HB, hHB⟩ : ∃ z, z = hasB l x0 := ⟨_, rfl⟩
 have hnew : newE cs l (⟨x0, x1, x2, x3, x4, x5⟩ : Bk) = firstE [if FE ≠ 0 then FE else KE, whenE HB 6, whenE (decide (7 ≤ ((n : Nat) : Int))) 2] := by rw [hFE, hKE, hHB, ← hlen]; rfl
 rw [hnew]
 refine wl_box rfl rfl rfl fun g1 => ?_
 refine sg_ rfl (nn_ (gw_seq (sr_ ?_)))
 refine wl_ov (ov_loads rz92 rfl (fun _ hm => hm.blkI 0 rfl) rfl rfl) rfl ?_
 refine wl_buildSlice (e := 92) (cs := [.string x0, .string x1, .int .i64 x2, .int .i64 x3, .int .i64 x4, .int .i64 x5]) rfl (by kernel_rfl) rfl fun g2 => ?_
 refine sg_ rfl (nn_ (gw_block (sr_ (mv_ rfl ?_))))
 refine wl_callv (v := .int .i64 FE) rfl cb137 rfl rfl (fun wx hm => (by rw [hFE]; exact bookingForm_any [(⟨x0, x1, x2, x3, x4, x5⟩ : Bk)] _ 1 1 wx (SlT.ofBlk (l := [(⟨x0, x1, x2, x3, x4, x5⟩ : Bk)]) bk_len (hm.blkI 0 rfl)) (oneB_ok hbo) (by omega))) ?_
 refine wl_ov (ov_neq rfl rfl) rfl (sg_ rfl (nn_ ?_))
 refine gw_cond rfl (fun hh => ?_) (fun hh => ?_)
 ·have h1 : ¬ (FE = 0) := by simpa using hh
  clear hh
  refine sr_ ?_
  have h1 : FE ≠ 0 := by simpa using h1
  refine mv_ rfl ?_
  refine wl_callv (v := .int .i64 FE) rfl cb137 rfl rfl (fun wx hm => (by rw [hFE]; exact bookingForm_any [(⟨x0, x1, x2, x3, x4, x5⟩ : Bk)] _ 1 1 wx (SlT.ofBlk (l := [(⟨x0, x1, x2, x3, x4, x5⟩ : Bk)]) bk_len (hm.blkI 0 rfl)) (oneB_ok hbo) (by omega))) ?_
  refine sg_ rfl (nn_ ?_)
  refine gw_ret ?_
  refine nx_blk_ret (nx_then_ret ?_)
  refine nx_ret1 rfl rfl fun wx hm => ?_
  exact ⟨ret_int (by rw [if_pos h1]; unfold firstE; rw [if_neg h1]), hm.g⟩
 have h1 : FE = 0 := by simpa using hh
 clear hh
 refine sr_ ?_
 have h1 : FE = 0 := by simpa using h1
 rw [if_neg (by simp [h1])]
 refine mv_ rfl (mv_ rfl ?_)
 refine wl_callv (v := .int .i64 KE) rfl cb138 rfl rfl (fun wx hm => (by rw [hKE]; exact known_any cs A0 n0 c0 [(⟨x0, x1, x2, x3, x4, x5⟩ : Bk)] _ 1 1 wx (hm.fact 0 rfl).1 hco hn0 (SlT.ofBlk (l := [(⟨x0, x1, x2, x3, x4, x5⟩ : Bk)]) bk_len (hm.blkI 0 rfl)) (oneB_ok hbo) (by omega))) ?_
 refine wl_ov (ov_neq rfl rfl) rfl (sg_ rfl (nn_ ?_))
 refine gw_cond rfl (fun hh => ?_) (fun hh => ?_)
 ·have h2 : ¬ (KE = 0) := by simpa using hh
  clear hh
  refine sr_ ?_
  have h2 : KE ≠ 0 := by simpa using h2
  have h2 : KE = 8 := hK8.resolve_right h2
  refine sg_ rfl (nn_ ?_)
  refine gw_ret ?_
  refine nx_blk_ret (nx_then_ret ?_)
  refine nx_ret1 rfl rfl fun wx hm => ?_
  exact ⟨ret_int (by rw [h2]; rfl), hm.g⟩
 have h2 : KE = 0 := by simpa using hh
 clear hh
 refine sr_ ?_
 have h2 : KE = 0 := by simpa using h2
 refine mv_ rfl (wl_ov (ov_makeFunc rfl rfl) rfl ?_)
 refine wl_callv (v := .bool HB) rfl cb52 rfl rfl (fun wx hm => (by rw [hHB]; exact hasF_any l A n c x0 x1 x2 x3 x4 x5 _ wx (hm.fact 1 rfl).1 (by omega) (hm.blkI 1 rfl))) ?_
 refine sg_ rfl (nn_ ?_)
 refine gw_cond rfl (fun hh => ?_) (fun hh => ?_)
 ·have h3 : HB = true := by simpa using hh
  clear hh
  refine sr_ (sg_ rfl (nn_ ?_))
  refine gw_ret ?_
  refine nx_blk_ret (nx_then_ret ?_)
  refine nx_ret1 rfl rfl fun wx hm => ?_
  exact ⟨ret_int (by rw [h2, h3]; rfl), hm.g⟩
 have h3 : HB = false := by simpa using hh
 clear hh
 refine sr_ (mv_ rfl (wl_ov (ov_len es76 rfl) rfl ?_))
 refine wl_ov (ov_geq rfl rfl) rfl ?_
 refine sg_ rfl (nn_ ?_)
 refine gw_cond rfl (fun hh => ?_) (fun hh => ?_)
 ·have h4 : 7 ≤ ((n : Nat) : Int) := by simpa using hh
  clear hh
  refine sr_ (sg_ rfl (nn_ ?_))
  refine gw_ret ?_
  refine nx_blk_ret (nx_then_ret ?_)
  refine nx_ret1 rfl rfl fun wx hm => ?_
  exact ⟨ret_int (by rw [h2, h3, decide_eq_true (by omega)]; rfl), hm.g⟩
 have h4 : ¬ (7 ≤ ((n : Nat) : Int)) := by simpa using hh
 clear hh
 refine gw_skip (nx_blk_nrm (nx_then (sr_ (sg_ rfl (nn_ ?_)))))
 refine gw_ret ?_
 refine nx_ret1 rfl rfl fun wx hm => ?_
 exact ⟨ret_int (by rw [h2, h3, decide_eq_false (by omega)]; rfl), hm.g⟩
end Go.Proofs.YtempjmpfdniecaaGreatDoor
namespace Go.Proofs.YtempjmpfdniecaaGreatDoor
theorem find_srt {p : Int → Bool} : ∀ {a : List Int}, a.Pairwise (fun x y => x ≤ y) → ∀ {m : Int}, a.find? p = some m → m ∈ a ∧ p m = true ∧ ∀ x ∈ a, p x = true → m ≤ x
  | [], _, _, h => by cases h
  | y :: a, hs, m, h => by
    rw [List.pairwise_cons] at hs
    cases hy : p y with
    | true =>
      rw [List.find?_cons_of_pos hy] at h
      cases h
      refine ⟨List.mem_cons_self .., hy, fun x hx _ => ?_⟩
      rcases List.mem_cons.1 hx with rfl | hx
      · exact Int.le_refl _
      · exact hs.1 x hx
    | false =>
      rw [List.find?_cons_of_neg (by rw [hy]; decide)] at h
      obtain ⟨h1, h2, h3⟩ := find_srt hs.2 h
      refine ⟨List.mem_cons_of_mem _ h1, h2, fun x hx hp => ?_⟩
      rcases List.mem_cons.1 hx with rfl | hx
      · rw [hp] at hy; cases hy
      · exact h3 x hx hp
/-- Two sorted lists with the same such numbers have the same first one. -/
theorem find_same {p : Int → Bool} {a b : List Int} (ha : a.Pairwise (fun x y => x ≤ y)) (hb : b.Pairwise (fun x y => x ≤ y)) (h : ∀ x, p x = true → (x ∈ a ↔ x ∈ b)) : a.find? p = b.find? p := by
  cases h1 : a.find? p with
  | none =>
    refine (List.find?_eq_none.2 fun x hx hp => ?_).symm
    exact List.find?_eq_none.1 h1 x ((h x hp).2 hx) hp
  | some m =>
    obtain ⟨k1, k2, k3⟩ := find_srt ha h1
    cases h2 : b.find? p with
    | none => exact absurd k2 (List.find?_eq_none.1 h2 m ((h m k2).1 k1))
    | some n =>
      obtain ⟨j1, j2, j3⟩ := find_srt hb h2
      have e1 := k3 n ((h n j2).2 j1) j2
      have e2 := j3 m ((h m k2).1 k1) k2
      rw [show m = n by omega]
/-- A conjunct that the list's numbers meet anyway may be left out. -/
theorem find_filter {p q : Int → Bool} (a : List Int) : (a.find? fun x => q x && p x) = (a.filter q).find? p := by
  rw [List.find?_filter]
  congr 1
  funext x
  cases q x <;> cases p x <;> rfl
end Go.Proofs.YtempjmpfdniecaaGreatDoor
namespace Go.Proofs.YtempjmpfdniecaaGreatDoor
open Go.RowKit
/-- A booking that is moved. -/
def atB (b : Bk) (a : Int) : Bk := ⟨b.key, b.cls, a, a + (b.to_ - b.fr), b.made, b.odds⟩
def endQ (b x : Bk) : Bool := decide (b.fr < x.to_) && decide (x.to_ + (b.to_ - b.fr) ≤ 5761439)
/-- Where bookings end, behind the begin of one, and soon enough. -/
def endsB (b : Bk) (l : List Bk) : List Int := (l.filter (endQ b)).map Bk.to_
def inTm (b : Bk) (a : Int) : Bool := decide (b.fr ≤ a) && decide (a + (b.to_ - b.fr) ≤ 5761439)
/-- When a booking can begin. -/
def erlO (cs : List Cs) (sl : List Sk) (l : List Bk) (b : Bk) : Option Int := (sortI (b.fr :: endsB b l)).find? fun a => canB cs sl l (atB b a)
def erlD (cs : List Cs) (sl : List Sk) (l : List Bk) (b : Bk) : Option Int := (sortI (b.fr :: l.map Bk.to_)).find? fun a => inTm b a && canB cs sl l (atB b a)
theorem ends_take {b : Bk} {l : List Bk} {i : Nat} {x : Bk} (h : l[i]? = some x) : endsB b (l.take (i + 1)) = endsB b (l.take i) ++ (if endQ b x = true then [x.to_] else []) := by
  unfold endsB
  rw [List.take_add_one, h, Option.toList_some, List.filter_append, List.map_append]
  congr 1
  cases hq : endQ b x <;> simp [hq]
theorem mp_take {l : List Bk} {i : Nat} {x : Bk} (h : l[i]? = some x) : (l.take (i + 1)).map Bk.to_ = (l.take i).map Bk.to_ ++ [x.to_] := by
  rw [List.take_add_one, h, Option.toList_some, List.map_append]; rfl
theorem ends_mem {b : Bk} {l : List Bk} {a : Int} : a ∈ endsB b l ↔ ∃ x ∈ l, endQ b x = true ∧ x.to_ = a := by
  unfold endsB
  rw [List.mem_map]
  constructor
  · rintro ⟨x, hx, he⟩
    obtain ⟨h1, h2⟩ := List.mem_filter.1 hx
    exact ⟨x, h1, h2, he⟩
  · rintro ⟨x, hx, hq, he⟩
    exact ⟨x, List.mem_filter.2 ⟨hx, hq⟩, he⟩
theorem endQ_iff {b x : Bk} : endQ b x = true ↔ b.fr < x.to_ ∧ x.to_ + (b.to_ - b.fr) ≤ 5761439 := by
  unfold endQ
  rw [Bool.and_eq_true, decide_eq_true_eq, decide_eq_true_eq]
theorem inTm_iff {b : Bk} {a : Int} : inTm b a = true ↔ b.fr ≤ a ∧ a + (b.to_ - b.fr) ≤ 5761439 := by
  unfold inTm
  rw [Bool.and_eq_true, decide_eq_true_eq, decide_eq_true_eq]
theorem srt_has {b : Bk} {l : List Bk} {a : Int} (ht : b.to_ ≤ 5761439) (h : a ∈ sortI (b.fr :: endsB b l)) : b.fr ≤ a ∧ a + (b.to_ - b.fr) ≤ 5761439 := by
  rcases List.mem_cons.1 (sortI_mem.1 h) with rfl | h
  · omega
  · obtain ⟨x, _, hq, rfl⟩ := ends_mem.1 h
    have := endQ_iff.1 hq
    omega
theorem erl_same {cs : List Cs} {sl : List Sk} {l : List Bk} {b : Bk} (ht : b.to_ ≤ 5761439) : erlD cs sl l b = erlO cs sl l b := by
  unfold erlD erlO
  rw [find_filter]
  refine find_same ((sortI_pair _).filter _) (sortI_pair _) fun a _ => ?_
  rw [List.mem_filter, sortI_mem, sortI_mem, List.mem_cons, List.mem_cons, inTm_iff, ends_mem, List.mem_map]
  constructor
  · rintro ⟨rfl | ⟨x, hx, rfl⟩, h1, h2⟩
    · exact .inl rfl
    · rcases Int.lt_or_eq_of_le h1 with h3 | h3
      · exact .inr ⟨x, hx, endQ_iff.2 ⟨h3, h2⟩, rfl⟩
      · exact .inl h3.symm
  · rintro (rfl | ⟨x, hx, hq, rfl⟩)
    · exact ⟨.inl rfl, Int.le_refl _, by omega⟩
    · have := endQ_iff.1 hq
      exact ⟨.inr ⟨x, hx, rfl⟩, by omega, by omega⟩
theorem find_at {p : Int → Bool} {l : List Int} {j : Nat} {x : Int} (h : l[j]? = some x) : (l.drop j).find? p = if p x = true then some x else (l.drop (j + 1)).find? p := by
  obtain ⟨hj, rfl⟩ := List.getElem?_eq_some_iff.1 h
  rw [List.drop_eq_getElem_cons hj]
  split
  · rw [List.find?_cons_of_pos ‹_›]
  · rw [List.find?_cons_of_neg ‹_›]
theorem atB_has {b : Bk} {a : Int} (hb : 0 ≤ b.fr ∧ b.fr < b.to_ ∧ b.to_ ≤ 5761439) (h : b.fr ≤ a ∧ a + (b.to_ - b.fr) ≤ 5761439) : 0 ≤ (atB b a).fr ∧ (atB b a).fr < (atB b a).to_ ∧ (atB b a).to_ ≤ 5761439 := by
  unfold atB
  dsimp only
  omega
/-- What Earliest returns. -/
def erlP (o : Option Int) : Int × Int := match o with
  | some a => (a, 0)
  | none => (0, 12)
def erlQ (o : Option Int) : Int × Bool := match o with
  | some a => (a, true)
  | none => (0, false)
theorem earliest_any (cs : List Cs) (A0 : Option Addr) (n0 c0 : Nat) (sl : List Sk) (A1 : Option Addr) (n1 c1 : Nat) (l : List Bk) (A : Option Addr) (n c : Nat) (x0 x1 : ByteArray) (x2 x3 x4 x5 : Int) (w : World) (hcs : SlT csEnc 2 158 w A0 n0 cs) (hco : ∀ x ∈ cs, CsOk x) (hn0 : n0 ≤ 1000) (hs : SlT skEnc 2 211 w A1 n1 sl) (hso : ∀ x ∈ sl, SkOk x) (hn1 : n1 ≤ 1000) (hl : SlT bkEnc 6 92 w A n l) (hok : ∀ x ∈ l, BkOk x) (hn : n ≤ 1000) (hbo : BkOk (⟨x0, x1, x2, x3, x4, x5⟩ : Bk)) :
  Calls Tryz.prog 44 #[.slice A0 n0 c0, .slice A1 n1 c1, .slice A n c, .agg #[.string x0, .string x1, .int .i64 x2, .int .i64 x3, .int .i64 x4, .int .i64 x5]] w (fun e w' => e = .returned (.tuple #[.int .i64 (if canE cs sl l (⟨x0, x1, x2, x3, x4, x5⟩ : Bk) = 0 then (erlP (erlO cs sl l (⟨x0, x1, x2, x3, x4, x5⟩ : Bk))).1 else 0), .int .i64 (if canE cs sl l (⟨x0, x1, x2, x3, x4, x5⟩ : Bk) = 0 then (erlP (erlO cs sl l (⟨x0, x1, x2, x3, x4, x5⟩ : Bk))).2 else canE cs sl l (⟨x0, x1, x2, x3, x4, x5⟩ : Bk))]) ∧ w.grownBy w' none) := by
 refine gw_enter ⟨87, w, none, []⟩ Tryz.func44 rfl Tryz.ntmps44 rfl (mem0 (X := [SlOld csEnc 2 158 w.heap.size none A0 n0 cs, SlOld skEnc 2 211 w.heap.size none A1 n1 sl, SlOld bkEnc 6 92 w.heap.size none A n l]) (allF_cons hcs.old (allF_cons hs.old (allF_cons hl.old allF_nil))) (allL_cons SlOld.lasts (allL_cons SlOld.lasts (allL_cons SlOld.lasts allL_nil)))) ?_
 refine sr_ ?_
 have hlen := hl.len
 obtain ⟨CE, hCE⟩ : ∃ z, z = canE cs sl l (⟨x0, x1, x2, x3, x4, x5⟩ : Bk) := ⟨_, rfl⟩
 obtain ⟨EO, hEO⟩ : ∃ z, z = erlO cs sl l (⟨x0, x1, x2, x3, x4, x5⟩ : Bk) := ⟨_, rfl⟩
 rw [← hCE, ← hEO]
 refine wl_box rfl rfl rfl fun g1 => ?_
 refine sg_ rfl (sg_ rfl (nn_ (gw_seq (sr_ (mv_ rfl (mv_ rfl (mv_ rfl ?_)))))))
 refine wl_ov (ov_loads rz92 rfl (fun _ hm => hm.blkI 0 rfl) rfl rfl) rfl ?_
 refine wl_callv (v := .int .i64 CE) rfl cb133 rfl rfl (fun wx hm => (by rw [hCE]; exact checkNew_any cs A0 n0 c0 sl A1 n1 c1 l A n c x0 x1 x2 x3 x4 x5 wx (hm.fact 0 rfl).1 hco hn0 (hm.fact 1 rfl).1 hso hn1 (hm.fact 2 rfl).1 hok hn hbo)) ?_
 refine sg_ rfl (nn_ (sr_ (mv_ rfl (wl_ov (ov_neq rfl rfl) rfl (nn_ ?_)))))
 refine gw_cond rfl (fun hh => ?_) (fun hh => ?_)
 ·have h1 : ¬ (CE = 0) := by simpa using hh
  clear hh
  refine sr_ (mv_ rfl (sg_ rfl (sg_ rfl (nn_ ?_))))
  refine gw_ret ?_
  refine nx_then_ret ?_
  refine nx_ret2 rfl rfl rfl fun wx hm => ?_
  exact ⟨by rw [if_neg (by simpa using h1), if_neg (by simpa using h1)], hm.g⟩
 have h1 : CE = 0 := by simpa using hh
 clear hh
 refine gw_skip (nx_then (sr_ ?_))
 have h1 : CE = 0 := by simpa using h1
 obtain ⟨hz0, hz1⟩ := canE_ok (hCE.symm.trans h1)
 obtain ⟨hz2, _, hz6⟩ := newE_ok hz1
 obtain ⟨hzk, hzt⟩ := oneB_has hz0 hz2
 obtain ⟨⟨h30, hcl, hlo⟩, hmany, _, htm, _⟩ := right_has hz0
 dsimp only at hzk hzt
 obtain ⟨hzt0, hzt1, hzt2⟩ := hzt
 refine fd_ fo92_2 rfl rfl (fd_ fo27_1 rfl rfl (lk_ sc3 0 rfl rfl rfl (fd_ fo92_2 rfl rfl (fd_ fo27_0 rfl rfl (lk_ sc3 0 rfl rfl rfl ?_)))))
 refine wl_ov (ov_sub rfl rfl (by omega) (by omega)) rfl ?_
 refine sg_ rfl (nn_ (sr_ (fd_ fo92_2 rfl rfl (fd_ fo27_0 rfl rfl (lk_ sc3 0 rfl rfl rfl ?_)))))
 refine wl_buildSlice (e := 3) (cs := [.int .i64 x2]) rfl (by kernel_rfl) rfl fun g2 => ?_
 refine sg_ rfl (nn_ (gw_seq (sr_ (mv_ rfl (wl_ov (ov_len es76 rfl) rfl (mv_ rfl (nn_ (gw_block ?_))))))))
 refine gw_toOwn (sz := 1) (n := 1) 0 [1] rfl rfl rfl (by unfold maxLen; omega) ?_
 refine gw_loop (γ := Nat × Nat × Value × List Value) (fun g => g.1 ≤ n ∧ (endsB (⟨x0, x1, x2, x3, x4, x5⟩ : Bk) (l.take g.1)).length = g.2.1 ∧ g.2.1 ≤ g.1 ∧ g.2.2.2 = (x2 :: endsB (⟨x0, x1, x2, x3, x4, x5⟩ : Bk) (l.take g.1)).flatMap iEnc) (fun g => [(0, .slice A0 n0 c0), (1, .slice A1 n1 c1), (2, .slice A n c), (7, .pointer (some ⟨g1, 0, none⟩)), (8, .int .i64 0), (9, .int .i64 0), (11, .int .i64 (x3 - x2)), (12, g.2.2.1), (36, .slice A n c), (37, .int .i64 ((n : Nat) : Int)), (38, .int .i64 ((g.1 : Nat) : Int))]) (fun g => fun _ => True) (fun g => [(g1, 92, [.string x0, .string x1, .int .i64 x2, .int .i64 x3, .int .i64 x4, .int .i64 x5])]) (fun g => [⟨g.2.2.1, 3, 1, (g.2.1 + 1), g.2.2.2⟩]) (fun g => [SlOld csEnc 2 158 w.heap.size none A0 n0 cs, SlOld skEnc 2 211 w.heap.size none A1 n1 sl, SlOld bkEnc 6 92 w.heap.size none A n l]) (fun g => n - g.1) (0, 0, .slice (some ⟨g2, 0, none⟩) 1 1, [.int .i64 x2]) ⟨Nat.zero_le _, by simp [endsB], Nat.le_refl _, by simp [endsB, iEnc]⟩ ⟨rfl, rfl, rfl, rfl, rfl, rfl, rfl, rfl, rfl, rfl, rfl, trivial⟩ (fun _ hm => hm.pick [0] [0] [0, 1, 2] rfl rfl) ?_
 rintro ⟨i, k, v, xs⟩ hinv
 replace hinv : i ≤ n ∧ (endsB (⟨x0, x1, x2, x3, x4, x5⟩ : Bk) (l.take i)).length = k ∧ k ≤ i ∧ xs = (x2 :: endsB (⟨x0, x1, x2, x3, x4, x5⟩ : Bk) (l.take i)).flatMap iEnc := hinv
 dsimp only
 refine sr_ ?_
 obtain ⟨hi0, hk, hki, rfl⟩ := hinv
 refine wl_ov (ov_lss rfl rfl) rfl (nn_ (gw_seq ?_))
 refine gw_cond rfl (fun hh => ?_) (fun hh => ?_)
 ·have hi : ((i : Nat) : Int) < ((n : Nat) : Int) := by simpa using hh
  clear hh
  refine gw_skip (nx_then (gw_seq (gw_block (sr_ ?_))))
  obtain ⟨bl, off, hA, _, _⟩ := hl.get (by omega)
  subst hA
  obtain ⟨x, hx⟩ : ∃ x, l[i]? = some x := ⟨_, List.getElem?_eq_getElem (by omega)⟩
  obtain ⟨y0, y1, y2, y3, y4, y5⟩ := x
  have htx := htm _ (List.mem_of_getElem? hx)
  dsimp only at htx
  have hat := ends_take (b := (⟨x0, x1, x2, x3, x4, x5⟩ : Bk)) hx
  refine wl_ov (ov_index (j := i) es76 rfl rfl (by omega)) rfl ?_
  refine wl_ov (ov_elem (vs := [.string y0, .string y1, .int .i64 y2, .int .i64 y3, .int .i64 y4, .int .i64 y5]) rz92 rfl (fun _ hm => (hm.fact 2 rfl).1) hx rfl rfl) rfl ?_
  refine wl_alloc zc92 rfl fun g3 => ?_
  refine wl_stores (cs' := [.string y0, .string y1, .int .i64 y2, .int .i64 y3, .int .i64 y4, .int .i64 y5]) 0 rz92 rfl rfl rfl rfl rfl rfl rfl rfl ?_
  refine nn_ (sr_ (fd_ fo92_2 rfl rfl (fd_ fo27_1 rfl rfl (lk_ sc3 0 rfl rfl rfl (fd_ fo92_2 rfl rfl (fd_ fo27_0 rfl rfl (lk_ sc3 1 rfl rfl rfl ?_)))))))
  refine wl_ov (ov_gtr rfl rfl) rfl ?_
  refine mv_ rfl ?_
  rcases Bool.eq_false_or_eq_true (decide (x2 < y3)) with hq1 | hq1
  ·refine wl_set 49 rfl (congrArg Value.bool hq1) ?_
   replace hq1 := of_decide_eq_true hq1
   refine wl_guard_on rfl rfl rfl (fd_ fo92_2 rfl rfl (wl_guard_on rfl rfl rfl (fd_ fo27_1 rfl rfl (wl_guard_on rfl rfl rfl (lk_ sc3 0 rfl rfl rfl (wl_guard_on rfl rfl rfl (mv_ rfl (wl_guard_on rfl rfl rfl (ad_ rfl rfl (wl_guard_on rfl rfl rfl (wl_ov (ov_leq rfl rfl) rfl (pt_ rfl rfl (wl_nil ?_)))))))))))))
   refine nx_then ?_
   refine gw_cond rfl (fun hh => ?_) (fun hh => ?_)
   ·have hq2 : y3 + (x3 - x2) ≤ 5761439 := by simpa using hh
    clear hh
    refine gw_region ?_
    rw [if_pos (endQ_iff.2 ⟨by dsimp only; omega, by dsimp only; omega⟩)] at hat
    refine mv_ rfl (fd_ fo92_2 rfl rfl (fd_ fo27_1 rfl rfl (lk_ sc3 0 rfl rfl rfl ?_)))
    refine wl_buildSlice (e := 3) (cs := [.int .i64 y3]) rfl (by kernel_rfl) rfl fun g4 => ?_
    refine wl_append (news := [.int .i64 y3]) 0 0 ap22 rfl rfl rfl rfl rfl rfl rfl (by omega) (by unfold maxLen; omega) rfl rfl fun v2 hv2 => ?_
    refine sg_ rfl (wl_nil (nx_blk_nrm (nx_then (gw_region (ad_ rfl rfl (mv_ rfl (wl_nil ?_)))))))
    exact nx_round (i + 1, k + 1, v2, (x2 :: endsB (⟨x0, x1, x2, x3, x4, x5⟩ : Bk) (l.take i)).flatMap iEnc ++ ([.int .i64 y3] : List Value)) ⟨by dsimp only; omega, by rw [hat]; simp [hk], by dsimp only; omega, by rw [hat]; simp [iEnc]⟩ (by dsimp only; omega) ⟨rfl, rfl, rfl, rfl, rfl, rfl, rfl, rfl, rfl, rfl, (some_int (by omega)), trivial⟩ (fun _ hm => hm.pick [2] [0] [0, 1, 2] rfl rfl)
   have hq2 : ¬ (y3 + (x3 - x2) ≤ 5761439) := by simpa using hh
   clear hh
   refine gw_skip (nx_blk_nrm (nx_then (gw_region ?_)))
   rw [if_neg (fun h => by have h2 := endQ_iff.1 h; dsimp only at h2; omega), List.append_nil] at hat
   refine ad_ rfl rfl (mv_ rfl (wl_nil ?_))
   exact nx_round (i + 1, k, v, (x2 :: endsB (⟨x0, x1, x2, x3, x4, x5⟩ : Bk) (l.take i)).flatMap iEnc) ⟨by dsimp only; omega, by rw [hat]; exact hk, by dsimp only; omega, by rw [hat]⟩ (by dsimp only; omega) ⟨rfl, rfl, rfl, rfl, rfl, rfl, rfl, rfl, rfl, rfl, (some_int (by omega)), trivial⟩ (fun _ hm => hm.pick [1] [0] [0, 1, 2] rfl rfl)
  refine wl_set 49 rfl (congrArg Value.bool hq1) ?_
  replace hq1 := of_decide_eq_false hq1
  rw [if_neg (fun h => by have h2 := endQ_iff.1 h; dsimp only at h2; omega), List.append_nil] at hat
  refine goff rfl rfl rfl (goff rfl rfl rfl (goff rfl rfl rfl (goff rfl rfl rfl (goff rfl rfl rfl (goff rfl rfl rfl (pf_ rfl rfl (nn_ (cf_ rfl (gw_skip (nx_blk_nrm (nx_then (gw_region ?_))))))))))))
  refine ad_ rfl rfl (mv_ rfl (wl_nil ?_))
  exact nx_round (i + 1, k, v, (x2 :: endsB (⟨x0, x1, x2, x3, x4, x5⟩ : Bk) (l.take i)).flatMap iEnc) ⟨by dsimp only; omega, by rw [hat]; exact hk, by dsimp only; omega, by rw [hat]⟩ (by dsimp only; omega) ⟨rfl, rfl, rfl, rfl, rfl, rfl, rfl, rfl, rfl, rfl, (some_int (by omega)), trivial⟩ (fun _ hm => hm.pick [1] [0] [0, 1, 2] rfl rfl)
 have hi : ¬ (((i : Nat) : Int) < ((n : Nat) : Int)) := by simpa using hh
 clear hh
 refine gw_exit ?_
 refine nx_then_exit (nx_then_exit ?_)
 refine nx_blk_here ?_
 refine nx_then (sr_ ?_)
 have hall : l.take i = l := List.take_of_length_le (by omega)
 rw [hall] at hk ⊢
 obtain ⟨S, hS⟩ : ∃ S, S = sortI (x2 :: endsB (⟨x0, x1, x2, x3, x4, x5⟩ : Bk) l) := ⟨_, rfl⟩
 have hSl : S.length = k + 1 := by rw [hS, sortI_len, List.length_cons, hk]
 have hEO2 : EO = S.find? (fun a => canB cs sl l (atB (⟨x0, x1, x2, x3, x4, x5⟩ : Bk) a)) := by rw [hEO, hS]; rfl
 refine wl_look (R := ∃ A cc, v = .slice A (k + 1) cc) (fun wx hm => own_slice (hm.ownI 0 rfl)) ?_
 rintro ⟨A3, c3, rfl⟩
 refine wl_look (R := ∃ g, A3 = some ⟨g, 0, none⟩) (fun wx hm => own_addr (hm.ownI 0 rfl) (by omega)) ?_
 rintro ⟨g3, rfl⟩
 refine mv_ rfl ?_
 refine wl_callr (v := .tuple #[]) (xs' := S.flatMap iEnc) 0 rfl rfl rfl cb136 rfl rfl (fun wx hm => (by have h := sort_own (x2 :: endsB (⟨x0, x1, x2, x3, x4, x5⟩ : Bk) l) g3 (k + 1) c3 _ wx (hm.ownI 0 rfl) (by simp [hk]) (by omega); rw [← hS] at h; exact h)) ?_
 refine nn_ (gw_seq (sr_ (mv_ rfl (wl_ov (ov_len es22 rfl) rfl (mv_ rfl (nn_ (gw_block ?_)))))))
 refine gw_loop (γ := Nat × Int × Int) (fun g => g.1 ≤ k + 1 ∧ S.find? (fun a => canB cs sl l (atB (⟨x0, x1, x2, x3, x4, x5⟩ : Bk) a)) = (S.drop g.1).find? (fun a => canB cs sl l (atB (⟨x0, x1, x2, x3, x4, x5⟩ : Bk) a))) (fun g => [(0, .slice A0 n0 c0), (1, .slice A1 n1 c1), (2, .slice A n c), (7, .pointer (some ⟨g1, 0, none⟩)), (11, .int .i64 (x3 - x2)), (66, .slice (some ⟨g3, 0, none⟩) (k + 1) c3), (67, .int .i64 (((k + 1) : Nat) : Int)), (68, .int .i64 ((g.1 : Nat) : Int))]) (fun g => fun _ => True) (fun g => [(g1, 92, [.string x0, .string x1, .int .i64 g.2.1, .int .i64 g.2.2, .int .i64 x4, .int .i64 x5])]) (fun g => [⟨.slice (some ⟨g3, 0, none⟩) (k + 1) c3, 3, 1, (k + 1), S.flatMap iEnc⟩]) (fun g => [SlOld csEnc 2 158 w.heap.size none A0 n0 cs, SlOld skEnc 2 211 w.heap.size none A1 n1 sl, SlOld bkEnc 6 92 w.heap.size none A n l]) (fun g => k + 1 - g.1) (0, x2, x3) ⟨Nat.zero_le _, rfl⟩ ⟨rfl, rfl, rfl, rfl, rfl, rfl, rfl, rfl, trivial⟩ (fun _ hm => hm.pick [0] [0] [0, 1, 2] rfl rfl) ?_
 rintro ⟨j, ta, tb⟩ hinv
 replace hinv : j ≤ k + 1 ∧ S.find? (fun a => canB cs sl l (atB (⟨x0, x1, x2, x3, x4, x5⟩ : Bk) a)) = (S.drop j).find? (fun a => canB cs sl l (atB (⟨x0, x1, x2, x3, x4, x5⟩ : Bk) a)) := hinv
 dsimp only
 refine sr_ ?_
 obtain ⟨hj0, hfd⟩ := hinv
 refine wl_ov (ov_lss rfl rfl) rfl (nn_ (gw_seq ?_))
 refine gw_cond rfl (fun hh => ?_) (fun hh => ?_)
 ·have hj : ((j : Nat) : Int) < (((k + 1) : Nat) : Int) := by simpa using hh
  clear hh
  refine gw_skip (nx_then (gw_seq (gw_block (sr_ ?_))))
  obtain ⟨aa, hxS⟩ : ∃ x, S[j]? = some x := ⟨_, List.getElem?_eq_getElem (by omega)⟩
  have hat2 := find_at (p := (fun a => canB cs sl l (atB (⟨x0, x1, x2, x3, x4, x5⟩ : Bk) a))) hxS
  have hsr := srt_has (b := (⟨x0, x1, x2, x3, x4, x5⟩ : Bk)) (l := l) hzt2 (by rw [← hS]; exact List.mem_of_getElem? hxS)
  dsimp only at hsr
  obtain ⟨hkw, htw⟩ := with_has (b := atB (⟨x0, x1, x2, x3, x4, x5⟩ : Bk) aa) hz0 hzk (atB_has (b := (⟨x0, x1, x2, x3, x4, x5⟩ : Bk)) ⟨hzt0, hzt1, hzt2⟩ hsr)
  obtain ⟨hsr1, hsr2⟩ := hsr
  refine wl_ov (ov_index (j := j) es22 rfl rfl (by omega)) rfl ?_
  refine wl_ov (ov_elem1 (k := 0) (v := .int .i64 aa) sc3 rfl (fun _ hm => (SlT.ofOwn i_len (hm.ownI 0 rfl) hSl)) hxS rfl rfl) rfl ?_
  refine sg_ rfl (nn_ (sr_ (mv_ rfl (mv_ rfl (mv_ rfl (ad_ rfl rfl ?_))))))
  refine wl_ov (ov_build (cs := [.int .i64 aa, .int .i64 (aa + (x3 - x2))]) rfl (by kernel_rfl)) rfl ?_
  refine fd_ fo92_2 rfl rfl ?_
  refine wl_stores (cs' := [.string x0, .string x1, .int .i64 aa, .int .i64 (aa + (x3 - x2)), .int .i64 x4, .int .i64 x5]) 0 rz27 rfl rfl rfl rfl rfl rfl rfl rfl ?_
  refine nn_ (sr_ (mv_ rfl (mv_ rfl (mv_ rfl ?_))))
  refine wl_ov (ov_loads rz92 rfl (fun _ hm => hm.blkI 0 rfl) rfl rfl) rfl ?_
  refine wl_callgo (γ := Option Addr × Nat) (val := (fun g => .slice g.1 (n + 1) g.2)) (φ := (fun g => True)) (fun g => ⟨.slice g.1 (n + 1) g.2, 92, 6, n + 1, (withB l (atB (⟨x0, x1, x2, x3, x4, x5⟩ : Bk) aa)).flatMap bkEnc⟩) rfl cb135 rfl rfl (fun wx hm => (with_kyO l A n c x0 x1 aa (aa + (x3 - x2)) x4 x5 wx (hm.fact 2 rfl).1 (by omega)).mono fun _ _ ⟨A2, c2, he, ho, hg⟩ => ⟨(A2, c2), he, trivial, ho, hg⟩) ?_
  rintro ⟨A2, c2⟩ hphi
  dsimp only at hphi ⊢
  refine wl_callx (γ := Int) (val := (fun g => .int .i64 g)) (φ := (fun g => FwOk cs sl (withB l (atB (⟨x0, x1, x2, x3, x4, x5⟩ : Bk) aa)) g)) (Y := (fun g => fun _ => True)) rfl cb134 rfl rfl (fun wx hm => (fewest_any cs A0 n0 c0 sl A1 n1 c1 (withB l (atB (⟨x0, x1, x2, x3, x4, x5⟩ : Bk) aa)) A2 (n + 1) c2 wx (hm.fact 0 rfl).1 hco hn0 (hm.fact 1 rfl).1 hso hn1 (SlT.ofOwn bk_len (hm.ownI 0 rfl) (by rw [withB_len, hlen])) (by omega) hcl hlo h30 hkw htw).mono fun _ _ ⟨v, he, hf, hg⟩ => ⟨v, he, hf, hg, trivial⟩) (fun _ => Lasts2.true_) ?_
  rintro fv hfw
  have hcan := fw_iff hfw
  have hcb : canB cs sl l (atB (⟨x0, x1, x2, x3, x4, x5⟩ : Bk) aa) = decide (0 ≤ fv) := hcan.symm
  refine wl_ov (ov_geq rfl rfl) rfl ?_
  refine nn_ ?_
  refine gw_cond rfl (fun hh => ?_) (fun hh => ?_)
  ·have hv0 : 0 ≤ fv := by simpa using hh
   clear hh
   refine sr_ ?_
   rw [if_pos (by rw [hcb]; exact decide_eq_true hv0)] at hat2
   refine mv_ rfl (sg_ rfl (sg_ rfl (nn_ ?_)))
   refine gw_ret ?_
   refine nx_blk_ret (nx_then_ret (nx_then_ret (nx_blk_ret (nx_then_ret ?_))))
   refine nx_ret2 rfl rfl rfl fun wx hm => ?_
   exact ⟨by rw [if_pos h1, if_pos h1, hEO2, hfd, hat2]; rfl, hm.g⟩
  have hv0 : ¬ (0 ≤ fv) := by simpa using hh
  clear hh
  refine gw_skip (nx_blk_nrm (nx_then (gw_region ?_)))
  rw [if_neg (by rw [hcb, decide_eq_false hv0]; decide)] at hat2
  refine ad_ rfl rfl (mv_ rfl (wl_nil ?_))
  exact nx_round (j + 1, aa, (aa + (x3 - x2))) ⟨by dsimp only; omega, by dsimp only; rw [hfd, hat2]⟩ (by dsimp only; omega) ⟨rfl, rfl, rfl, rfl, rfl, rfl, rfl, (some_int (by omega)), trivial⟩ (fun _ hm => hm.pick [0] [1] [1, 2, 3] rfl rfl)
 have hj : ¬ (((j : Nat) : Int) < (((k + 1) : Nat) : Int)) := by simpa using hh
 clear hh
 refine gw_exit ?_
 refine nx_then_exit (nx_then_exit ?_)
 refine nx_blk_here ?_
 refine nx_then (sr_ (sg_ rfl (sg_ rfl (nn_ ?_))))
 refine gw_ret ?_
 refine nx_ret2 rfl rfl rfl fun wx hm => ?_
 exact ⟨by rw [if_pos h1, if_pos h1, hEO2, hfd, List.drop_eq_nil_of_le (by omega)]; rfl, hm.g⟩
end Go.Proofs.YtempjmpfdniecaaGreatDoor
namespace Go.Proofs.YtempjmpfdniecaaGreatDoor
open Go.RowKit
theorem earliestOf_any (cs : List Cs) (A0 : Option Addr) (n0 c0 : Nat) (sl : List Sk) (A1 : Option Addr) (n1 c1 : Nat) (l : List Bk) (A : Option Addr) (n c : Nat) (x0 x1 : ByteArray) (x2 x3 x4 x5 : Int) (w : World) (hcs : SlT csEnc 2 158 w A0 n0 cs) (hco : ∀ x ∈ cs, CsOk x) (hn0 : n0 ≤ 30) (hs : SlT skEnc 2 211 w A1 n1 sl) (hso : ∀ x ∈ sl, SkOk x) (hn1 : n1 ≤ 1000) (hl : SlT bkEnc 6 92 w A n l) (hn6 : n ≤ 6) (hz0 : firstE [stockE cs sl, checkE cs l] = 0) (hzk : keysE cs [((⟨x0, x1, x2, x3, x4, x5⟩ : Bk)).cls] = 0) (hzt : 0 ≤ ((⟨x0, x1, x2, x3, x4, x5⟩ : Bk)).fr ∧ ((⟨x0, x1, x2, x3, x4, x5⟩ : Bk)).fr < ((⟨x0, x1, x2, x3, x4, x5⟩ : Bk)).to_ ∧ ((⟨x0, x1, x2, x3, x4, x5⟩ : Bk)).to_ ≤ 5761439) :
  Calls Tryz.prog 47 #[.slice A0 n0 c0, .slice A1 n1 c1, .slice A n c, .agg #[.string x0, .string x1, .int .i64 x2, .int .i64 x3, .int .i64 x4, .int .i64 x5]] w (fun e w' => e = .returned (.tuple #[.int .i64 (erlQ (erlO cs sl l (⟨x0, x1, x2, x3, x4, x5⟩ : Bk))).1, .bool (erlQ (erlO cs sl l (⟨x0, x1, x2, x3, x4, x5⟩ : Bk))).2]) ∧ w.grownBy w' none) := by
 refine gw_enter ⟨76, w, none, []⟩ Tryz.func47 rfl Tryz.ntmps47 rfl (mem0 (X := [SlOld csEnc 2 158 w.heap.size none A0 n0 cs, SlOld skEnc 2 211 w.heap.size none A1 n1 sl, SlOld bkEnc 6 92 w.heap.size none A n l]) (allF_cons hcs.old (allF_cons hs.old (allF_cons hl.old allF_nil))) (allL_cons SlOld.lasts (allL_cons SlOld.lasts (allL_cons SlOld.lasts allL_nil)))) ?_
 refine sr_ ?_
 have hlen := hl.len
 obtain ⟨hzt0, hzt1, hzt2⟩ := hzt
 dsimp only at hzk hzt0 hzt1 hzt2
 obtain ⟨⟨h30, hcl, hlo⟩, hmany, _, htm, _⟩ := right_has hz0
 obtain ⟨EO, hEO⟩ : ∃ z, z = erlO cs sl l (⟨x0, x1, x2, x3, x4, x5⟩ : Bk) := ⟨_, rfl⟩
 have hED : EO = erlD cs sl l (⟨x0, x1, x2, x3, x4, x5⟩ : Bk) := hEO.trans (erl_same hzt2).symm
 rw [← hEO]
 refine wl_box rfl rfl rfl fun g1 => ?_
 refine sg_ rfl (sg_ rfl (nn_ (sr_ (fd_ fo92_2 rfl rfl (fd_ fo27_0 rfl rfl (lk_ sc3 0 rfl rfl rfl ?_))))))
 refine wl_buildSlice (e := 3) (cs := [.int .i64 x2]) rfl (by kernel_rfl) rfl fun g2 => ?_
 refine sg_ rfl (nn_ (gw_seq (sr_ (mv_ rfl (wl_ov (ov_len es76 rfl) rfl (mv_ rfl (nn_ (gw_block ?_))))))))
 refine gw_toOwn (sz := 1) (n := 1) 0 [1] rfl rfl rfl (by unfold maxLen; omega) ?_
 refine gw_loop (γ := Nat × Value × List Value) (fun g => g.1 ≤ n ∧ ((l.take g.1).map Bk.to_).length = g.1 ∧ g.2.2 = (x2 :: (l.take g.1).map Bk.to_).flatMap iEnc) (fun g => [(0, .slice A0 n0 c0), (1, .slice A1 n1 c1), (2, .slice A n c), (7, .pointer (some ⟨g1, 0, none⟩)), (8, .int .i64 0), (9, .bool false), (10, g.2.1), (21, .slice A n c), (22, .int .i64 ((n : Nat) : Int)), (23, .int .i64 ((g.1 : Nat) : Int))]) (fun g => fun _ => True) (fun g => [(g1, 92, [.string x0, .string x1, .int .i64 x2, .int .i64 x3, .int .i64 x4, .int .i64 x5])]) (fun g => [⟨g.2.1, 3, 1, (g.1 + 1), g.2.2⟩]) (fun g => [SlOld csEnc 2 158 w.heap.size none A0 n0 cs, SlOld skEnc 2 211 w.heap.size none A1 n1 sl, SlOld bkEnc 6 92 w.heap.size none A n l]) (fun g => n - g.1) (0, .slice (some ⟨g2, 0, none⟩) 1 1, [.int .i64 x2]) ⟨Nat.zero_le _, by simp, by simp [iEnc]⟩ ⟨rfl, rfl, rfl, rfl, rfl, rfl, rfl, rfl, rfl, rfl, trivial⟩ (fun _ hm => hm.pick [0] [0] [0, 1, 2] rfl rfl) ?_
 rintro ⟨i, v, xs⟩ hinv
 replace hinv : i ≤ n ∧ ((l.take i).map Bk.to_).length = i ∧ xs = (x2 :: (l.take i).map Bk.to_).flatMap iEnc := hinv
 dsimp only
 refine sr_ ?_
 obtain ⟨hi0, hk, rfl⟩ := hinv
 refine wl_ov (ov_lss rfl rfl) rfl (nn_ (gw_seq ?_))
 refine gw_cond rfl (fun hh => ?_) (fun hh => ?_)
 ·have hi : ((i : Nat) : Int) < ((n : Nat) : Int) := by simpa using hh
  clear hh
  refine gw_skip (nx_then (gw_seq (gw_block (sr_ ?_))))
  obtain ⟨bl, off, hA, _, _⟩ := hl.get (by omega)
  subst hA
  obtain ⟨x, hx⟩ : ∃ x, l[i]? = some x := ⟨_, List.getElem?_eq_getElem (by omega)⟩
  obtain ⟨y0, y1, y2, y3, y4, y5⟩ := x
  have hat := mp_take hx
  refine wl_ov (ov_index (j := i) es76 rfl rfl (by omega)) rfl ?_
  refine wl_ov (ov_elem (vs := [.string y0, .string y1, .int .i64 y2, .int .i64 y3, .int .i64 y4, .int .i64 y5]) rz92 rfl (fun _ hm => (hm.fact 2 rfl).1) hx rfl rfl) rfl ?_
  refine wl_alloc zc92 rfl fun g3 => ?_
  refine wl_stores (cs' := [.string y0, .string y1, .int .i64 y2, .int .i64 y3, .int .i64 y4, .int .i64 y5]) 0 rz92 rfl rfl rfl rfl rfl rfl rfl rfl ?_
  refine nn_ (gw_region (mv_ rfl (fd_ fo92_2 rfl rfl (fd_ fo27_1 rfl rfl (lk_ sc3 0 rfl rfl rfl ?_)))))
  refine wl_buildSlice (e := 3) (cs := [.int .i64 y3]) rfl (by kernel_rfl) rfl fun g4 => ?_
  refine wl_append (news := [.int .i64 y3]) 0 0 ap22 rfl rfl rfl rfl rfl rfl rfl (by omega) (by unfold maxLen; omega) rfl rfl fun v2 hv2 => ?_
  refine sg_ rfl (wl_nil (nx_blk_nrm (nx_then (gw_region (ad_ rfl rfl (mv_ rfl (wl_nil ?_)))))))
  exact nx_round (i + 1, v2, (x2 :: (l.take i).map Bk.to_).flatMap iEnc ++ ([.int .i64 y3] : List Value)) ⟨by dsimp only; omega, by rw [hat, List.length_append, hk]; rfl, by rw [hat]; simp [iEnc]⟩ (by dsimp only; omega) ⟨rfl, rfl, rfl, rfl, rfl, rfl, rfl, rfl, rfl, (some_int (by omega)), trivial⟩ (fun _ hm => hm.pick [2] [0] [0, 1, 2] rfl rfl)
 have hi : ¬ (((i : Nat) : Int) < ((n : Nat) : Int)) := by simpa using hh
 clear hh
 refine gw_exit ?_
 refine nx_then_exit (nx_then_exit ?_)
 refine nx_blk_here ?_
 refine nx_then (sr_ ?_)
 have hin : i = n := by omega
 subst hin
 have hall : l.take i = l := List.take_of_length_le (by omega)
 rw [hall] at hk ⊢
 obtain ⟨S, hS⟩ : ∃ S, S = sortI (x2 :: l.map Bk.to_) := ⟨_, rfl⟩
 have hSl : S.length = i + 1 := by rw [hS, sortI_len, List.length_cons, hk]
 have hEO2 : EO = S.find? (fun a => inTm (⟨x0, x1, x2, x3, x4, x5⟩ : Bk) a && canB cs sl l (atB (⟨x0, x1, x2, x3, x4, x5⟩ : Bk) a)) := by rw [hED, hS]; rfl
 refine wl_look (R := ∃ A cc, v = .slice A (i + 1) cc) (fun wx hm => own_slice (hm.ownI 0 rfl)) ?_
 rintro ⟨A3, c3, rfl⟩
 refine wl_look (R := ∃ g, A3 = some ⟨g, 0, none⟩) (fun wx hm => own_addr (hm.ownI 0 rfl) (by omega)) ?_
 rintro ⟨g3, rfl⟩
 refine mv_ rfl ?_
 refine wl_callr (v := .tuple #[]) (xs' := S.flatMap iEnc) 0 rfl rfl rfl cb136 rfl rfl (fun wx hm => (by have h := sort_own (x2 :: l.map Bk.to_) g3 (i + 1) c3 _ wx (hm.ownI 0 rfl) (by simp [hk]) (by omega); rw [← hS] at h; exact h)) ?_
 refine nn_ (sr_ (fd_ fo92_2 rfl rfl (fd_ fo27_1 rfl rfl (lk_ sc3 0 rfl rfl rfl (fd_ fo92_2 rfl rfl (fd_ fo27_0 rfl rfl (lk_ sc3 0 rfl rfl rfl ?_)))))))
 refine wl_ov (ov_sub rfl rfl (by omega) (by omega)) rfl ?_
 refine sg_ rfl (nn_ (gw_seq (sr_ (mv_ rfl (wl_ov (ov_len es22 rfl) rfl (mv_ rfl (nn_ (gw_block ?_))))))))
 refine gw_loop (γ := Nat) (fun (j : Nat) => j ≤ i + 1 ∧ S.find? (fun a => inTm (⟨x0, x1, x2, x3, x4, x5⟩ : Bk) a && canB cs sl l (atB (⟨x0, x1, x2, x3, x4, x5⟩ : Bk) a)) = (S.drop j).find? (fun a => inTm (⟨x0, x1, x2, x3, x4, x5⟩ : Bk) a && canB cs sl l (atB (⟨x0, x1, x2, x3, x4, x5⟩ : Bk) a))) (fun (j : Nat) => [(0, .slice A0 n0 c0), (1, .slice A1 n1 c1), (2, .slice A i c), (7, .pointer (some ⟨g1, 0, none⟩)), (13, .int .i64 (x3 - x2)), (43, .slice (some ⟨g3, 0, none⟩) (i + 1) c3), (44, .int .i64 (((i + 1) : Nat) : Int)), (45, .int .i64 ((j : Nat) : Int))]) (fun (j : Nat) => fun _ => True) (fun (j : Nat) => [(g1, 92, [.string x0, .string x1, .int .i64 x2, .int .i64 x3, .int .i64 x4, .int .i64 x5])]) (fun (j : Nat) => [⟨.slice (some ⟨g3, 0, none⟩) (i + 1) c3, 3, 1, (i + 1), S.flatMap iEnc⟩]) (fun (j : Nat) => [SlOld csEnc 2 158 w.heap.size none A0 n0 cs, SlOld skEnc 2 211 w.heap.size none A1 n1 sl, SlOld bkEnc 6 92 w.heap.size none A i l]) (fun (j : Nat) => i + 1 - j) 0 ⟨Nat.zero_le _, rfl⟩ ⟨rfl, rfl, rfl, rfl, rfl, rfl, rfl, rfl, trivial⟩ (fun _ hm => hm.pick [0] [0] [0, 1, 2] rfl rfl) ?_
 intro j hinv
 replace hinv : j ≤ i + 1 ∧ S.find? (fun a => inTm (⟨x0, x1, x2, x3, x4, x5⟩ : Bk) a && canB cs sl l (atB (⟨x0, x1, x2, x3, x4, x5⟩ : Bk) a)) = (S.drop j).find? (fun a => inTm (⟨x0, x1, x2, x3, x4, x5⟩ : Bk) a && canB cs sl l (atB (⟨x0, x1, x2, x3, x4, x5⟩ : Bk) a)) := hinv
 refine sr_ ?_
 obtain ⟨hj0, hfd⟩ := hinv
 refine wl_ov (ov_lss rfl rfl) rfl (nn_ (gw_seq ?_))
 refine gw_cond rfl (fun hh => ?_) (fun hh => ?_)
 ·have hj : ((j : Nat) : Int) < (((i + 1) : Nat) : Int) := by simpa using hh
  clear hh
  refine gw_skip (nx_then (gw_seq (gw_block (sr_ ?_))))
  obtain ⟨aa, hxS⟩ : ∃ x, S[j]? = some x := ⟨_, List.getElem?_eq_getElem (by omega)⟩
  have hat2 := find_at (p := (fun a => inTm (⟨x0, x1, x2, x3, x4, x5⟩ : Bk) a && canB cs sl l (atB (⟨x0, x1, x2, x3, x4, x5⟩ : Bk) a))) hxS
  have hab : 0 ≤ aa ∧ aa ≤ 5761439 := by
   have h := List.mem_of_getElem? hxS
   rw [hS, sortI_mem] at h
   rcases List.mem_cons.1 h with rfl | h
   ·omega
   obtain ⟨y, hy, rfl⟩ := List.mem_map.1 h
   have := htm y hy
   omega
  refine wl_ov (ov_index (j := j) es22 rfl rfl (by omega)) rfl ?_
  refine wl_ov (ov_elem1 (k := 0) (v := .int .i64 aa) sc3 rfl (fun _ hm => (SlT.ofOwn i_len (hm.ownI 0 rfl) hSl)) hxS rfl rfl) rfl ?_
  refine sg_ rfl (nn_ (sr_ ?_))
  refine wl_ov (ov_loads rz92 rfl (fun _ hm => hm.blkI 0 rfl) rfl rfl) rfl ?_
  refine wl_alloc zc92 rfl fun g5 => ?_
  refine wl_stores (cs' := [.string x0, .string x1, .int .i64 x2, .int .i64 x3, .int .i64 x4, .int .i64 x5]) 0 rz92 rfl rfl rfl rfl rfl rfl rfl rfl ?_
  refine nn_ (sr_ (mv_ rfl (mv_ rfl (mv_ rfl (ad_ rfl rfl ?_)))))
  refine wl_ov (ov_build (cs := [.int .i64 aa, .int .i64 (aa + (x3 - x2))]) rfl (by kernel_rfl)) rfl ?_
  refine fd_ fo92_2 rfl rfl ?_
  refine wl_stores (cs' := [.string x0, .string x1, .int .i64 aa, .int .i64 (aa + (x3 - x2)), .int .i64 x4, .int .i64 x5]) 0 rz27 rfl rfl rfl rfl rfl rfl rfl rfl ?_
  refine nn_ (sr_ (mv_ rfl (fd_ fo92_2 rfl rfl (fd_ fo27_0 rfl rfl (lk_ sc3 1 rfl rfl rfl ?_)))))
  refine wl_ov (ov_geq rfl rfl) rfl ?_
  refine mv_ rfl ?_
  rcases Bool.eq_false_or_eq_true (decide (x2 ≤ aa)) with hq1 | hq1
  ·refine wl_set 61 rfl (congrArg Value.bool hq1) ?_
   replace hq1 := of_decide_eq_true hq1
   refine wl_guard_on rfl rfl rfl (fd_ fo92_2 rfl rfl (wl_guard_on rfl rfl rfl (fd_ fo27_1 rfl rfl (wl_guard_on rfl rfl rfl (lk_ sc3 0 rfl rfl rfl (wl_guard_on rfl rfl rfl (wl_ov (ov_leq rfl rfl) rfl (pt_ rfl rfl (mv_ rfl ?_)))))))))
   rcases Bool.eq_false_or_eq_true (decide (aa + (x3 - x2) ≤ 5761439)) with hq2 | hq2
   ·refine wl_set 67 rfl (congrArg Value.bool hq2) ?_
    replace hq2 := of_decide_eq_true hq2
    refine wl_guard_on rfl rfl rfl (mv_ rfl (wl_guard_on rfl rfl rfl (mv_ rfl (wl_guard_on rfl rfl rfl (mv_ rfl (wl_guard_on rfl rfl rfl ?_))))))
    refine wl_ov (ov_loads rz92 rfl (fun _ hm => hm.blkI 0 rfl) rfl rfl) rfl ?_
    refine wl_guard_on rfl rfl rfl ?_
    have hsr : ((⟨x0, x1, x2, x3, x4, x5⟩ : Bk)).fr ≤ aa ∧ aa + (((⟨x0, x1, x2, x3, x4, x5⟩ : Bk)).to_ - ((⟨x0, x1, x2, x3, x4, x5⟩ : Bk)).fr) ≤ 5761439 := ⟨by dsimp only; omega, by dsimp only; omega⟩
    obtain ⟨hkw, htw⟩ := with_has (b := atB (⟨x0, x1, x2, x3, x4, x5⟩ : Bk) aa) hz0 hzk (atB_has (b := (⟨x0, x1, x2, x3, x4, x5⟩ : Bk)) ⟨hzt0, hzt1, hzt2⟩ hsr)
    have htm2 : inTm (⟨x0, x1, x2, x3, x4, x5⟩ : Bk) aa = true := inTm_iff.2 hsr
    obtain ⟨CB, hCB⟩ : ∃ z, z = canB cs sl l (atB (⟨x0, x1, x2, x3, x4, x5⟩ : Bk) aa) := ⟨_, rfl⟩
    refine wl_callv (v := .bool CB) rfl cb46 rfl rfl (fun wx hm => (by rw [hCB]; exact canOf_any cs A0 n0 c0 sl A1 n1 c1 l A i c x0 x1 aa (aa + (x3 - x2)) x4 x5 wx (hm.fact 0 rfl).1 hco hn0 hcl hlo (hm.fact 1 rfl).1 hso hn1 hmany (hm.fact 2 rfl).1 (by omega) hkw htw)) ?_
    refine pt_ rfl rfl (nn_ ?_)
    refine gw_cond rfl (fun hh => ?_) (fun hh => ?_)
    ·have hv0 : CB = true := by simpa using hh
     clear hh
     refine sr_ ?_
     rw [if_pos (by rw [htm2, ← hCB, hv0]; rfl)] at hat2
     refine mv_ rfl (sg_ rfl (sg_ rfl (nn_ ?_)))
     refine gw_ret ?_
     refine nx_blk_ret (nx_then_ret (nx_then_ret (nx_blk_ret (nx_then_ret ?_))))
     refine nx_ret2 rfl rfl rfl fun wx hm => ?_
     exact ⟨by rw [hEO2, hfd, hat2]; rfl, hm.g⟩
    have hv0 : CB = false := by simpa using hh
    clear hh
    refine gw_skip (nx_blk_nrm (nx_then (gw_region ?_)))
    rw [if_neg (by rw [htm2, ← hCB, hv0]; decide)] at hat2
    refine ad_ rfl rfl (mv_ rfl (wl_nil ?_))
    exact nx_round (j + 1) ⟨by omega, by rw [hfd, hat2]⟩ (by omega) ⟨rfl, rfl, rfl, rfl, rfl, rfl, rfl, (some_int (by omega)), trivial⟩ (fun _ hm => hm.pick [1] [0] [0, 1, 2] rfl rfl)
   refine wl_set 67 rfl (congrArg Value.bool hq2) ?_
   replace hq2 := of_decide_eq_false hq2
   rw [if_neg (by rw [show inTm (⟨x0, x1, x2, x3, x4, x5⟩ : Bk) aa = false from by cases hh : inTm (⟨x0, x1, x2, x3, x4, x5⟩ : Bk) aa with | false => rfl | true => have := inTm_iff.1 hh; dsimp only at this; omega, Bool.false_and]; decide)] at hat2
   refine goff rfl rfl rfl (goff rfl rfl rfl (goff rfl rfl rfl (goff rfl rfl rfl (goff rfl rfl rfl (pf_ rfl rfl (nn_ (cf_ rfl (gw_skip (nx_blk_nrm (nx_then (gw_region (ad_ rfl rfl ?_))))))))))))
   refine mv_ rfl (wl_nil ?_)
   exact nx_round (j + 1) ⟨by omega, by rw [hfd, hat2]⟩ (by omega) ⟨rfl, rfl, rfl, rfl, rfl, rfl, rfl, (some_int (by omega)), trivial⟩ (fun _ hm => hm.pick [1] [0] [0, 1, 2] rfl rfl)
  refine wl_set 61 rfl (congrArg Value.bool hq1) ?_
  replace hq1 := of_decide_eq_false hq1
  rw [if_neg (by rw [show inTm (⟨x0, x1, x2, x3, x4, x5⟩ : Bk) aa = false from by cases hh : inTm (⟨x0, x1, x2, x3, x4, x5⟩ : Bk) aa with | false => rfl | true => have := inTm_iff.1 hh; dsimp only at this; omega, Bool.false_and]; decide)] at hat2
  refine goff rfl rfl rfl (goff rfl rfl rfl (goff rfl rfl rfl (goff rfl rfl rfl (pf_ rfl rfl (mv_ rfl (goff rfl rfl rfl (goff rfl rfl rfl (goff rfl rfl rfl (goff rfl rfl rfl (goff rfl rfl rfl (pf_ rfl rfl (nn_ ?_))))))))))))
  refine cf_ rfl (gw_skip (nx_blk_nrm (nx_then (gw_region (ad_ rfl rfl (mv_ rfl (wl_nil ?_)))))))
  exact nx_round (j + 1) ⟨by omega, by rw [hfd, hat2]⟩ (by omega) ⟨rfl, rfl, rfl, rfl, rfl, rfl, rfl, (some_int (by omega)), trivial⟩ (fun _ hm => hm.pick [1] [0] [0, 1, 2] rfl rfl)
 have hj : ¬ (((j : Nat) : Int) < (((i + 1) : Nat) : Int)) := by simpa using hh
 clear hh
 refine gw_exit ?_
 refine nx_then_exit (nx_then_exit ?_)
 refine nx_blk_here ?_
 refine nx_then (sr_ (sg_ rfl (sg_ rfl (nn_ ?_))))
 refine gw_ret ?_
 refine nx_ret2 rfl rfl rfl fun wx hm => ?_
 exact ⟨by rw [hEO2, hfd, List.drop_eq_nil_of_le (by omega)]; rfl, hm.g⟩
end Go.Proofs.YtempjmpfdniecaaGreatDoor
namespace Go.Proofs.YtempjmpfdniecaaGreatDoor
open Go.RowKit
theorem more_any (w : World) (B sb m : Nat) (hS : Strm 25 w B sb m) (hm : m ≤ 100000000) :
  Calls Tryz.prog 42 #[.pointer (some ⟨sb, 0, none⟩)] w (fun e w' => ∃ (x0 x1 : ByteArray) (x2 x3 x4 x5 : Int), e = .returned (.agg #[.string x0, .string x1, .int .i64 x2, .int .i64 x3, .int .i64 x4, .int .i64 x5]) ∧ BkB ⟨x0, x1, x2, x3, x4, x5⟩ ∧ Strm 25 w' B sb (m + 20) ∧ w.grownBy w' (some sb)) := by
 refine gw_enter ⟨34, w, (some sb), []⟩ Tryz.func42 rfl Tryz.ntmps42 rfl (memS (X := []) hS allF_nil allL_nil) ?_
 refine sr_ ?_
 refine wl_alloc zc92 rfl fun g1 => ?_
 refine nn_ (sr_ (mv_ rfl ?_))
 refine wl_buildSlice (e := 9) (cs := [.string ⟨#[98, 122]⟩, .string ⟨#[98, 122]⟩, .string ⟨#[97, 97]⟩, .string ⟨#[98, 97]⟩]) rfl (by kernel_rfl) rfl fun g2 => ?_
 refine wl_got (γ := ByteArray) (val := fun v => .string v) (φ := fun v => v ∈ ([⟨#[98, 122]⟩, ⟨#[98, 122]⟩, ⟨#[97, 97]⟩, ⟨#[98, 97]⟩] : List ByteArray)) rfl cb49 rfl rfl rfl rfl (fun wx hm => (some_any [⟨#[98, 122]⟩, ⟨#[98, 122]⟩, ⟨#[97, 97]⟩, ⟨#[98, 97]⟩] _ _ _ wx B sb _ hm.k (by omega) (by simp) (by simp) (hm.blkI 0 rfl) (hm.neRow 0 rfl rfl))) fun s3 hs3 => ?_
 have zs3 : s3.size ≤ 100 := mem_sz hs3 (by decide)
 refine mv_ rfl ?_
 refine wl_buildSlice (e := 9) (cs := [.string ⟨#[109, 105, 110, 105]⟩, .string ⟨#[109, 105, 100, 105]⟩, .string ⟨#[98, 105, 103]⟩, .string ⟨#[109, 97, 120, 105]⟩, .string ⟨#[110, 111, 110, 101]⟩]) rfl (by kernel_rfl) rfl fun g4 => ?_
 refine wl_got (γ := ByteArray) (val := fun v => .string v) (φ := fun v => v ∈ ([⟨#[109, 105, 110, 105]⟩, ⟨#[109, 105, 100, 105]⟩, ⟨#[98, 105, 103]⟩, ⟨#[109, 97, 120, 105]⟩, ⟨#[110, 111, 110, 101]⟩] : List ByteArray)) rfl cb49 rfl rfl rfl rfl (fun wx hm => (some_any [⟨#[109, 105, 110, 105]⟩, ⟨#[109, 105, 100, 105]⟩, ⟨#[98, 105, 103]⟩, ⟨#[109, 97, 120, 105]⟩, ⟨#[110, 111, 110, 101]⟩] _ _ _ wx B sb _ hm.k (by omega) (by simp) (by simp) (hm.blkI 0 rfl) (hm.neRow 0 rfl rfl))) fun s5 hs5 => ?_
 have zs5 : s5.size ≤ 100 := mem_sz hs5 (by decide)
 refine wl_ov (ov_build (cs := [.string s3, .string s5, .int .i64 0, .int .i64 0, .int .i64 0, .int .i64 50]) rfl (by kernel_rfl)) rfl ?_
 refine wl_alloc zc92 rfl fun g6 => ?_
 refine wl_stores (cs' := [.string s3, .string s5, .int .i64 0, .int .i64 0, .int .i64 0, .int .i64 50]) 0 rz92 rfl rfl rfl rfl rfl rfl rfl rfl ?_
 refine nn_ (sr_ (mv_ rfl ?_))
 refine wl_buildSlice (e := 3) (cs := [.int .i64 0, .int .i64 10, .int .i64 15, .int .i64 25, .int .i64 5761410]) rfl (by kernel_rfl) rfl fun g7 => ?_
 refine wl_got (γ := Int) (val := fun v => .int .i64 v) (φ := fun v => v ∈ ([0, 10, 15, 25, 5761410] : List Int)) rfl cb11 rfl rfl rfl rfl (fun wx hm => (pick_any [0, 10, 15, 25, 5761410] _ _ _ wx B sb _ hm.k (by omega) (by simp) (by simp) (hm.blkI 0 rfl) (hm.neRow 0 rfl rfl))) fun v8 hv8 => ?_
 have bv8 : 0 ≤ v8 ∧ v8 ≤ 5761410 := mem_rng hv8 (by decide)
 have bv80 := bv8.1
 have bv81 := bv8.2
 clear bv8
 refine fd_ fo92_2 rfl rfl (fd_ fo27_0 rfl rfl ?_)
 refine wl_store 1 sc3 rfl rfl rfl rfl rfl rfl ?_
 refine nn_ (gw_seq ?_)
 refine gd (fun wz => Blk wz g7 3 [.int .i64 0, .int .i64 10, .int .i64 15, .int .i64 25, .int .i64 5761410] ∧ Blk wz g4 9 [.string ⟨#[109, 105, 110, 105]⟩, .string ⟨#[109, 105, 100, 105]⟩, .string ⟨#[98, 105, 103]⟩, .string ⟨#[109, 97, 120, 105]⟩, .string ⟨#[110, 111, 110, 101]⟩] ∧ Blk wz g2 9 [.string ⟨#[98, 122]⟩, .string ⟨#[98, 122]⟩, .string ⟨#[97, 97]⟩, .string ⟨#[98, 97]⟩] ∧ Blk wz g1 92 [.string ⟨#[]⟩, .string ⟨#[]⟩, .int .i64 0, .int .i64 0, .int .i64 0, .int .i64 0] ∧ True) mixed (fun _ hm => ⟨hm.bl 0, hm.bl 2, hm.bl 3, hm.bl 4, trivial⟩) fun z => ?_
 refine wt 0 10 1 rfl z (ov_field fo92_2 rfl rfl) ?_
 refine wt 1 10 3 rfl z (ov_field fo27_0 rfl rfl) ?_
 refine wt 3 10 11 rfl z (ov_move rfl) ?_
 refine wa_all [2, 4] (by kernel_rfl) rfl ⟨⟨_, rfl, ?_⟩, ⟨_, rfl, ?_⟩, trivial⟩
 ·refine lk_ sc3 1 rfl rfl rfl (wl_nil ?_)
  refine nw 10 15 (fun _ hm => ⟨hm.bl 0, hm.bl 2, hm.bl 3, hm.bl 4, trivial⟩) fun z => ?_
  refine wa1 4 rfl ?_
  refine wl_buildSlice (e := 3) (cs := [.int .i64 1, .int .i64 5, .int .i64 10, .int .i64 10, .int .i64 29, .int .i64 0]) rfl (by kernel_rfl) rfl fun g9 => ?_
  refine wl_nil ?_
  refine nw 10 31 (fun _ hm => ⟨hm.bl 1, hm.bl 3, hm.bl 4, hm.bl 5, trivial⟩) fun z => ?_
  refine wa1 5 rfl ?_
  refine wl_got (γ := Int) (val := fun v => .int .i64 v) (φ := fun v => v ∈ ([1, 5, 10, 10, 29, 0] : List Int)) rfl cb11 rfl rfl rfl rfl (fun wx hm => (pick_any [1, 5, 10, 10, 29, 0] _ _ _ wx B sb _ hm.k (by omega) (by simp) (by simp) (hm.blkI 0 rfl) (hm.neRow 0 rfl rfl))) fun v10 hv10 => ?_
  have bv10 : 0 ≤ v10 ∧ v10 ≤ 29 := mem_rng hv10 (by decide)
  have bv100 := bv10.1
  have bv101 := bv10.2
  clear bv10
  refine wl_nil ?_
  refine nw 10 63 (fun _ hm => ⟨hm.bl 1, hm.bl 3, hm.bl 4, hm.bl 5, trivial⟩) fun z => ?_
  refine wt 6 10 127 rfl z (ov_add rfl rfl (by omega) (by omega)) ?_
  refine wt 7 10 255 rfl z (ov_field fo92_2 rfl rfl) ?_
  refine wt 8 10 511 rfl z (ov_field fo27_1 rfl rfl) ?_
  refine wa1 9 rfl ?_
  refine wl_store 2 sc3 rfl rfl rfl rfl rfl rfl ?_
  refine wl_nil ?_
  refine nw 10 1023 (fun _ hm => ⟨hm.bl 1, hm.bl 3, hm.bl 4, hm.bl 5, trivial⟩) fun z => ?_
  refine wa_done (by kernel_rfl) ?_
  refine nx_then (gw_seq (sr_ (mv_ rfl ?_)))
  refine wl_got (γ := Bool) (val := fun v => .bool v) (φ := fun v => True) rfl cb64 rfl rfl rfl rfl (fun wx hm => ((flip_any _ wx B sb _ hm.k (by omega) (by omega) (by omega)).mono fun _ _ ⟨v, he, hS, hg⟩ => ⟨v, trivial, he, hS, hg⟩)) fun f11 _ => ?_
  refine nn_ ?_
  refine gw_cond rfl (fun hh => ?_) (fun hh => ?_)
  ·have hf : f11 = true := by simpa using hh
   clear hh
   refine gw_region (mv_ rfl ?_)
   refine wl_got (γ := Int) (val := fun v => .int .i64 v) (φ := fun v => -2000000000000000 ≤ v ∧ v ≤ 2000000000000000) rfl cb88 rfl rfl rfl rfl (fun wx hm => (odd_any _ _ wx B sb _ hm.k (by omega) (by omega) (by omega) (by omega))) fun v12 hv12 => ?_
   refine mv_ rfl ?_
   refine wl_got (γ := Int) (val := fun v => .int .i64 v) (φ := fun v => -2000000000000000 ≤ v ∧ v ≤ 2000000000000000) rfl cb88 rfl rfl rfl rfl (fun wx hm => (odd_any _ _ wx B sb _ hm.k (by omega) (by omega) (by omega) (by omega))) fun v13 hv13 => ?_
   refine fd_ fo92_4 rfl rfl ?_
   refine wl_store 2 sc3 rfl rfl rfl rfl rfl rfl ?_
   refine fd_ fo92_3 rfl rfl ?_
   refine wl_store 2 sc3 rfl rfl rfl rfl rfl rfl ?_
   refine nn_ (sr_ ?_)
   refine wl_ov (ov_loads rz92 rfl (fun _ hm => hm.blkI 2 rfl) rfl rfl) rfl ?_
   refine wl_stores (cs' := [.string s3, .string s5, .int .i64 v8, .int .i64 (v8 + v10), .int .i64 v13, .int .i64 v12]) 5 rz92 rfl rfl rfl rfl rfl rfl rfl rfl ?_
   refine nn_ ?_
   refine gw_ret ?_
   refine nx_retc 5 rfl rz92 rfl rfl rfl fun wx hm => ?_
   exact ⟨s3, s5, v8, (v8 + v10), v13, v12, rfl, ⟨by dsimp only; omega, by dsimp only; omega, ⟨by dsimp only; omega, by dsimp only; omega⟩, ⟨by dsimp only; omega, by dsimp only; omega⟩, ⟨by dsimp only; omega, by dsimp only; omega⟩, ⟨by dsimp only; omega, by dsimp only; omega⟩⟩, hm.k.more (by omega), hm.g⟩
  have hf : f11 = false := by simpa using hh
  clear hh
  refine gw_skip (nx_then (sr_ ?_))
  refine wl_ov (ov_loads rz92 rfl (fun _ hm => hm.blkI 2 rfl) rfl rfl) rfl ?_
  refine wl_stores (cs' := [.string s3, .string s5, .int .i64 v8, .int .i64 (v8 + v10), .int .i64 0, .int .i64 50]) 5 rz92 rfl rfl rfl rfl rfl rfl rfl rfl ?_
  refine nn_ ?_
  refine gw_ret ?_
  refine nx_retc 5 rfl rz92 rfl rfl rfl fun wx hm => ?_
  exact ⟨s3, s5, v8, (v8 + v10), 0, 50, rfl, ⟨by dsimp only; omega, by dsimp only; omega, ⟨by dsimp only; omega, by dsimp only; omega⟩, ⟨by dsimp only; omega, by dsimp only; omega⟩, ⟨by dsimp only; omega, by dsimp only; omega⟩, ⟨by dsimp only; omega, by dsimp only; omega⟩⟩, hm.k.more (by omega), hm.g⟩
 refine wl_buildSlice (e := 3) (cs := [.int .i64 1, .int .i64 5, .int .i64 10, .int .i64 10, .int .i64 29, .int .i64 0]) rfl (by kernel_rfl) rfl fun g14 => ?_
 refine wl_nil ?_
 refine nw 10 27 (fun _ hm => ⟨hm.bl 1, hm.bl 3, hm.bl 4, hm.bl 5, trivial⟩) fun z => ?_
 refine wa_all [2, 5] (by kernel_rfl) rfl ⟨⟨_, rfl, ?_⟩, ⟨_, rfl, ?_⟩, trivial⟩
 ·refine lk_ sc3 2 rfl rfl rfl (wl_nil ?_)
  refine nw 10 31 (fun _ hm => ⟨hm.bl 1, hm.bl 3, hm.bl 4, hm.bl 5, trivial⟩) fun z => ?_
  refine wa1 5 rfl ?_
  refine wl_got (γ := Int) (val := fun v => .int .i64 v) (φ := fun v => v ∈ ([1, 5, 10, 10, 29, 0] : List Int)) rfl cb11 rfl rfl rfl rfl (fun wx hm => (pick_any [1, 5, 10, 10, 29, 0] _ _ _ wx B sb _ hm.k (by omega) (by simp) (by simp) (hm.blkI 0 rfl) (hm.neRow 0 rfl rfl))) fun v15 hv15 => ?_
  have bv15 : 0 ≤ v15 ∧ v15 ≤ 29 := mem_rng hv15 (by decide)
  have bv150 := bv15.1
  have bv151 := bv15.2
  clear bv15
  refine wl_nil ?_
  refine nw 10 63 (fun _ hm => ⟨hm.bl 1, hm.bl 3, hm.bl 4, hm.bl 5, trivial⟩) fun z => ?_
  refine wt 6 10 127 rfl z (ov_add rfl rfl (by omega) (by omega)) ?_
  refine wt 7 10 255 rfl z (ov_field fo92_2 rfl rfl) ?_
  refine wt 8 10 511 rfl z (ov_field fo27_1 rfl rfl) ?_
  refine wa1 9 rfl ?_
  refine wl_store 2 sc3 rfl rfl rfl rfl rfl rfl ?_
  refine wl_nil ?_
  refine nw 10 1023 (fun _ hm => ⟨hm.bl 1, hm.bl 3, hm.bl 4, hm.bl 5, trivial⟩) fun z => ?_
  refine wa_done (by kernel_rfl) ?_
  refine nx_then (gw_seq (sr_ (mv_ rfl ?_)))
  refine wl_got (γ := Bool) (val := fun v => .bool v) (φ := fun v => True) rfl cb64 rfl rfl rfl rfl (fun wx hm => ((flip_any _ wx B sb _ hm.k (by omega) (by omega) (by omega)).mono fun _ _ ⟨v, he, hS, hg⟩ => ⟨v, trivial, he, hS, hg⟩)) fun f16 _ => ?_
  refine nn_ ?_
  refine gw_cond rfl (fun hh => ?_) (fun hh => ?_)
  ·have hf : f16 = true := by simpa using hh
   clear hh
   refine gw_region (mv_ rfl ?_)
   refine wl_got (γ := Int) (val := fun v => .int .i64 v) (φ := fun v => -2000000000000000 ≤ v ∧ v ≤ 2000000000000000) rfl cb88 rfl rfl rfl rfl (fun wx hm => (odd_any _ _ wx B sb _ hm.k (by omega) (by omega) (by omega) (by omega))) fun v17 hv17 => ?_
   refine mv_ rfl ?_
   refine wl_got (γ := Int) (val := fun v => .int .i64 v) (φ := fun v => -2000000000000000 ≤ v ∧ v ≤ 2000000000000000) rfl cb88 rfl rfl rfl rfl (fun wx hm => (odd_any _ _ wx B sb _ hm.k (by omega) (by omega) (by omega) (by omega))) fun v18 hv18 => ?_
   refine fd_ fo92_4 rfl rfl ?_
   refine wl_store 2 sc3 rfl rfl rfl rfl rfl rfl ?_
   refine fd_ fo92_3 rfl rfl ?_
   refine wl_store 2 sc3 rfl rfl rfl rfl rfl rfl ?_
   refine nn_ (sr_ ?_)
   refine wl_ov (ov_loads rz92 rfl (fun _ hm => hm.blkI 2 rfl) rfl rfl) rfl ?_
   refine wl_stores (cs' := [.string s3, .string s5, .int .i64 v8, .int .i64 (v8 + v15), .int .i64 v18, .int .i64 v17]) 5 rz92 rfl rfl rfl rfl rfl rfl rfl rfl ?_
   refine nn_ ?_
   refine gw_ret ?_
   refine nx_retc 5 rfl rz92 rfl rfl rfl fun wx hm => ?_
   exact ⟨s3, s5, v8, (v8 + v15), v18, v17, rfl, ⟨by dsimp only; omega, by dsimp only; omega, ⟨by dsimp only; omega, by dsimp only; omega⟩, ⟨by dsimp only; omega, by dsimp only; omega⟩, ⟨by dsimp only; omega, by dsimp only; omega⟩, ⟨by dsimp only; omega, by dsimp only; omega⟩⟩, hm.k.more (by omega), hm.g⟩
  have hf : f16 = false := by simpa using hh
  clear hh
  refine gw_skip (nx_then (sr_ ?_))
  refine wl_ov (ov_loads rz92 rfl (fun _ hm => hm.blkI 2 rfl) rfl rfl) rfl ?_
  refine wl_stores (cs' := [.string s3, .string s5, .int .i64 v8, .int .i64 (v8 + v15), .int .i64 0, .int .i64 50]) 5 rz92 rfl rfl rfl rfl rfl rfl rfl rfl ?_
  refine nn_ ?_
  refine gw_ret ?_
  refine nx_retc 5 rfl rz92 rfl rfl rfl fun wx hm => ?_
  exact ⟨s3, s5, v8, (v8 + v15), 0, 50, rfl, ⟨by dsimp only; omega, by dsimp only; omega, ⟨by dsimp only; omega, by dsimp only; omega⟩, ⟨by dsimp only; omega, by dsimp only; omega⟩, ⟨by dsimp only; omega, by dsimp only; omega⟩, ⟨by dsimp only; omega, by dsimp only; omega⟩⟩, hm.k.more (by omega), hm.g⟩
 refine wl_got (γ := Int) (val := fun v => .int .i64 v) (φ := fun v => v ∈ ([1, 5, 10, 10, 29, 0] : List Int)) rfl cb11 rfl rfl rfl rfl (fun wx hm => (pick_any [1, 5, 10, 10, 29, 0] _ _ _ wx B sb _ hm.k (by omega) (by simp) (by simp) (hm.blkI 0 rfl) (hm.neRow 0 rfl rfl))) fun v19 hv19 => ?_
 have bv19 : 0 ≤ v19 ∧ v19 ≤ 29 := mem_rng hv19 (by decide)
 have bv190 := bv19.1
 have bv191 := bv19.2
 clear bv19
 refine wl_nil ?_
 refine nw 10 59 (fun _ hm => ⟨hm.bl 1, hm.bl 3, hm.bl 4, hm.bl 5, trivial⟩) fun z => ?_
 refine wa1 2 rfl ?_
 refine lk_ sc3 2 rfl rfl rfl (wl_nil ?_)
 refine nw 10 63 (fun _ hm => ⟨hm.bl 1, hm.bl 3, hm.bl 4, hm.bl 5, trivial⟩) fun z => ?_
 refine wt 6 10 127 rfl z (ov_add rfl rfl (by omega) (by omega)) ?_
 refine wt 7 10 255 rfl z (ov_field fo92_2 rfl rfl) ?_
 refine wt 8 10 511 rfl z (ov_field fo27_1 rfl rfl) ?_
 refine wa1 9 rfl ?_
 refine wl_store 2 sc3 rfl rfl rfl rfl rfl rfl ?_
 refine wl_nil ?_
 refine nw 10 1023 (fun _ hm => ⟨hm.bl 1, hm.bl 3, hm.bl 4, hm.bl 5, trivial⟩) fun z => ?_
 refine wa_done (by kernel_rfl) ?_
 refine nx_then (gw_seq (sr_ (mv_ rfl ?_)))
 refine wl_got (γ := Bool) (val := fun v => .bool v) (φ := fun v => True) rfl cb64 rfl rfl rfl rfl (fun wx hm => ((flip_any _ wx B sb _ hm.k (by omega) (by omega) (by omega)).mono fun _ _ ⟨v, he, hS, hg⟩ => ⟨v, trivial, he, hS, hg⟩)) fun f20 _ => ?_
 refine nn_ ?_
 refine gw_cond rfl (fun hh => ?_) (fun hh => ?_)
 ·have hf : f20 = true := by simpa using hh
  clear hh
  refine gw_region (mv_ rfl ?_)
  refine wl_got (γ := Int) (val := fun v => .int .i64 v) (φ := fun v => -2000000000000000 ≤ v ∧ v ≤ 2000000000000000) rfl cb88 rfl rfl rfl rfl (fun wx hm => (odd_any _ _ wx B sb _ hm.k (by omega) (by omega) (by omega) (by omega))) fun v21 hv21 => ?_
  refine mv_ rfl ?_
  refine wl_got (γ := Int) (val := fun v => .int .i64 v) (φ := fun v => -2000000000000000 ≤ v ∧ v ≤ 2000000000000000) rfl cb88 rfl rfl rfl rfl (fun wx hm => (odd_any _ _ wx B sb _ hm.k (by omega) (by omega) (by omega) (by omega))) fun v22 hv22 => ?_
  refine fd_ fo92_4 rfl rfl ?_
  refine wl_store 2 sc3 rfl rfl rfl rfl rfl rfl ?_
  refine fd_ fo92_3 rfl rfl ?_
  refine wl_store 2 sc3 rfl rfl rfl rfl rfl rfl ?_
  refine nn_ (sr_ ?_)
  refine wl_ov (ov_loads rz92 rfl (fun _ hm => hm.blkI 2 rfl) rfl rfl) rfl ?_
  refine wl_stores (cs' := [.string s3, .string s5, .int .i64 v8, .int .i64 (v8 + v19), .int .i64 v22, .int .i64 v21]) 5 rz92 rfl rfl rfl rfl rfl rfl rfl rfl ?_
  refine nn_ ?_
  refine gw_ret ?_
  refine nx_retc 5 rfl rz92 rfl rfl rfl fun wx hm => ?_
  exact ⟨s3, s5, v8, (v8 + v19), v22, v21, rfl, ⟨by dsimp only; omega, by dsimp only; omega, ⟨by dsimp only; omega, by dsimp only; omega⟩, ⟨by dsimp only; omega, by dsimp only; omega⟩, ⟨by dsimp only; omega, by dsimp only; omega⟩, ⟨by dsimp only; omega, by dsimp only; omega⟩⟩, hm.k.more (by omega), hm.g⟩
 have hf : f20 = false := by simpa using hh
 clear hh
 refine gw_skip (nx_then (sr_ ?_))
 refine wl_ov (ov_loads rz92 rfl (fun _ hm => hm.blkI 2 rfl) rfl rfl) rfl ?_
 refine wl_stores (cs' := [.string s3, .string s5, .int .i64 v8, .int .i64 (v8 + v19), .int .i64 0, .int .i64 50]) 5 rz92 rfl rfl rfl rfl rfl rfl rfl rfl ?_
 refine nn_ ?_
 refine gw_ret ?_
 refine nx_retc 5 rfl rz92 rfl rfl rfl fun wx hm => ?_
 exact ⟨s3, s5, v8, (v8 + v19), 0, 50, rfl, ⟨by dsimp only; omega, by dsimp only; omega, ⟨by dsimp only; omega, by dsimp only; omega⟩, ⟨by dsimp only; omega, by dsimp only; omega⟩, ⟨by dsimp only; omega, by dsimp only; omega⟩, ⟨by dsimp only; omega, by dsimp only; omega⟩⟩, hm.k.more (by omega), hm.g⟩
end Go.Proofs.YtempjmpfdniecaaGreatDoor
namespace Go.Proofs.YtempjmpfdniecaaGreatDoor
open Go.RowKit
theorem erl_pq (o : Option Int) : (erlQ o).1 = (erlP o).1 ∧ (erlP o).2 = whenE (!(erlQ o).2) 12 := by
  cases o <;> exact ⟨rfl, rfl⟩
theorem canAdd_walk (a0 : Option Addr) (len0 cap0 : Nat) (z0 : List Int) (w : World) (hR : RowIn w a0 len0 cap0 z0) :
  Calls Tryz.prog 6 #[.slice a0 len0 cap0] w fun e w' => e = .returned (.bool true) ∧ Below w.heap.size w w' := by
 refine gw_enter ⟨114, w, none, []⟩ Tryz.func6 rfl Tryz.ntmps6 rfl (mem0 (X := []) allF_nil allL_nil) ?_
 refine sr_ (sg_ rfl (nn_ (sr_ (mv_ rfl ?_))))
 refine wl_ov (ov_build (cs := [.slice a0 len0 cap0, .int .i64 0]) rfl (by kernel_rfl)) rfl ?_
 refine wl_box rfl rfl rfl fun sb => ?_
 refine sg_ rfl (nn_ ?_)
 refine gw_law [158, 211, 92] hR 0 rfl fun w1 B hg1 hsb => ?_
 refine sr_ (mv_ rfl (mv_ rfl ?_))
 refine wl_buildSlice (e := 3) (cs := [.int .i64 0, .int .i64 1, .int .i64 2, .int .i64 3, .int .i64 4, .int .i64 5, .int .i64 7]) rfl (by kernel_rfl) rfl fun g1 => ?_
 refine wl_got (γ := Int) (val := fun v => .int .i64 v) (φ := fun v => v ∈ ([0, 1, 2, 3, 4, 5, 7] : List Int)) rfl cb11 rfl rfl rfl rfl (fun wx hm => (pick_any [0, 1, 2, 3, 4, 5, 7] _ _ _ wx B sb _ hm.k (by omega) (by simp) (by simp) (hm.blkI 0 rfl) (hm.neRow 0 rfl rfl))) fun pk hpk => ?_
 have bpk : 0 ≤ pk ∧ pk ≤ 7 := mem_rng hpk (by decide)
 have bpk0 := bpk.1
 have bpk1 := bpk.2
 clear bpk
 obtain ⟨q, rfl⟩ := Int.eq_ofNat_of_zero_le (show 0 ≤ pk by omega)
 have hq9 : q ≤ 9 := by omega
 refine wl_calls (γ := Option Addr × Nat × List Cs × Option Addr × Nat × Nat × List Sk × Option Addr × Nat × Nat × List Bk) (val := (fun g => .agg #[.slice g.1 4 g.2.1, .slice g.2.2.2.1 g.2.2.2.2.1 g.2.2.2.2.2.1, .slice g.2.2.2.2.2.2.2.1 g.2.2.2.2.2.2.2.2.1 g.2.2.2.2.2.2.2.2.2.1, .int .i64 (stockE g.2.2.1 g.2.2.2.2.2.2.1), .int .i64 (checkE g.2.2.1 g.2.2.2.2.2.2.2.2.2.2)])) (φ := (fun g => (∀ x ∈ g.2.2.1, CsOk x) ∧ (∀ x ∈ g.2.2.2.2.2.2.1, SkOk x) ∧ (∀ x ∈ g.2.2.2.2.2.2.2.2.2.2, BkOk x) ∧ g.2.2.2.2.1 ≤ 5 ∧ g.2.2.2.2.2.2.2.2.1 ≤ 9)) (Y := (fun g => fun wy => SlT csEnc 2 158 wy g.1 4 g.2.2.1 ∧ SlT skEnc 2 211 wy g.2.2.2.1 g.2.2.2.2.1 g.2.2.2.2.2.2.1 ∧ SlT bkEnc 6 92 wy g.2.2.2.2.2.2.2.1 g.2.2.2.2.2.2.2.2.1 g.2.2.2.2.2.2.2.2.2.2)) (m' := 0 + 1 + 2000) rfl cb34 rfl rfl rfl rfl (fun wx hm => (counterOf_any q wx B sb _ hm.k (by omega) hq9).mono fun _ _ ⟨A0, c0, cs, A1, n1, c1, sl, A, n, c, l, he, h0, h1, h2, hco, hso, hok, hn1, hn, hS, hg⟩ => ⟨(A0, c0, cs, A1, n1, c1, sl, A, n, c, l), he, ⟨hco, hso, hok, hn1, hn⟩, hS, hg, ⟨h0, h1, h2⟩⟩) (fun _ => (SlT.lasts2 rfl).and_ ((SlT.lasts2 rfl).and_ (SlT.lasts2 rfl))) ?_
 rintro ⟨A0, c0, cs, A1, n1, c1, sl, A, n, c, l⟩ hH
 dsimp only at hH ⊢
 obtain ⟨hco, hso, hok, hn5, hn9⟩ := hH
 refine mv_ rfl ?_
 refine wl_calls (γ := ByteArray × ByteArray × Int × Int × Int × Int) (val := (fun g => .agg #[.string g.1, .string g.2.1, .int .i64 g.2.2.1, .int .i64 g.2.2.2.1, .int .i64 g.2.2.2.2.1, .int .i64 g.2.2.2.2.2])) (φ := (fun g => BkB (⟨g.1, g.2.1, g.2.2.1, g.2.2.2.1, g.2.2.2.2.1, g.2.2.2.2.2⟩ : Bk))) (Y := (fun g => fun _ => True)) (m' := 0 + 1 + 2000 + 20) rfl cb42 rfl rfl rfl rfl (fun wx hm => (more_any wx B sb _ hm.k (by omega)).mono fun _ _ ⟨x0, x1, x2, x3, x4, x5, he, hb, hS, hg⟩ => ⟨(x0, x1, x2, x3, x4, x5), he, hb, hS, hg, trivial⟩) (fun _ => Lasts2.true_) ?_
 rintro ⟨x0, x1, x2, x3, x4, x5⟩ hbb
 dsimp only at hbb ⊢
 refine wl_nest none [] fun w2 hm_w2 => ⟨_, _, _, _, mem0 (X := [BlkOld w2.heap.size none g1 3 [.int .i64 0, .int .i64 1, .int .i64 2, .int .i64 3, .int .i64 4, .int .i64 5, .int .i64 7], SlOld csEnc 2 158 w2.heap.size none A0 4 cs, SlOld skEnc 2 211 w2.heap.size none A1 n1 sl, SlOld bkEnc 6 92 w2.heap.size none A n l]) (allF_cons (hm_w2.blkI 0 rfl).old (allF_cons (SlT.old (hm_w2.fact 1 rfl).1) (allF_cons (SlT.old (hm_w2.fact 1 rfl).2.1) (allF_cons (SlT.old (hm_w2.fact 1 rfl).2.2) allF_nil)))) (allL_cons BlkOld.lasts (allL_cons SlOld.lasts (allL_cons SlOld.lasts (allL_cons SlOld.lasts allL_nil)))), ?_⟩
 refine wl_alloc zc78 rfl fun g3 => ?_
 refine wl_alloc zc92 rfl fun g4 => ?_
 refine wl_stores (cs' := [.slice A0 4 c0, .slice A1 n1 c1, .slice A n c, .int .i64 (stockE cs sl), .int .i64 (checkE cs l)]) 1 rz78 rfl rfl rfl rfl rfl rfl rfl rfl ?_
 refine wl_stores (cs' := [.string x0, .string x1, .int .i64 x2, .int .i64 x3, .int .i64 x4, .int .i64 x5]) 0 rz92 rfl rfl rfl rfl rfl rfl rfl rfl ?_
 refine nn_ (sr_ (fd_ fo78_0 rfl rfl (lk_ sc58 1 rfl rfl rfl (fd_ fo78_1 rfl rfl (lk_ sc75 1 rfl rfl rfl (fd_ fo78_2 rfl rfl (lk_ sc76 1 rfl rfl rfl ?_)))))))
 refine wl_ov (ov_loads rz92 rfl (fun _ hm => hm.blkI 0 rfl) rfl rfl) rfl ?_
 have hbo : BkOk (⟨x0, x1, x2, x3, x4, x5⟩ : Bk) := bkB_ok hbb
 obtain ⟨CE, hCE⟩ : ∃ z, z = canE cs sl l (⟨x0, x1, x2, x3, x4, x5⟩ : Bk) := ⟨_, rfl⟩
 obtain ⟨CB, hCB⟩ : ∃ z, z = canB cs sl l (⟨x0, x1, x2, x3, x4, x5⟩ : Bk) := ⟨_, rfl⟩
 obtain ⟨hp1, hp2⟩ := erl_pq (erlO cs sl l (⟨x0, x1, x2, x3, x4, x5⟩ : Bk))
 obtain ⟨P1, hP1⟩ : ∃ z, z = (erlP (erlO cs sl l (⟨x0, x1, x2, x3, x4, x5⟩ : Bk))).1 := ⟨_, rfl⟩
 obtain ⟨P2, hP2⟩ : ∃ z, z = (erlP (erlO cs sl l (⟨x0, x1, x2, x3, x4, x5⟩ : Bk))).2 := ⟨_, rfl⟩
 obtain ⟨C2, hC2⟩ : ∃ z, z = (erlQ (erlO cs sl l (⟨x0, x1, x2, x3, x4, x5⟩ : Bk))).2 := ⟨_, rfl⟩
 rw [← hP1] at hp1
 rw [← hP2, ← hC2] at hp2
 by_cases h0 : CE = 0
 ·obtain ⟨hz0, hz1⟩ := canE_ok (hCE.symm.trans h0)
  obtain ⟨hz2, _, hz6⟩ := newE_ok hz1
  obtain ⟨hzk, hzt⟩ := oneB_has hz0 hz2
  obtain ⟨hkw, htw⟩ := with_has hz0 hzk hzt
  obtain ⟨⟨h30, hcl, hlo⟩, hmany, _, htm, _⟩ := right_has hz0
  refine wl_look (R := l.length = n) (fun wx hm => (hm.fact 3 rfl).1.len) ?_
  intro hlen
  refine wl_callv (v := .tuple #[.bool CB, .int .i64 0]) rfl cb43 rfl rfl (fun wx hm => (by have h := can_any cs A0 4 c0 sl A1 n1 c1 l A n c x0 x1 x2 x3 x4 x5 wx (hm.fact 1 rfl).1 hco (by omega) (hm.fact 2 rfl).1 hso (by omega) (hm.fact 3 rfl).1 hok (by omega) hbo; rw [← hCE, if_pos h0, ← hCB, h0] at h; exact h)) ?_
  refine mv_ rfl (wl_ov (ov_extract rfl rfl) rfl (wl_ov (ov_extract rfl rfl) rfl (sg_ rfl (sg_ rfl (nn_ (sr_ (fd_ fo78_0 rfl rfl (lk_ sc58 1 rfl rfl rfl (fd_ fo78_1 rfl rfl (lk_ sc75 1 rfl rfl rfl (fd_ fo78_2 rfl rfl ?_)))))))))))
  refine lk_ sc76 1 rfl rfl rfl ?_
  refine wl_ov (ov_loads rz92 rfl (fun _ hm => hm.blkI 0 rfl) rfl rfl) rfl ?_
  refine wl_callv (v := .tuple #[.int .i64 P1, .int .i64 P2]) rfl cb44 rfl rfl (fun wx hm => (by have h := earliest_any cs A0 4 c0 sl A1 n1 c1 l A n c x0 x1 x2 x3 x4 x5 wx (hm.fact 1 rfl).1 hco (by omega) (hm.fact 2 rfl).1 hso (by omega) (hm.fact 3 rfl).1 hok (by omega) hbo; rw [← hCE, if_pos h0, if_pos h0, ← hP1, ← hP2] at h; exact h)) ?_
  refine mv_ rfl (wl_ov (ov_extract rfl rfl) rfl (wl_ov (ov_extract rfl rfl) rfl (sg_ rfl (sg_ rfl (nn_ (sr_ ?_))))))
  refine wl_ov (ov_loads rz78 rfl (fun _ hm => hm.blkI 1 rfl) rfl rfl) rfl ?_
  refine wl_callv (v := .int .i64 0) rfl cb37 rfl rfl (fun wx hm => (by have h := call_any A0 A1 A 4 c0 n1 c1 n c (stockE cs sl) (checkE cs l) wx; rw [hz0] at h; exact h)) ?_
  refine sg_ rfl (nn_ (gw_seq (sr_ (mv_ rfl (wl_ov (ov_eql rfl rfl) rfl ?_)))))
  refine wl_set 48 (v' := .bool true) rfl (congrArg Value.bool (by decide)) ?_
  refine nn_ (ct_ rfl (gw_region (fd_ fo78_0 rfl rfl (lk_ sc58 1 rfl rfl rfl (fd_ fo78_2 rfl rfl (lk_ sc76 1 rfl rfl rfl ?_))))))
  refine wl_ov (ov_loads rz92 rfl (fun _ hm => hm.blkI 0 rfl) rfl rfl) rfl ?_
  refine wl_callv (v := .int .i64 0) rfl cb45 rfl rfl (fun wx hm => (by have h := canFault_any cs A0 4 c0 l A n c x0 x1 x2 x3 x4 x5 wx (hm.fact 1 rfl).1 hco (by omega) (hm.fact 3 rfl).1 hok (by omega) hbo; rw [hz1] at h; exact h)) ?_
  refine sg_ rfl (nn_ (gw_seq (sr_ (mv_ rfl (wl_ov (ov_neq rfl rfl) rfl ?_)))))
  refine wl_set 56 (v' := .bool false) rfl (congrArg Value.bool (by decide)) ?_
  refine nn_ (cf_ rfl (gw_skip (nx_then (gw_seq (sr_ (mv_ rfl (wl_ov (ov_neq rfl rfl) rfl ?_)))))))
  refine wl_set 77 (v' := .bool false) rfl (congrArg Value.bool (by decide)) ?_
  refine mv_ rfl (wl_guard_on rfl rfl rfl (mv_ rfl (wl_guard_on rfl rfl rfl (fd_ fo78_0 rfl rfl (wl_guard_on rfl rfl rfl (lk_ sc58 1 rfl rfl rfl (wl_guard_on rfl rfl rfl (fd_ fo78_1 rfl rfl (wl_guard_on rfl rfl rfl (lk_ sc75 1 rfl rfl rfl (wl_guard_on rfl rfl rfl (fd_ fo78_2 rfl rfl (wl_guard_on rfl rfl rfl ?_)))))))))))))
  refine lk_ sc76 1 rfl rfl rfl (wl_guard_on rfl rfl rfl ?_)
  refine wl_ov (ov_loads rz92 rfl (fun _ hm => hm.blkI 0 rfl) rfl rfl) rfl ?_
  refine wl_guard_on rfl rfl rfl ?_
  refine wl_callv (v := .bool CB) rfl cb46 rfl rfl (fun wx hm => (by have h := canOf_any cs A0 4 c0 sl A1 n1 c1 l A n c x0 x1 x2 x3 x4 x5 wx (hm.fact 1 rfl).1 hco (by omega) hcl hlo (hm.fact 2 rfl).1 hso (by omega) hmany (hm.fact 3 rfl).1 (by omega) hkw htw; rw [← hCB] at h; exact h)) ?_
  refine wl_guard_on rfl rfl rfl ?_
  refine wl_ov (ov_bneq (by kernel_rfl) rfl rfl) rfl ?_
  refine pf_ rfl rfl (nn_ ?_)
  refine gw_set 89 (v' := .bool false) rfl (congrArg Value.bool (by simp)) ?_
  refine cf_ rfl (gw_skip (nx_then (sr_ (fd_ fo78_0 rfl rfl (lk_ sc58 1 rfl rfl rfl (fd_ fo78_1 rfl rfl (lk_ sc75 1 rfl rfl rfl (fd_ fo78_2 rfl rfl (lk_ sc76 1 rfl rfl rfl ?_)))))))))
  refine wl_ov (ov_loads rz92 rfl (fun _ hm => hm.blkI 0 rfl) rfl rfl) rfl ?_
  refine wl_callv (v := .tuple #[.int .i64 P1, .bool C2]) rfl cb47 rfl rfl (fun wx hm => (by have h := earliestOf_any cs A0 4 c0 sl A1 n1 c1 l A n c x0 x1 x2 x3 x4 x5 wx (hm.fact 1 rfl).1 hco (by omega) (hm.fact 2 rfl).1 hso (by omega) (hm.fact 3 rfl).1 (by omega) hz0 hzk hzt; rw [hp1, ← hC2] at h; exact h)) ?_
  refine mv_ rfl (wl_ov (ov_extract rfl rfl) rfl (wl_ov (ov_extract rfl rfl) rfl (sg_ rfl (sg_ rfl (nn_ (sr_ (mv_ rfl (mv_ rfl (wl_ov (ov_un_not rfl) rfl ?_)))))))))
  refine wl_callw rfl cb38 rfl rfl (fun wx hm => (rwhen_any _ _ wx)) ?_
  refine wl_ov (ov_eql rfl rfl) rfl (mv_ rfl ?_)
  refine wl_set 106 (v' := .bool true) rfl (congrArg Value.bool (decide_eq_true hp2)) ?_
  refine wl_guard_on rfl rfl rfl (mv_ rfl (wl_guard_on rfl rfl rfl (mv_ rfl (wl_guard_on rfl rfl rfl (wl_ov (ov_eql rfl rfl) rfl ?_)))))
  refine wl_set 109 (v' := .bool true) rfl (congrArg Value.bool (by simp)) ?_
  refine pt_ rfl rfl (mv_ rfl (wl_guard_on rfl rfl rfl ?_))
  refine wl_callv rfl cb41 rfl rfl (fun wx hm => (booked_any wx)) ?_
  refine pt_ rfl rfl (sg_ rfl (nn_ ?_))
  refine gw_ret ?_
  refine nx_ret1 rfl rfl fun wx hm => ?_
  exact ⟨rfl, law_end hg1 hsb (grow_trans hm_w2.g (grow_weak hm.g))⟩
 by_cases hz0 : firstE [stockE cs sl, checkE cs l] = 0
 ·refine wl_callv (v := .tuple #[.bool false, .int .i64 CE]) rfl cb43 rfl rfl (fun wx hm => (by have h := can_any cs A0 4 c0 sl A1 n1 c1 l A n c x0 x1 x2 x3 x4 x5 wx (hm.fact 1 rfl).1 hco (by omega) (hm.fact 2 rfl).1 hso (by omega) (hm.fact 3 rfl).1 hok (by omega) hbo; rw [← hCE, if_neg h0] at h; exact h)) ?_
  refine mv_ rfl (wl_ov (ov_extract rfl rfl) rfl (wl_ov (ov_extract rfl rfl) rfl (sg_ rfl (sg_ rfl (nn_ (sr_ (fd_ fo78_0 rfl rfl (lk_ sc58 1 rfl rfl rfl (fd_ fo78_1 rfl rfl (lk_ sc75 1 rfl rfl rfl (fd_ fo78_2 rfl rfl ?_)))))))))))
  refine lk_ sc76 1 rfl rfl rfl ?_
  refine wl_ov (ov_loads rz92 rfl (fun _ hm => hm.blkI 0 rfl) rfl rfl) rfl ?_
  refine wl_callv (v := .tuple #[.int .i64 0, .int .i64 CE]) rfl cb44 rfl rfl (fun wx hm => (by have h := earliest_any cs A0 4 c0 sl A1 n1 c1 l A n c x0 x1 x2 x3 x4 x5 wx (hm.fact 1 rfl).1 hco (by omega) (hm.fact 2 rfl).1 hso (by omega) (hm.fact 3 rfl).1 hok (by omega) hbo; rw [← hCE, if_neg h0, if_neg h0] at h; exact h)) ?_
  refine mv_ rfl (wl_ov (ov_extract rfl rfl) rfl (wl_ov (ov_extract rfl rfl) rfl (sg_ rfl (sg_ rfl (nn_ (sr_ ?_))))))
  refine wl_ov (ov_loads rz78 rfl (fun _ hm => hm.blkI 1 rfl) rfl rfl) rfl ?_
  refine wl_callv (v := .int .i64 0) rfl cb37 rfl rfl (fun wx hm => (by have h := call_any A0 A1 A 4 c0 n1 c1 n c (stockE cs sl) (checkE cs l) wx; rw [hz0] at h; exact h)) ?_
  refine sg_ rfl (nn_ (gw_seq (sr_ (mv_ rfl (wl_ov (ov_eql rfl rfl) rfl ?_)))))
  refine wl_set 48 (v' := .bool true) rfl (congrArg Value.bool (by decide)) ?_
  refine nn_ (ct_ rfl (gw_region (fd_ fo78_0 rfl rfl (lk_ sc58 1 rfl rfl rfl (fd_ fo78_2 rfl rfl (lk_ sc76 1 rfl rfl rfl ?_))))))
  refine wl_ov (ov_loads rz92 rfl (fun _ hm => hm.blkI 0 rfl) rfl rfl) rfl ?_
  refine wl_callv (v := .int .i64 CE) rfl cb45 rfl rfl (fun wx hm => (by have h := canFault_any cs A0 4 c0 l A n c x0 x1 x2 x3 x4 x5 wx (hm.fact 1 rfl).1 hco (by omega) (hm.fact 3 rfl).1 hok (by omega) hbo; rw [show newE cs l (⟨x0, x1, x2, x3, x4, x5⟩ : Bk) = CE from (by rw [hCE]; unfold canE; rw [if_pos hz0])] at h; exact h)) ?_
  refine sg_ rfl (nn_ (gw_seq (sr_ (mv_ rfl (wl_ov (ov_neq rfl rfl) rfl (nn_ ?_))))))
  refine gw_set 56 (v' := .bool true) rfl (congrArg Value.bool (by rw [decide_eq_false h0]; rfl)) ?_
  refine ct_ rfl (sr_ (mv_ rfl (mv_ rfl (wl_ov (ov_eql rfl rfl) rfl ?_))))
  refine wl_set 59 (v' := .bool true) rfl (congrArg Value.bool (by simp)) ?_
  refine mv_ rfl (wl_guard_on rfl rfl rfl (mv_ rfl (wl_guard_on rfl rfl rfl (mv_ rfl (wl_guard_on rfl rfl rfl (wl_ov (ov_eql rfl rfl) rfl ?_))))))
  refine wl_set 63 (v' := .bool true) rfl (congrArg Value.bool (by simp)) ?_
  refine pt_ rfl rfl (mv_ rfl (wl_guard_on rfl rfl rfl (mv_ rfl (wl_guard_on rfl rfl rfl (wl_ov (ov_un_not rfl) rfl ?_)))))
  refine wl_set 67 (v' := .bool true) rfl (congrArg Value.bool (by decide)) ?_
  refine pt_ rfl rfl (mv_ rfl (wl_guard_on rfl rfl rfl (mv_ rfl (wl_guard_on rfl rfl rfl (wl_ov (ov_eql rfl rfl) rfl ?_)))))
  refine wl_set 71 (v' := .bool true) rfl (congrArg Value.bool (by decide)) ?_
  refine pt_ rfl rfl (mv_ rfl (wl_guard_on rfl rfl rfl ?_))
  refine wl_callv rfl cb41 rfl rfl (fun wx hm => (booked_any wx)) ?_
  refine pt_ rfl rfl (sg_ rfl (nn_ ?_))
  refine gw_ret ?_
  refine nx_then_ret ?_
  refine nx_ret1 rfl rfl fun wx hm => ?_
  exact ⟨rfl, law_end hg1 hsb (grow_trans hm_w2.g (grow_weak hm.g))⟩
 refine wl_callv (v := .tuple #[.bool false, .int .i64 CE]) rfl cb43 rfl rfl (fun wx hm => (by have h := can_any cs A0 4 c0 sl A1 n1 c1 l A n c x0 x1 x2 x3 x4 x5 wx (hm.fact 1 rfl).1 hco (by omega) (hm.fact 2 rfl).1 hso (by omega) (hm.fact 3 rfl).1 hok (by omega) hbo; rw [← hCE, if_neg h0] at h; exact h)) ?_
 refine mv_ rfl (wl_ov (ov_extract rfl rfl) rfl (wl_ov (ov_extract rfl rfl) rfl (sg_ rfl (sg_ rfl (nn_ (sr_ (fd_ fo78_0 rfl rfl (lk_ sc58 1 rfl rfl rfl (fd_ fo78_1 rfl rfl (lk_ sc75 1 rfl rfl rfl (fd_ fo78_2 rfl rfl ?_)))))))))))
 refine lk_ sc76 1 rfl rfl rfl ?_
 refine wl_ov (ov_loads rz92 rfl (fun _ hm => hm.blkI 0 rfl) rfl rfl) rfl ?_
 refine wl_callv (v := .tuple #[.int .i64 0, .int .i64 CE]) rfl cb44 rfl rfl (fun wx hm => (by have h := earliest_any cs A0 4 c0 sl A1 n1 c1 l A n c x0 x1 x2 x3 x4 x5 wx (hm.fact 1 rfl).1 hco (by omega) (hm.fact 2 rfl).1 hso (by omega) (hm.fact 3 rfl).1 hok (by omega) hbo; rw [← hCE, if_neg h0, if_neg h0] at h; exact h)) ?_
 refine mv_ rfl (wl_ov (ov_extract rfl rfl) rfl (wl_ov (ov_extract rfl rfl) rfl (sg_ rfl (sg_ rfl (nn_ (sr_ ?_))))))
 refine wl_ov (ov_loads rz78 rfl (fun _ hm => hm.blkI 1 rfl) rfl rfl) rfl ?_
 refine wl_callv (v := .int .i64 CE) rfl cb37 rfl rfl (fun wx hm => (by have h := call_any A0 A1 A 4 c0 n1 c1 n c (stockE cs sl) (checkE cs l) wx; rw [show firstE [stockE cs sl, checkE cs l] = CE from (by rw [hCE]; unfold canE; rw [if_neg hz0])] at h; exact h)) ?_
 refine sg_ rfl (nn_ (gw_seq (sr_ (mv_ rfl (wl_ov (ov_eql rfl rfl) rfl (nn_ ?_))))))
 refine gw_set 48 (v' := .bool false) rfl (congrArg Value.bool (decide_eq_false h0)) ?_
 refine cf_ rfl (gw_skip (nx_then (gw_seq (sr_ (mv_ rfl (wl_ov (ov_neq rfl rfl) rfl (nn_ ?_)))))))
 refine gw_set 56 (v' := .bool true) rfl (congrArg Value.bool (by rw [decide_eq_false h0]; rfl)) ?_
 refine ct_ rfl (sr_ (mv_ rfl (mv_ rfl (wl_ov (ov_eql rfl rfl) rfl ?_))))
 refine wl_set 59 (v' := .bool true) rfl (congrArg Value.bool (by simp)) ?_
 refine mv_ rfl (wl_guard_on rfl rfl rfl (mv_ rfl (wl_guard_on rfl rfl rfl (mv_ rfl (wl_guard_on rfl rfl rfl (wl_ov (ov_eql rfl rfl) rfl ?_))))))
 refine wl_set 63 (v' := .bool true) rfl (congrArg Value.bool (by simp)) ?_
 refine pt_ rfl rfl (mv_ rfl (wl_guard_on rfl rfl rfl (mv_ rfl (wl_guard_on rfl rfl rfl (wl_ov (ov_un_not rfl) rfl ?_)))))
 refine wl_set 67 (v' := .bool true) rfl (congrArg Value.bool (by decide)) ?_
 refine pt_ rfl rfl (mv_ rfl (wl_guard_on rfl rfl rfl (mv_ rfl (wl_guard_on rfl rfl rfl (wl_ov (ov_eql rfl rfl) rfl ?_)))))
 refine wl_set 71 (v' := .bool true) rfl (congrArg Value.bool (by decide)) ?_
 refine pt_ rfl rfl (mv_ rfl (wl_guard_on rfl rfl rfl ?_))
 refine wl_callv rfl cb41 rfl rfl (fun wx hm => (booked_any wx)) ?_
 refine pt_ rfl rfl (sg_ rfl (nn_ ?_))
 refine gw_ret ?_
 refine nx_then_ret ?_
 refine nx_ret1 rfl rfl fun wx hm => ?_
 exact ⟨rfl, law_end hg1 hsb (grow_trans hm_w2.g (grow_weak hm.g))⟩
end Go.Proofs.YtempjmpfdniecaaGreatDoor
