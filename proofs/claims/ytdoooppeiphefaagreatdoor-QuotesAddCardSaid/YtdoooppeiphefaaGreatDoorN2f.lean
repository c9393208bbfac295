/- Several texts as one: Qx -/
import Derived.Test.YtdoooppeiphefaaGreatDoorN2e
import Derived.Test.YtdoooppeiphefaaGreatDoorN2a
import Derived.Test.YtdoooppeiphefaaGreatDoorN2b
import Derived.Test.YtdoooppeiphefaaGreatDoorN2d
set_option maxRecDepth 100000
set_option maxHeartbeats 4000000
namespace Go.Proofs.YtdoooppeiphefaaGreatDoor
open Go.RowKit
section
variable {P : Program} {nn : Nat} {S : List (Nat × Value)} {Z : World → Prop} {d : Nat} {ty : TypeId} {pos : String} {aft : Array Edge}
theorem ov_sliceHiA {t e : TypeId} {sz : Nat} {x y : Operand} {A : Option Addr} {n cap hi : Nat} {v : Int} (he : elemSz P t = some (e, sz)) (hx : rd S x = some (.slice A n cap)) (hy : rd S y = some (.int .i64 v)) (hv : v = (hi : Int)) (hhi : hi ≤ cap) : OV P nn S Z ⟨some d, .slice t x none (some y) none, ty, pos, aft, none⟩ (.slice (if cap = 0 then A else A.map (·.add 0)) hi cap) := fun a w ha hm => by
  obtain ⟨hu, hs⟩ := elemSz_parts he
  subst hv
  have h1 : (Instr.slice t (.slice A n cap) none (some (.int .i64 (hi : Int))) none).run P w = .ok (.slice (if cap = 0 then A else A.map (·.add 0)) hi cap) w := by
    rw [run_slice_any w t _ n cap hu]
    have hb := run_sliceBound (P := P) w .i64 (hi : Int) cap .sliceAcap (by omega) (by omega)
    simp [Instr.sliceBounds, hs, sliced, hb]
  simp [execOp, ha.eval hx, ha.eval hy, run_sliceAt_slice w t _ _ _ _ hu, h1]
end
theorem SlT.takeA {α : Type} {enc : α → List Value} {k : Nat} {T : TypeId} {w : World} {A : Option Addr} {n c hi : Nat} {l : List α} (h : SlT enc k T w A n l) (hh : hi ≤ n) : SlT enc k T w (if c = 0 then A else A.map (fun a : Addr => a.add 0)) hi (l.take hi) := by
  by_cases h0 : hi = 0
  · subst h0
    exact ⟨by simp, fun hn => absurd hn (by omega)⟩
  · obtain ⟨b, off, rfl, _, _⟩ := h.get (by omega)
    have e : (if c = 0 then (some ⟨b, off, none⟩ : Option Addr) else Option.map (fun a : Addr => a.add 0) (some ⟨b, off, none⟩)) = some ⟨b, off, none⟩ := by split <;> rfl
    rw [e]
    exact SlT.takeT h hh
theorem ar97 : arrSz Tryz.prog 97 = some (7, 1) := by kernel_rfl
theorem keyB_sz {k : ByteArray} (h : keyB k = true) : k.size ≤ 1000000 := by
  unfold keyB at h
  rw [keyLB_eq, Bool.and_eq_true, decide_eq_true_eq] at h
  have h2 : k.data.toList.length = k.size := Array.length_toList
  have := h.2
  omega
theorem lines_key {l : List Ln} (h : linesE l = 0) : ∀ x ∈ l, keyB x.key = true := fun x hx => by
  unfold linesE at h
  by_cases h1 : 1000 < l.length
  · rw [if_pos h1] at h; cases h
  · rw [if_neg h1] at h
    obtain ⟨q, hq⟩ := scan_each h x hx
    unfold lineE at hq
    cases h2 : inB x.kind 1 6 <;> rw [h2] at hq
    · cases hq
    · cases h3 : keyB x.key with
      | false => rw [h3] at hq; cases hq
      | true => rfl
theorem quote_none {rl : List Rt} {el : List Ex} {fl : List Fe} {cl : List Cd} {tl : List Tx} {qc : ByteArray} {fr tt : Int} {qa qb : ByteArray} {ks cks : List ByteArray} {E : Int} {ls : List Ln} (h : (tariffE rl el fl cl tl ≠ 0 ∧ E = tariffE rl el fl cl tl ∧ ls = []) ∨ (tariffE rl el fl cl tl = 0 ∧ QRest rl el fl cl tl qc fr tt qa qb ks cks E ls)) (hE : E ≠ 0) : ls = [] := by
  rcases h with ⟨_, _, h⟩ | ⟨_, ⟨_, _, h⟩ | ⟨_, er, ps, _, _, h⟩⟩
  · exact h
  · exact h
  · rw [if_neg hE] at h; exact h
theorem quote_some {rl : List Rt} {el : List Ex} {fl : List Fe} {cl : List Cd} {tl : List Tx} {qc : ByteArray} {fr tt : Int} {qa qb : ByteArray} {ks cks : List ByteArray} {ls : List Ln} (h : (tariffE rl el fl cl tl ≠ 0 ∧ 0 = tariffE rl el fl cl tl ∧ ls = []) ∨ (tariffE rl el fl cl tl = 0 ∧ QRest rl el fl cl tl qc fr tt qa qb ks cks 0 ls)) : tariffE rl el fl cl tl = 0 ∧ askE (fun k => el.any (exP k)) ks = 0 ∧ QIs rl el fl cl tl qc fr tt qa qb ks cks 0 ls := by
  rcases h with ⟨h1, h2, _⟩ | ⟨h0, ⟨h1, h2, _⟩ | ⟨h1, h2⟩⟩
  · exact absurd h2.symm h1
  · exact absurd h2.symm h1
  · exact ⟨h0, h1, h2⟩
theorem offers_one {rl : List Rt} {el : List Ex} {fl : List Fe} {cl : List Cd} {tl : List Tx} {qc : ByteArray} {fr tt : Int} {qa qb : ByteArray} {ks cks : List ByteArray} {ls : List Ln} {us os : List Ofr} (hq : QIs rl el fl cl tl qc fr tt qa qb ks cks 0 ls) (hu : OfsIs rl el fl cl tl fr tt qa qb ks cks [qc] us) (ho : os = isort ltO us) : os = [⟨qc, sumBy centsOf ls⟩] := by
  obtain ⟨E, ms, o1, h1, _, _, h2, h3⟩ := hu
  obtain ⟨rfl, rfl⟩ := qis_one hq h1
  have h2 : o1 = [] := h2
  rw [ho, h3, h2]; rfl
theorem off_zero {rl : List Rt} {el : List Ex} {fl : List Fe} {cl : List Cd} {tl : List Tx} {qc : ByteArray} {fr tt : Int} {ks : List ByteArray} (h0 : tariffE rl el fl cl tl = 0) (ha : askE (fun k => el.any (exP k)) ks = 0) (ht : timeE fr tt = 0) (hk : keyB qc = true) : offE rl el fl cl tl [qc] fr tt ks = 0 := by
  unfold offE
  have hc : clsG [] [qc] = 0 := by
    show (if (!keyB qc) = true then (5 : Int) else 0) = 0
    rw [hk]; rfl
  rw [h0, ha, ht, hc]; rfl
theorem quotesAdd_walk (a0 : Option Addr) (len0 cap0 : Nat) (z0 : List Int) (w : World) (hR : RowIn w a0 len0 cap0 z0) :
  Calls Tryz.prog 5 #[.slice a0 len0 cap0] w fun e w' => e = .returned (.bool true) ∧ Below w.heap.size w w' := by
 refine gw_enter ⟨158, w, none, []⟩ Tryz.func5 rfl Tryz.ntmps5 rfl (mem0 (X := []) allF_nil allL_nil) ?_
 refine sr_ (sg_ rfl (nn_ (sr_ (mv_ rfl ?_))))
 refine wl_ov (ov_build (cs := [.slice a0 len0 cap0, .int .i64 0]) rfl (by kernel_rfl)) rfl ?_
 refine wl_box rfl rfl rfl fun sb => ?_
 refine sg_ rfl (nn_ (sr_ (mv_ rfl ?_)))
 refine wl_law [288, 295, 352, 354, 298, 3, 9] hR 0 rfl fun w1 B hg1 hsb => ?_
 refine wl_calls (γ := List Rt × Option Addr × Nat × Nat × List Ex × Option Addr × Nat × Nat × List Fe × Option Addr × Nat × Nat × List Cd × Option Addr × Nat × Nat × List Tx × Option Addr × Nat × Nat) (val := (fun g => .agg #[.slice g.2.1 g.2.2.1 g.2.2.2.1, .slice g.2.2.2.2.2.1 g.2.2.2.2.2.2.1 g.2.2.2.2.2.2.2.1, .slice g.2.2.2.2.2.2.2.2.2.1 g.2.2.2.2.2.2.2.2.2.2.1 g.2.2.2.2.2.2.2.2.2.2.2.1, .slice g.2.2.2.2.2.2.2.2.2.2.2.2.2.1 g.2.2.2.2.2.2.2.2.2.2.2.2.2.2.1 g.2.2.2.2.2.2.2.2.2.2.2.2.2.2.2.1, .slice g.2.2.2.2.2.2.2.2.2.2.2.2.2.2.2.2.2.1 g.2.2.2.2.2.2.2.2.2.2.2.2.2.2.2.2.2.2.1 g.2.2.2.2.2.2.2.2.2.2.2.2.2.2.2.2.2.2.2])) (φ := (fun g => ((∀ x ∈ g.1, RtG x) ∧ g.2.2.1 ≤ 10 ∧ g.2.2.1 ≤ g.2.2.2.1) ∧ ((∀ x ∈ g.2.2.2.2.1, ExOk x) ∧ g.2.2.2.2.2.2.1 ≤ 2 ∧ g.2.2.2.2.2.2.1 ≤ g.2.2.2.2.2.2.2.1) ∧ ((∀ x ∈ g.2.2.2.2.2.2.2.2.1, FeOk x) ∧ g.2.2.2.2.2.2.2.2.2.2.1 ≤ 5 ∧ g.2.2.2.2.2.2.2.2.2.2.1 ≤ g.2.2.2.2.2.2.2.2.2.2.2.1) ∧ ((∀ x ∈ g.2.2.2.2.2.2.2.2.2.2.2.2.1, CdOk x) ∧ g.2.2.2.2.2.2.2.2.2.2.2.2.2.2.1 ≤ 3 ∧ g.2.2.2.2.2.2.2.2.2.2.2.2.2.2.1 ≤ g.2.2.2.2.2.2.2.2.2.2.2.2.2.2.2.1) ∧ ((∀ x ∈ g.2.2.2.2.2.2.2.2.2.2.2.2.2.2.2.2.1, TxOk x) ∧ g.2.2.2.2.2.2.2.2.2.2.2.2.2.2.2.2.2.2.1 ≤ 3 ∧ g.2.2.2.2.2.2.2.2.2.2.2.2.2.2.2.2.2.2.1 ≤ g.2.2.2.2.2.2.2.2.2.2.2.2.2.2.2.2.2.2.2))) (Y := (fun g => fun wy => SlT rtEnc 7 288 wy g.2.1 g.2.2.1 g.1 ∧ SlT exEnc 4 295 wy g.2.2.2.2.2.1 g.2.2.2.2.2.2.1 g.2.2.2.2.1 ∧ SlT feEnc 3 352 wy g.2.2.2.2.2.2.2.2.2.1 g.2.2.2.2.2.2.2.2.2.2.1 g.2.2.2.2.2.2.2.2.1 ∧ SlT cdEnc 6 354 wy g.2.2.2.2.2.2.2.2.2.2.2.2.2.1 g.2.2.2.2.2.2.2.2.2.2.2.2.2.2.1 g.2.2.2.2.2.2.2.2.2.2.2.2.1 ∧ SlT txEnc 4 298 wy g.2.2.2.2.2.2.2.2.2.2.2.2.2.2.2.2.2.1 g.2.2.2.2.2.2.2.2.2.2.2.2.2.2.2.2.2.2.1 g.2.2.2.2.2.2.2.2.2.2.2.2.2.2.2.2.1 ∧ Ons g.2.2.2.2.2.2.2.2.2.2.2.2.2.2.2.2.1 wy)) (m' := 0 + 6000) rfl cb30 rfl rfl rfl rfl (fun wx hm => (grightTariff_any wx B sb _ hm.k (by omega)).mono fun _ _ ⟨rA, rn, rc, rl, eA, en, ec, el, fA, fn, fc, fl, cA, cn, cc, cl, tA, tn, tc, tl, he, hq, hs, hS, hg⟩ => ⟨(rl, rA, rn, rc, el, eA, en, ec, fl, fA, fn, fc, cl, cA, cn, cc, tl, tA, tn, tc), he, hq, hS, hg, hs⟩) (fun _ => (SlT.lasts2 rfl).and_ ((SlT.lasts2 rfl).and_ ((SlT.lasts2 rfl).and_ ((SlT.lasts2 rfl).and_ ((SlT.lasts2 rfl).and_ (Ons.lasts rfl)))))) ?_
 rintro ⟨rl, rA, rn, rc, el, eA, en, ec, fl, fA, fn, fc, cl, cA, cn, cc, tl, tA, tn, tc⟩ hT
 dsimp only at hT ⊢
 obtain ⟨⟨hrg, hrn0, hrc⟩, ⟨heo, hen0, hec⟩, ⟨hfo, hfn0, hfc⟩, ⟨hco, hcn0, hcc⟩, ⟨hto, htn, htc⟩⟩ := hT
 have hro : ∀ x ∈ rl, RtOk x := rt_g hrg
 have hch : CheapR rl := cheap_g hrg
 have hrn : rn ≤ 1000 := by omega
 have hen : en ≤ 1000 := by omega
 have hfn : fn ≤ 1000 := by omega
 have hcn : cn ≤ 1000 := by omega
 refine mv_ rfl ?_
 refine wl_calls (γ := ByteArray × Int × Int × ByteArray × ByteArray × Option Addr × Nat × Nat × List ByteArray × Option Addr × Nat × Nat × List ByteArray) (val := (fun g => .agg #[.string g.1, .int .i64 g.2.1, .int .i64 g.2.2.1, .string g.2.2.2.1, .string g.2.2.2.2.1, .slice g.2.2.2.2.2.1 g.2.2.2.2.2.2.1 g.2.2.2.2.2.2.2.1, .slice g.2.2.2.2.2.2.2.2.2.1 g.2.2.2.2.2.2.2.2.2.2.1 g.2.2.2.2.2.2.2.2.2.2.2.1])) (φ := (fun g => (g.1.size ≤ 100 ∧ g.2.2.2.1.size ≤ 100 ∧ g.2.2.2.2.1.size ≤ 100) ∧ (Far g.2.1 ∧ Far g.2.2.1) ∧ ((∀ x ∈ g.2.2.2.2.2.2.2.2.1, x.size ≤ 100) ∧ g.2.2.2.2.2.2.1 ≤ 2 ∧ g.2.2.2.2.2.2.1 ≤ g.2.2.2.2.2.2.2.1) ∧ ((∀ x ∈ g.2.2.2.2.2.2.2.2.2.2.2.2, x.size ≤ 100) ∧ g.2.2.2.2.2.2.2.2.2.2.1 ≤ 3 ∧ g.2.2.2.2.2.2.2.2.2.2.1 ≤ g.2.2.2.2.2.2.2.2.2.2.2.1))) (Y := (fun g => fun wy => SlT sgEnc 1 9 wy g.2.2.2.2.2.1 g.2.2.2.2.2.2.1 g.2.2.2.2.2.2.2.2.1 ∧ SlT sgEnc 1 9 wy g.2.2.2.2.2.2.2.2.2.1 g.2.2.2.2.2.2.2.2.2.2.1 g.2.2.2.2.2.2.2.2.2.2.2.2)) (m' := 0 + 6000 + 1000) rfl cb31 rfl rfl rfl rfl (fun wx hm => (gask_any wx B sb _ hm.k (by omega)).mono fun _ _ ⟨qc, fr, tt, qa, qb, A1, n1, c1, ks, A2, n2, c2, cks, he, hq, h1, h2, hS, hg⟩ => ⟨(qc, fr, tt, qa, qb, A1, n1, c1, ks, A2, n2, c2, cks), he, hq, hS, hg, h1, h2⟩) (fun _ => (SlT.lasts2 rfl).and_ (SlT.lasts2 rfl)) ?_
 rintro ⟨qc, fr, tt, qa, qb, A1, n1, c1, ks, A2, n2, c2, cks⟩ hA
 dsimp only at hA ⊢
 obtain ⟨⟨hz1, hz2, hz3⟩, ⟨hfr, htt⟩, ⟨_, hn1b, hn1⟩, ⟨_, hn2b, hn2⟩⟩ := hA
 have hz : qc.size ≤ 1000000 ∧ qa.size ≤ 1000000 ∧ qb.size ≤ 1000000 := by omega
 have hn10 : n1 ≤ 1000000 := by omega
 have hn20 : n2 ≤ 1000000 := by omega
 refine wl_alloc zc77 rfl fun g1 => ?_
 refine wl_alloc zc81 rfl fun g2 => ?_
 refine wl_stores (cs' := [.slice rA rn rc, .slice eA en ec, .slice fA fn fc, .slice cA cn cc, .slice tA tn tc]) 1 rz77 rfl rfl rfl rfl rfl rfl rfl rfl ?_
 refine wl_stores (cs' := [.string qc, .int .i64 fr, .int .i64 tt, .string qa, .string qb, .slice A1 n1 c1, .slice A2 n2 c2]) 0 rz81 rfl rfl rfl rfl rfl rfl rfl rfl ?_
 refine nn_ (sr_ ?_)
 refine wl_ov (ov_loads rz77 rfl (fun _ hm => hm.blkI 1 rfl) rfl rfl) rfl ?_
 refine wl_ov (ov_loads rz81 rfl (fun _ hm => hm.blkI 0 rfl) rfl rfl) rfl ?_
 refine wl_nest none [88, 203] fun w2 hm_w2 => ⟨_, _, _, _, mem0 (X := [BlkOld w2.heap.size none g2 81 [.string qc, .int .i64 fr, .int .i64 tt, .string qa, .string qb, .slice A1 n1 c1, .slice A2 n2 c2], BlkOld w2.heap.size none g1 77 [.slice rA rn rc, .slice eA en ec, .slice fA fn fc, .slice cA cn cc, .slice tA tn tc], SlOld rtEnc 7 288 w2.heap.size none rA rn rl, SlOld exEnc 4 295 w2.heap.size none eA en el, SlOld feEnc 3 352 w2.heap.size none fA fn fl, SlOld cdEnc 6 354 w2.heap.size none cA cn cl, SlOld txEnc 4 298 w2.heap.size none tA tn tl, OnsOld w2.heap.size none tl, SlOld sgEnc 1 9 w2.heap.size none A1 n1 ks, SlOld sgEnc 1 9 w2.heap.size none A2 n2 cks]) (allF_cons (hm_w2.blkI 0 rfl).old (allF_cons (hm_w2.blkI 1 rfl).old (allF_cons (SlT.old (hm_w2.fact 1 rfl).1) (allF_cons (SlT.old (hm_w2.fact 1 rfl).2.1) (allF_cons (SlT.old (hm_w2.fact 1 rfl).2.2.1) (allF_cons (SlT.old (hm_w2.fact 1 rfl).2.2.2.1) (allF_cons (SlT.old (hm_w2.fact 1 rfl).2.2.2.2.1) (allF_cons (Ons.old (hm_w2.fact 1 rfl).2.2.2.2.2) (allF_cons (SlT.old (hm_w2.fact 0 rfl).1) (allF_cons (SlT.old (hm_w2.fact 0 rfl).2) allF_nil)))))))))) (allL_cons BlkOld.lasts (allL_cons BlkOld.lasts (allL_cons SlOld.lasts (allL_cons SlOld.lasts (allL_cons SlOld.lasts (allL_cons SlOld.lasts (allL_cons SlOld.lasts (allL_cons OnsOld.lasts (allL_cons SlOld.lasts (allL_cons SlOld.lasts allL_nil)))))))))), ?_⟩
 refine wl_callx (γ := Option Addr × Nat × Nat × List Ln × Int) (val := (fun g => .tuple #[.slice g.1 g.2.1 g.2.2.1, .int .i64 g.2.2.2.2])) (φ := (fun g => (g.2.1 ≤ 200 ∧ g.2.1 ≤ g.2.2.1) ∧ ((tariffE rl el fl cl tl ≠ 0 ∧ g.2.2.2.2 = tariffE rl el fl cl tl ∧ g.2.2.2.1 = []) ∨ (tariffE rl el fl cl tl = 0 ∧ QRest rl el fl cl tl qc fr tt qa qb ks cks g.2.2.2.2 g.2.2.2.1)))) (Y := (fun g => fun wy => SlT lnEnc 3 88 wy g.1 g.2.1 g.2.2.2.1)) rfl cb32 rfl rfl (fun wx hm => (tquote_anyC rl rA rn rc el eA en ec fl fA fn fc cl cA cn cc tl tA tn tc qc fr tt qa qb ks A1 n1 c1 cks A2 n2 c2 wx (hm.fact 2 rfl).1 (hm.fact 3 rfl).1 (hm.fact 4 rfl).1 (hm.fact 5 rfl).1 (hm.fact 6 rfl).1 (OnsOld.ons (hm.fact 7 rfl)) hro heo hfo hco hto hrn hen hfn hcn htn htc (hm.fact 8 rfl).1 (hm.fact 9 rfl).1 hn1 hn2 hz hn10 hn20 hch).mono fun _ _ ⟨A, n, c, ls, E, he, hs, hn, hq, hg⟩ => ⟨(A, n, c, ls, E), he, ⟨hn, hq⟩, hg, hs⟩) (fun _ => SlT.lasts2 rfl) ?_
 rintro ⟨A9, n9, c9, ls, E⟩ hq9
 dsimp only at hq9 ⊢
 obtain ⟨⟨hn9, hnc9⟩, hqi⟩ := hq9
 refine mv_ rfl (wl_ov (ov_extract rfl rfl) rfl (wl_ov (ov_extract rfl rfl) rfl (sg_ rfl (sg_ rfl (nn_ (gw_seq (sr_ (mv_ rfl (wl_ov (ov_neq rfl rfl) rfl (nn_ ?_))))))))))
 refine gw_cond rfl (fun hh => ?_) (fun hh => ?_)
 ·have hE : ¬ (E = 0) := by simpa using hh
  clear hh
  refine sr_ ?_
  have hE0 : E ≠ 0 := by simpa using hE
  obtain rfl := quote_none hqi hE0
  refine wl_look (R := n9 = 0) (fun wx hm => ((hm.fact 0 rfl)).len.symm) ?_
  intro hn90
  subst hn90
  refine mv_ rfl (wl_ov (ov_len es83 rfl) rfl ?_)
  refine wl_set 37 (v' := .int .i64 0) rfl rfl ?_
  refine wl_ov (ov_eql rfl rfl) rfl ?_
  refine wl_set 38 (v' := .bool true) rfl (congrArg Value.bool (by decide)) ?_
  refine mv_ rfl (wl_guard_on rfl rfl rfl ?_)
  refine wl_callv rfl cb28 rfl rfl (fun wx hm => (ready_any wx)) ?_
  refine pt_ rfl rfl (sg_ rfl (nn_ ?_))
  refine gw_ret ?_
  refine nx_then_ret ?_
  refine nx_ret1 rfl rfl fun wx hm => ?_
  exact ⟨rfl, law_end hg1 hsb (grow_trans hm_w2.g (grow_weak hm.g))⟩
 have hE : E = 0 := by simpa using hh
 clear hh
 refine gw_skip (nx_then (sr_ ?_))
 obtain rfl : E = 0 := by simpa using hE
 obtain ⟨h0, hask, hqs⟩ := quote_some hqi
 obtain ⟨ps, L3, hdv, hls, htl, hks, hix, hc1, hc2, hc3, hc4, hqk, htm, hk5⟩ := quote_made h0 hch hask hqs
 obtain ⟨K, hK⟩ : ∃ K, K = L3.length := ⟨_, rfl⟩
 obtain ⟨tv, htv⟩ : ∃ z, z = taxesV L3 [] tl := ⟨_, rfl⟩
 rw [← htv] at hls
 rw [← hK] at hix
 refine wl_look (R := ls.length = n9 ∧ tl.length = tn ∧ ks.length = n1) (fun wx hm => ⟨((hm.fact 0 rfl)).len, (hm.fact 7 rfl).1.len, (hm.fact 9 rfl).1.len⟩) ?_
 rintro ⟨hll, htll, hksl⟩
 have hbd := qis_sm h0 hch hask (by omega) hqs
 have hlt : ls.take K = L3 := by rw [hls, hK, List.take_left]
 have hdr : ls.drop K = tv := by rw [hls, hK, List.drop_left]
 have hlen : L3.length + tv.length = n9 := by rw [← hll, hls, List.length_append]
 have hKn : K ≤ n9 := by omega
 have hlo : ∀ x ∈ L3, LnOk x := fun x hx => keyB_sz (lines_key (tlE_ok htl).2 x hx)
 refine mv_ rfl ?_
 refine wl_callv rfl cb33 rfl rfl (fun wx hm => (qaIndex_any ls A9 n9 c9 wx (hm.fact 0 rfl) (by omega))) ?_
 refine sg_ rfl (nn_ ?_)
 refine gw_cut (γ := Unit) (I := (fun (uu : Unit) => True)) (S' := (fun (uu : Unit) => [(2, .bool false), (4, .pointer (some ⟨g1, 0, none⟩)), (5, .pointer (some ⟨g2, 0, none⟩)), (6, .slice A9 n9 c9), (8, .int .i64 ((K : Nat) : Int))])) (K' := (fun (uu : Unit) => fun _ => True)) (L' := (fun (uu : Unit) => [])) (O' := (fun (uu : Unit) => [])) (X' := (fun (uu : Unit) => [fun wy => SlT lnEnc 3 88 wy A9 n9 ls, BlkOld w2.heap.size none g2 81 [.string qc, .int .i64 fr, .int .i64 tt, .string qa, .string qb, .slice A1 n1 c1, .slice A2 n2 c2], BlkOld w2.heap.size none g1 77 [.slice rA rn rc, .slice eA en ec, .slice fA fn fc, .slice cA cn cc, .slice tA tn tc], SlOld rtEnc 7 288 w2.heap.size none rA rn rl, SlOld exEnc 4 295 w2.heap.size none eA en el, SlOld feEnc 3 352 w2.heap.size none fA fn fl, SlOld cdEnc 6 354 w2.heap.size none cA cn cl, SlOld txEnc 4 298 w2.heap.size none tA tn tl, OnsOld w2.heap.size none tl, SlOld sgEnc 1 9 w2.heap.size none A1 n1 ks, SlOld sgEnc 1 9 w2.heap.size none A2 n2 cks])) ?_ ?_
 ·refine sr_ (mv_ rfl (wl_ov (ov_lss rfl rfl) rfl (nn_ ?_)))
  refine gw_cond rfl (fun hh => ?_) (fun hh => ?_)
  ·have hc : ixP isTax ls 0 < 0 := by simpa using hh
   clear hh
   refine gw_region (mv_ rfl (wl_ov (ov_len es83 rfl) rfl (sg_ rfl (wl_nil ?_))))
   exact nx_meet () trivial ⟨rfl, rfl, rfl, rfl, (some_int (by rw [if_pos hc] at hix; omega)), trivial⟩ (fun _ hm => hm.pick [] [] [0, 1, 2, 3, 4, 5, 6, 7, 8, 9, 10] rfl rfl)
  have hc : ¬ (ixP isTax ls 0 < 0) := by simpa using hh
  clear hh
  refine gw_skip ?_
  exact nx_meet () trivial ⟨rfl, rfl, rfl, rfl, (some_int (by rw [if_neg hc] at hix; omega)), trivial⟩ (fun _ hm => hm.pick [] [] [0, 1, 2, 3, 4, 5, 6, 7, 8, 9, 10] rfl rfl)
 intro uu hinv
 replace hinv : True := hinv
 refine gw_seq ?_
 refine gd (fun wz => (fun wy => SlT lnEnc 3 88 wy A9 n9 ls) wz ∧ (BlkOld w2.heap.size none g2 81 [.string qc, .int .i64 fr, .int .i64 tt, .string qa, .string qb, .slice A1 n1 c1, .slice A2 n2 c2]) wz ∧ (BlkOld w2.heap.size none g1 77 [.slice rA rn rc, .slice eA en ec, .slice fA fn fc, .slice cA cn cc, .slice tA tn tc]) wz ∧ (SlOld rtEnc 7 288 w2.heap.size none rA rn rl) wz ∧ (SlOld exEnc 4 295 w2.heap.size none eA en el) wz ∧ (SlOld feEnc 3 352 w2.heap.size none fA fn fl) wz ∧ (SlOld cdEnc 6 354 w2.heap.size none cA cn cl) wz ∧ (SlOld txEnc 4 298 w2.heap.size none tA tn tl) wz ∧ (OnsOld w2.heap.size none tl) wz ∧ (SlOld sgEnc 1 9 w2.heap.size none A1 n1 ks) wz ∧ (SlOld sgEnc 1 9 w2.heap.size none A2 n2 cks) wz ∧ True) mixed (fun _ hm => ⟨hm.fa 0, hm.fa 1, hm.fa 2, hm.fa 3, hm.fa 4, hm.fa 5, hm.fa 6, hm.fa 7, hm.fa 8, hm.fa 9, hm.fa 10, trivial⟩) fun z => ?_
 refine wt 0 11 1 rfl z (ov_field fo77_4 rfl rfl) ?_
 refine wt 1 11 3 rfl z (ov_load (v := .slice tA tn tc) sc75 rfl (fun _ hm => (hm.2.2.1).2) rfl) ?_
 refine wt 2 11 7 rfl z (ov_move rfl) ?_
 refine wt 3 11 15 rfl z (ov_move rfl) ?_
 refine wt 4 11 31 rfl z (ov_sliceHiA (hi := K) es83 rfl rfl rfl (by omega)) ?_
 refine wa1 5 rfl ?_
 refine wl_callx (γ := Option Addr × Nat × Nat) (val := (fun g => .tuple #[.slice g.1 g.2.1 g.2.2, .int .i64 0])) (φ := (fun g => g.2.1 ≤ 3)) (Y := (fun g => fun wy => SlT lnEnc 3 88 wy g.1 g.2.1 tv)) rfl cb35 rfl rfl (fun wx hm => (by have h := taxLines_any tl tA tn tc L3 (if c9 = 0 then A9 else Option.map (fun a : Addr => a.add 0) A9) K c9 wx (hm.fact 7 rfl).1 (OnsOld.ons (hm.fact 8 rfl)) hto htn htc (by have h := SlT.takeA (c := c9) (hi := K) (hm.fact 0 rfl) hKn; rw [hlt] at h; exact h) hlo (by omega); rw [htl, ← htv] at h; exact h.mono fun _ _ ⟨A3, n3, c3, he, h1, _, hn, hg⟩ => ⟨(A3, n3, c3), he, hn, hg, h1 rfl⟩)) (fun _ => SlT.lasts2 rfl) ?_
 rintro ⟨A3, n3, c3⟩ hn3
 dsimp only at hn3 ⊢
 refine wl_nil ?_
 refine nw 11 63 (fun _ hm => ⟨hm.fa 1, hm.fa 2, hm.fa 3, hm.fa 4, hm.fa 5, hm.fa 6, hm.fa 7, hm.fa 8, hm.fa 9, hm.fa 10, hm.fa 11, trivial⟩) fun z => ?_
 refine wt 6 11 127 rfl z (ov_move rfl) ?_
 refine wt 7 11 255 rfl z (ov_extract rfl rfl) ?_
 refine wt 8 11 511 rfl z (ov_extract rfl rfl) ?_
 refine wt 9 11 1023 rfl z (ov_assign rfl) ?_
 refine wt 10 11 2047 rfl z (ov_assign rfl) ?_
 refine wa_done (by kernel_rfl) ?_
 refine nx_then (sr_ (fd_ fo77_0 rfl rfl ?_))
 refine wl_ov (ov_load (v := .slice rA rn rc) sc71 rfl (fun _ hm => (hm.fact 3 rfl).2) rfl) rfl ?_
 refine fd_ fo81_0 rfl rfl ?_
 refine wl_ov (ov_load (v := .string qc) sc9 rfl (fun _ hm => (hm.fact 2 rfl).2) rfl) rfl ?_
 refine fd_ fo81_1 rfl rfl ?_
 refine wl_ov (ov_loads (vs := [.int .i64 fr, .int .i64 tt]) rz39 rfl (fun _ hm => (hm.fact 2 rfl).2) rfl rfl) rfl ?_
 refine wl_callx (γ := Option Addr × Nat × Nat × List Pc × Int) (val := (fun g => .tuple #[.slice g.1 g.2.1 g.2.2.1, .int .i64 g.2.2.2.2])) (φ := (fun g => g.2.2.2.1.length = g.2.1 ∧ DivIs rl qc fr tt g.2.2.2.2 g.2.2.2.1)) (Y := (fun g => fun _ => True)) rfl cb36 rfl rfl (fun wx hm => (tDivide_any rl rA rn rc qc fr tt wx (hm.fact 4 rfl).1 hro (by omega) hz.1).mono fun _ _ ⟨A, n, c, qs, er, he, hg, hs, hd, _⟩ => ⟨(A, n, c, qs, er), he, ⟨hs.len, hd⟩, hg, trivial⟩) (fun _ => Lasts2.true_) ?_
 rintro ⟨A6, n6, c6, qs, er⟩ hD6
 dsimp only at hD6 ⊢
 obtain ⟨hq6, hD6⟩ := hD6
 obtain ⟨rfl, rfl⟩ := divIs_one hdv hD6
 refine mv_ rfl (wl_ov (ov_extract rfl rfl) rfl (wl_ov (ov_extract rfl rfl) rfl (sg_ rfl (sg_ rfl (nn_ (gw_seq (sr_ (mv_ rfl (wl_ov (ov_neq rfl rfl) rfl ?_)))))))))
 refine wl_set 68 (v' := .bool false) rfl (congrArg Value.bool (by decide)) ?_
 refine mv_ rfl (wl_guard_on rfl rfl rfl (mv_ rfl (wl_guard_on rfl rfl rfl (wl_ov (ov_neq rfl rfl) rfl ?_))))
 refine wl_set 71 (v' := .bool false) rfl (congrArg Value.bool (by decide)) ?_
 refine pf_ rfl rfl (mv_ rfl (wl_guard_on rfl rfl rfl (mv_ rfl (wl_guard_on rfl rfl rfl (mv_ rfl (wl_guard_on rfl rfl rfl (mv_ rfl (wl_guard_on rfl rfl rfl ?_))))))))
 refine wl_ov (ov_sliceLo (lo := K) es83 rfl rfl rfl (by omega)) rfl ?_
 refine wl_guard_on rfl rfl rfl ?_
 refine wl_look (R := n3 = n9 - K) (fun wx hm => by have h3 := ((hm.fact 1 rfl)).len; omega) ?_
 intro hn39
 subst hn39
 refine wl_callv rfl cb37 rfl rfl (fun wx hm => (equal_line_any tv A3 (if c9 = K then A9 else Option.map (fun a : Addr => a.add (K * 3)) A9) (n9 - K) c3 (c9 - K) wx (hm.fact 1 rfl) (by have h := SlT.dropS (c := c9) (hm.fact 2 rfl) K hKn hnc9; rw [hdr] at h; exact h) (by omega))) ?_
 refine wl_guard_on rfl rfl rfl (wl_ov (ov_un_not rfl) rfl ?_)
 refine wl_set 79 (v' := .bool false) rfl (congrArg Value.bool (by decide)) ?_
 refine pf_ rfl rfl (mv_ rfl (wl_guard_on rfl rfl rfl (mv_ rfl (wl_guard_on rfl rfl rfl ?_))))
 refine wl_callv rfl cb38 rfl rfl (fun wx hm => (qaSorted_any ls A9 n9 c9 wx (hm.fact 2 rfl) (by omega) hks hk5)) ?_
 refine wl_guard_on rfl rfl rfl (wl_ov (ov_un_not rfl) rfl ?_)
 refine wl_set 84 (v' := .bool false) rfl (congrArg Value.bool (by decide)) ?_
 refine pf_ rfl rfl (nn_ (cf_ rfl (gw_skip (nx_then ?_))))
 refine gw_nest none [103] fun w3 hm_w3 => ⟨_, _, _, _, mem0 (X := [SlOld rtEnc 7 288 w3.heap.size none rA rn rl, SlOld exEnc 4 295 w3.heap.size none eA en el, SlOld feEnc 3 352 w3.heap.size none fA fn fl, SlOld cdEnc 6 354 w3.heap.size none cA cn cl, SlOld txEnc 4 298 w3.heap.size none tA tn tl, SlOld sgEnc 1 9 w3.heap.size none A1 n1 ks, SlOld sgEnc 1 9 w3.heap.size none A2 n2 cks, OnsOld w3.heap.size none tl, SlOld lnEnc 3 88 w3.heap.size none A9 n9 ls, BlkOld w3.heap.size none g2 81 [.string qc, .int .i64 fr, .int .i64 tt, .string qa, .string qb, .slice A1 n1 c1, .slice A2 n2 c2], BlkOld w3.heap.size none g1 77 [.slice rA rn rc, .slice eA en ec, .slice fA fn fc, .slice cA cn cc, .slice tA tn tc]]) (allF_cons (SlT.old (hm_w3.fact 5 rfl).1) (allF_cons (SlT.old (hm_w3.fact 6 rfl).1) (allF_cons (SlT.old (hm_w3.fact 7 rfl).1) (allF_cons (SlT.old (hm_w3.fact 8 rfl).1) (allF_cons (SlT.old (hm_w3.fact 9 rfl).1) (allF_cons (SlT.old (hm_w3.fact 11 rfl).1) (allF_cons (SlT.old (hm_w3.fact 12 rfl).1) (allF_cons (Ons.old (OnsOld.ons (hm_w3.fact 10 rfl))) (allF_cons (SlT.old (hm_w3.fact 2 rfl)) (allF_cons ((hm_w3.fact 3 rfl).2).old (allF_cons ((hm_w3.fact 4 rfl).2).old allF_nil))))))))))) (allL_cons SlOld.lasts (allL_cons SlOld.lasts (allL_cons SlOld.lasts (allL_cons SlOld.lasts (allL_cons SlOld.lasts (allL_cons SlOld.lasts (allL_cons SlOld.lasts (allL_cons OnsOld.lasts (allL_cons SlOld.lasts (allL_cons BlkOld.lasts (allL_cons BlkOld.lasts allL_nil))))))))))), ?_⟩
 refine sr_ ?_
 refine wl_alloc zc97 rfl fun g4 => ?_
 refine nn_ (gw_seq (sr_ (mv_ rfl (wl_ov (ov_len es83 rfl) rfl (mv_ rfl (nn_ (gw_block ?_)))))))
 refine gw_loop (γ := Nat × Int × Int × Int × Int × Int × Int × Int) (fun g => g.1 ≤ n9 ∧ (g.2.2.1 = cntK 1 (ls.take g.1) ∧ g.2.2.2.1 = cntK 2 (ls.take g.1) ∧ g.2.2.2.2.1 = cntK 3 (ls.take g.1) ∧ g.2.2.2.2.2.1 = cntK 4 (ls.take g.1)) ∧ ((0 ≤ g.2.1 ∧ g.2.1 ≤ ((g.1 : Nat) : Int)) ∧ (0 ≤ g.2.2.1 ∧ g.2.2.1 ≤ ((g.1 : Nat) : Int)) ∧ (0 ≤ g.2.2.2.1 ∧ g.2.2.2.1 ≤ ((g.1 : Nat) : Int)) ∧ (0 ≤ g.2.2.2.2.1 ∧ g.2.2.2.2.1 ≤ ((g.1 : Nat) : Int)) ∧ (0 ≤ g.2.2.2.2.2.1 ∧ g.2.2.2.2.2.1 ≤ ((g.1 : Nat) : Int)) ∧ (0 ≤ g.2.2.2.2.2.2.1 ∧ g.2.2.2.2.2.2.1 ≤ ((g.1 : Nat) : Int)) ∧ (0 ≤ g.2.2.2.2.2.2.2 ∧ g.2.2.2.2.2.2.2 ≤ ((g.1 : Nat) : Int)))) (fun g => [(2, .bool false), (4, .pointer (some ⟨g1, 0, none⟩)), (5, .pointer (some ⟨g2, 0, none⟩)), (6, .slice A9 n9 c9), (11, .slice A6 n6 c6), (13, .pointer (some ⟨g4, 0, none⟩)), (86, .slice A9 n9 c9), (87, .int .i64 ((n9 : Nat) : Int)), (88, .int .i64 ((g.1 : Nat) : Int))]) (fun g => fun _ => True) (fun g => [(g4, 97, [.int .i64 g.2.1, .int .i64 g.2.2.1, .int .i64 g.2.2.2.1, .int .i64 g.2.2.2.2.1, .int .i64 g.2.2.2.2.2.1, .int .i64 g.2.2.2.2.2.2.1, .int .i64 g.2.2.2.2.2.2.2])]) (fun g => []) (fun g => [SlOld rtEnc 7 288 w3.heap.size none rA rn rl, SlOld exEnc 4 295 w3.heap.size none eA en el, SlOld feEnc 3 352 w3.heap.size none fA fn fl, SlOld cdEnc 6 354 w3.heap.size none cA cn cl, SlOld txEnc 4 298 w3.heap.size none tA tn tl, SlOld sgEnc 1 9 w3.heap.size none A1 n1 ks, SlOld sgEnc 1 9 w3.heap.size none A2 n2 cks, OnsOld w3.heap.size none tl, SlOld lnEnc 3 88 w3.heap.size none A9 n9 ls, BlkOld w3.heap.size none g2 81 [.string qc, .int .i64 fr, .int .i64 tt, .string qa, .string qb, .slice A1 n1 c1, .slice A2 n2 c2], BlkOld w3.heap.size none g1 77 [.slice rA rn rc, .slice eA en ec, .slice fA fn fc, .slice cA cn cc, .slice tA tn tc]]) (fun g => n9 - g.1) (0, 0, 0, 0, 0, 0, 0, 0) ⟨Nat.zero_le _, ⟨rfl, rfl, rfl, rfl⟩, ⟨Int.le_refl _, Int.le_refl _⟩, ⟨Int.le_refl _, Int.le_refl _⟩, ⟨Int.le_refl _, Int.le_refl _⟩, ⟨Int.le_refl _, Int.le_refl _⟩, ⟨Int.le_refl _, Int.le_refl _⟩, ⟨Int.le_refl _, Int.le_refl _⟩, ⟨Int.le_refl _, Int.le_refl _⟩⟩ ⟨rfl, rfl, rfl, rfl, rfl, rfl, rfl, rfl, rfl, trivial⟩ (fun _ hm => hm.pick [0] [] [0, 1, 2, 3, 4, 5, 6, 7, 8, 9, 10] rfl rfl) ?_
 rintro ⟨i, d0, d1, d2, d3, d4, d5, d6⟩ hinv
 replace hinv : i ≤ n9 ∧ (d1 = cntK 1 (ls.take i) ∧ d2 = cntK 2 (ls.take i) ∧ d3 = cntK 3 (ls.take i) ∧ d4 = cntK 4 (ls.take i)) ∧ ((0 ≤ d0 ∧ d0 ≤ ((i : Nat) : Int)) ∧ (0 ≤ d1 ∧ d1 ≤ ((i : Nat) : Int)) ∧ (0 ≤ d2 ∧ d2 ≤ ((i : Nat) : Int)) ∧ (0 ≤ d3 ∧ d3 ≤ ((i : Nat) : Int)) ∧ (0 ≤ d4 ∧ d4 ≤ ((i : Nat) : Int)) ∧ (0 ≤ d5 ∧ d5 ≤ ((i : Nat) : Int)) ∧ (0 ≤ d6 ∧ d6 ≤ ((i : Nat) : Int))) := hinv
 dsimp only
 refine sr_ ?_
 obtain ⟨hi0, ⟨e1, e2, e3, e4⟩, ⟨l0, u0⟩, ⟨l1, u1⟩, ⟨l2, u2⟩, ⟨l3, u3⟩, ⟨l4, u4⟩, ⟨l5, u5⟩, ⟨l6, u6⟩⟩ := hinv
 refine wl_ov (ov_lss rfl rfl) rfl (nn_ (gw_seq ?_))
 refine gw_cond rfl (fun hh => ?_) (fun hh => ?_)
 ·have hi : ((i : Nat) : Int) < ((n9 : Nat) : Int) := by simpa using hh
  clear hh
  refine gw_skip (nx_then (gw_seq (gw_block (sr_ ?_))))
  refine wl_look (R := ∃ b o, A9 = some ⟨b, o, none⟩) (fun wx hm => by obtain ⟨b, off, hA, _, _⟩ := SlT.get (hm.fact 8 rfl).1 (by omega); exact ⟨b, off, hA⟩) ?_
  rintro ⟨b9, o9, rfl⟩
  obtain ⟨x, hx⟩ : ∃ x, ls[i]? = some x := ⟨_, List.getElem?_eq_getElem (by omega)⟩
  obtain ⟨x0, x1, x2⟩ := x
  have hkx := hk5 _ (List.mem_of_getElem? hx)
  dsimp only at hkx
  have a1 := cnt_at (k := 1) hx
  dsimp only at a1
  have a2 := cnt_at (k := 2) hx
  dsimp only at a2
  have a3 := cnt_at (k := 3) hx
  dsimp only at a3
  have a4 := cnt_at (k := 4) hx
  dsimp only at a4
  obtain hv5 | hv5 | hv5 | hv5 | hv5 : x0 = 1 ∨ x0 = 2 ∨ x0 = 3 ∨ x0 = 4 ∨ x0 = 5 := (by omega)
  ·subst hv5
   rw [if_pos rfl, ← e1] at a1
   rw [if_neg (by decide), ← e2] at a2
   rw [if_neg (by decide), ← e3] at a3
   rw [if_neg (by decide), ← e4] at a4
   refine wl_ov (ov_index (j := i) es83 rfl rfl (by omega)) rfl ?_
   refine wl_ov (ov_elem (vs := [.int .i64 1, .string x1, .int .i64 x2]) rz88 rfl (fun _ hm => (hm.fact 8 rfl).1) hx rfl rfl) rfl ?_
   refine wl_alloc zc88 rfl fun g6 => ?_
   refine wl_stores (cs' := [.int .i64 1, .string x1, .int .i64 x2]) 0 rz88 rfl rfl rfl rfl rfl rfl rfl rfl ?_
   refine nn_ (gw_region (fd_ fo88_0 rfl rfl (lk_ sc3 0 rfl rfl rfl ?_)))
   refine wl_ov (ov_indexP (j := 1) ar97 rfl rfl (by decide) rfl) rfl ?_
   refine lk_ sc3 1 rfl rfl rfl (ad_ rfl rfl ?_)
   refine wl_ov (ov_indexP (j := 1) ar97 rfl rfl (by decide) rfl) rfl ?_
   refine wl_store 1 sc3 rfl rfl rfl rfl rfl rfl ?_
   refine wl_nil (nx_blk_nrm (nx_then (gw_region (ad_ rfl rfl (mv_ rfl (wl_nil ?_))))))
   exact nx_round (i + 1, d0, d1 + 1, d2, d3, d4, d5, d6) ⟨by dsimp only; omega, ⟨by dsimp only; omega, by dsimp only; omega, by dsimp only; omega, by dsimp only; omega⟩, ⟨by dsimp only; omega, by dsimp only; omega⟩, ⟨by dsimp only; omega, by dsimp only; omega⟩, ⟨by dsimp only; omega, by dsimp only; omega⟩, ⟨by dsimp only; omega, by dsimp only; omega⟩, ⟨by dsimp only; omega, by dsimp only; omega⟩, ⟨by dsimp only; omega, by dsimp only; omega⟩, ⟨by dsimp only; omega, by dsimp only; omega⟩⟩ (by dsimp only; omega) ⟨rfl, rfl, rfl, rfl, rfl, rfl, rfl, rfl, (some_int (by omega)), trivial⟩ (fun _ hm => hm.pick [1] [] [0, 1, 2, 3, 4, 5, 6, 7, 8, 9, 10] rfl rfl)
  ·subst hv5
   rw [if_neg (by decide), ← e1] at a1
   rw [if_pos rfl, ← e2] at a2
   rw [if_neg (by decide), ← e3] at a3
   rw [if_neg (by decide), ← e4] at a4
   refine wl_ov (ov_index (j := i) es83 rfl rfl (by omega)) rfl ?_
   refine wl_ov (ov_elem (vs := [.int .i64 2, .string x1, .int .i64 x2]) rz88 rfl (fun _ hm => (hm.fact 8 rfl).1) hx rfl rfl) rfl ?_
   refine wl_alloc zc88 rfl fun g7 => ?_
   refine wl_stores (cs' := [.int .i64 2, .string x1, .int .i64 x2]) 0 rz88 rfl rfl rfl rfl rfl rfl rfl rfl ?_
   refine nn_ (gw_region (fd_ fo88_0 rfl rfl (lk_ sc3 0 rfl rfl rfl ?_)))
   refine wl_ov (ov_indexP (j := 2) ar97 rfl rfl (by decide) rfl) rfl ?_
   refine lk_ sc3 1 rfl rfl rfl (ad_ rfl rfl ?_)
   refine wl_ov (ov_indexP (j := 2) ar97 rfl rfl (by decide) rfl) rfl ?_
   refine wl_store 1 sc3 rfl rfl rfl rfl rfl rfl ?_
   refine wl_nil (nx_blk_nrm (nx_then (gw_region (ad_ rfl rfl (mv_ rfl (wl_nil ?_))))))
   exact nx_round (i + 1, d0, d1, d2 + 1, d3, d4, d5, d6) ⟨by dsimp only; omega, ⟨by dsimp only; omega, by dsimp only; omega, by dsimp only; omega, by dsimp only; omega⟩, ⟨by dsimp only; omega, by dsimp only; omega⟩, ⟨by dsimp only; omega, by dsimp only; omega⟩, ⟨by dsimp only; omega, by dsimp only; omega⟩, ⟨by dsimp only; omega, by dsimp only; omega⟩, ⟨by dsimp only; omega, by dsimp only; omega⟩, ⟨by dsimp only; omega, by dsimp only; omega⟩, ⟨by dsimp only; omega, by dsimp only; omega⟩⟩ (by dsimp only; omega) ⟨rfl, rfl, rfl, rfl, rfl, rfl, rfl, rfl, (some_int (by omega)), trivial⟩ (fun _ hm => hm.pick [1] [] [0, 1, 2, 3, 4, 5, 6, 7, 8, 9, 10] rfl rfl)
  ·subst hv5
   rw [if_neg (by decide), ← e1] at a1
   rw [if_neg (by decide), ← e2] at a2
   rw [if_pos rfl, ← e3] at a3
   rw [if_neg (by decide), ← e4] at a4
   refine wl_ov (ov_index (j := i) es83 rfl rfl (by omega)) rfl ?_
   refine wl_ov (ov_elem (vs := [.int .i64 3, .string x1, .int .i64 x2]) rz88 rfl (fun _ hm => (hm.fact 8 rfl).1) hx rfl rfl) rfl ?_
   refine wl_alloc zc88 rfl fun g8 => ?_
   refine wl_stores (cs' := [.int .i64 3, .string x1, .int .i64 x2]) 0 rz88 rfl rfl rfl rfl rfl rfl rfl rfl ?_
   refine nn_ (gw_region (fd_ fo88_0 rfl rfl (lk_ sc3 0 rfl rfl rfl ?_)))
   refine wl_ov (ov_indexP (j := 3) ar97 rfl rfl (by decide) rfl) rfl ?_
   refine lk_ sc3 1 rfl rfl rfl (ad_ rfl rfl ?_)
   refine wl_ov (ov_indexP (j := 3) ar97 rfl rfl (by decide) rfl) rfl ?_
   refine wl_store 1 sc3 rfl rfl rfl rfl rfl rfl ?_
   refine wl_nil (nx_blk_nrm (nx_then (gw_region (ad_ rfl rfl (mv_ rfl (wl_nil ?_))))))
   exact nx_round (i + 1, d0, d1, d2, d3 + 1, d4, d5, d6) ⟨by dsimp only; omega, ⟨by dsimp only; omega, by dsimp only; omega, by dsimp only; omega, by dsimp only; omega⟩, ⟨by dsimp only; omega, by dsimp only; omega⟩, ⟨by dsimp only; omega, by dsimp only; omega⟩, ⟨by dsimp only; omega, by dsimp only; omega⟩, ⟨by dsimp only; omega, by dsimp only; omega⟩, ⟨by dsimp only; omega, by dsimp only; omega⟩, ⟨by dsimp only; omega, by dsimp only; omega⟩, ⟨by dsimp only; omega, by dsimp only; omega⟩⟩ (by dsimp only; omega) ⟨rfl, rfl, rfl, rfl, rfl, rfl, rfl, rfl, (some_int (by omega)), trivial⟩ (fun _ hm => hm.pick [1] [] [0, 1, 2, 3, 4, 5, 6, 7, 8, 9, 10] rfl rfl)
  ·subst hv5
   rw [if_neg (by decide), ← e1] at a1
   rw [if_neg (by decide), ← e2] at a2
   rw [if_neg (by decide), ← e3] at a3
   rw [if_pos rfl, ← e4] at a4
   refine wl_ov (ov_index (j := i) es83 rfl rfl (by omega)) rfl ?_
   refine wl_ov (ov_elem (vs := [.int .i64 4, .string x1, .int .i64 x2]) rz88 rfl (fun _ hm => (hm.fact 8 rfl).1) hx rfl rfl) rfl ?_
   refine wl_alloc zc88 rfl fun g9 => ?_
   refine wl_stores (cs' := [.int .i64 4, .string x1, .int .i64 x2]) 0 rz88 rfl rfl rfl rfl rfl rfl rfl rfl ?_
   refine nn_ (gw_region (fd_ fo88_0 rfl rfl (lk_ sc3 0 rfl rfl rfl ?_)))
   refine wl_ov (ov_indexP (j := 4) ar97 rfl rfl (by decide) rfl) rfl ?_
   refine lk_ sc3 1 rfl rfl rfl (ad_ rfl rfl ?_)
   refine wl_ov (ov_indexP (j := 4) ar97 rfl rfl (by decide) rfl) rfl ?_
   refine wl_store 1 sc3 rfl rfl rfl rfl rfl rfl ?_
   refine wl_nil (nx_blk_nrm (nx_then (gw_region (ad_ rfl rfl (mv_ rfl (wl_nil ?_))))))
   exact nx_round (i + 1, d0, d1, d2, d3, d4 + 1, d5, d6) ⟨by dsimp only; omega, ⟨by dsimp only; omega, by dsimp only; omega, by dsimp only; omega, by dsimp only; omega⟩, ⟨by dsimp only; omega, by dsimp only; omega⟩, ⟨by dsimp only; omega, by dsimp only; omega⟩, ⟨by dsimp only; omega, by dsimp only; omega⟩, ⟨by dsimp only; omega, by dsimp only; omega⟩, ⟨by dsimp only; omega, by dsimp only; omega⟩, ⟨by dsimp only; omega, by dsimp only; omega⟩, ⟨by dsimp only; omega, by dsimp only; omega⟩⟩ (by dsimp only; omega) ⟨rfl, rfl, rfl, rfl, rfl, rfl, rfl, rfl, (some_int (by omega)), trivial⟩ (fun _ hm => hm.pick [1] [] [0, 1, 2, 3, 4, 5, 6, 7, 8, 9, 10] rfl rfl)
  subst hv5
  rw [if_neg (by decide), ← e1] at a1
  rw [if_neg (by decide), ← e2] at a2
  rw [if_neg (by decide), ← e3] at a3
  rw [if_neg (by decide), ← e4] at a4
  refine wl_ov (ov_index (j := i) es83 rfl rfl (by omega)) rfl ?_
  refine wl_ov (ov_elem (vs := [.int .i64 5, .string x1, .int .i64 x2]) rz88 rfl (fun _ hm => (hm.fact 8 rfl).1) hx rfl rfl) rfl ?_
  refine wl_alloc zc88 rfl fun g10 => ?_
  refine wl_stores (cs' := [.int .i64 5, .string x1, .int .i64 x2]) 0 rz88 rfl rfl rfl rfl rfl rfl rfl rfl ?_
  refine nn_ (gw_region (fd_ fo88_0 rfl rfl (lk_ sc3 0 rfl rfl rfl ?_)))
  refine wl_ov (ov_indexP (j := 5) ar97 rfl rfl (by decide) rfl) rfl ?_
  refine lk_ sc3 1 rfl rfl rfl (ad_ rfl rfl ?_)
  refine wl_ov (ov_indexP (j := 5) ar97 rfl rfl (by decide) rfl) rfl ?_
  refine wl_store 1 sc3 rfl rfl rfl rfl rfl rfl ?_
  refine wl_nil (nx_blk_nrm (nx_then (gw_region (ad_ rfl rfl (mv_ rfl (wl_nil ?_))))))
  exact nx_round (i + 1, d0, d1, d2, d3, d4, d5 + 1, d6) ⟨by dsimp only; omega, ⟨by dsimp only; omega, by dsimp only; omega, by dsimp only; omega, by dsimp only; omega⟩, ⟨by dsimp only; omega, by dsimp only; omega⟩, ⟨by dsimp only; omega, by dsimp only; omega⟩, ⟨by dsimp only; omega, by dsimp only; omega⟩, ⟨by dsimp only; omega, by dsimp only; omega⟩, ⟨by dsimp only; omega, by dsimp only; omega⟩, ⟨by dsimp only; omega, by dsimp only; omega⟩, ⟨by dsimp only; omega, by dsimp only; omega⟩⟩ (by dsimp only; omega) ⟨rfl, rfl, rfl, rfl, rfl, rfl, rfl, rfl, (some_int (by omega)), trivial⟩ (fun _ hm => hm.pick [1] [] [0, 1, 2, 3, 4, 5, 6, 7, 8, 9, 10] rfl rfl)
 have hi : ¬ (((i : Nat) : Int) < ((n9 : Nat) : Int)) := by simpa using hh
 clear hh
 refine gw_exit ?_
 refine nx_then_exit (nx_then_exit ?_)
 refine nx_blk_here ?_
 refine nx_then (sr_ ?_)
 have hall : ls.take i = ls := List.take_of_length_le (by omega)
 rw [hall] at e1 e2 e3 e4
 rw [← e1] at hc1
 rw [← e2] at hc2
 rw [← e3] at hc3
 rw [← e4] at hc4
 clear e1 e2 e3 e4
 refine wl_ov (ov_loads (vs := [.slice rA rn rc, .slice eA en ec, .slice fA fn fc, .slice cA cn cc, .slice tA tn tc]) rz77 rfl (fun _ hm => (hm.fact 10 rfl).2) rfl rfl) rfl ?_
 refine fd_ fo81_0 rfl rfl ?_
 refine wl_ov (ov_load (v := .string qc) sc9 rfl (fun _ hm => (hm.fact 9 rfl).2) rfl) rfl ?_
 refine wl_buildSlice (e := 9) (cs := [.string qc]) rfl (by kernel_rfl) rfl fun g11 => ?_
 refine wl_ov (ov_loads (vs := [.string qc, .int .i64 fr, .int .i64 tt, .string qa, .string qb, .slice A1 n1 c1, .slice A2 n2 c2]) rz81 rfl (fun _ hm => (hm.fact 9 rfl).2) rfl rfl) rfl ?_
 refine wl_callx (γ := Option Addr × Nat × Nat) (val := (fun g => .tuple #[.slice g.1 g.2.1 g.2.2, .int .i64 0])) (φ := (fun g => True)) (Y := (fun g => fun wy => SlT ofEnc 2 103 wy g.1 g.2.1 [⟨qc, sumBy centsOf ls⟩])) rfl cb40 rfl rfl (fun wx hm => (by have h := offers_any rl rA rn rc el eA en ec fl fA fn fc cl cA cn cc tl tA tn tc [qc] (some ⟨g11, 0, none⟩) 1 1 qc fr tt qa qb ks A1 n1 c1 cks A2 n2 c2 wx (hm.fact 0 rfl).1 (hm.fact 1 rfl).1 (hm.fact 2 rfl).1 (hm.fact 3 rfl).1 (hm.fact 4 rfl).1 (OnsOld.ons (hm.fact 7 rfl)) hro heo hfo hco hto hrn hen hfn hcn htn htc (SlT.ofBlk (l := [qc]) sg_len (hm.blkI 0 rfl)) (by omega) (by omega) (fun x hx => by rw [List.mem_singleton.1 hx]; exact hz.1) (hm.fact 5 rfl).1 (hm.fact 6 rfl).1 hn1 hn2 hz hn10 hn20 hch; rw [off_zero h0 hask htm hqk] at h; exact h.mono fun _ _ ⟨A, n, c, os, he, hs, hn, h1, _, hg⟩ => ⟨(A, n, c), he, trivial, hg, by obtain ⟨us, hus, hos⟩ := h1 rfl; rw [offers_one hqs hus hos] at hs; exact hs⟩)) (fun _ => SlT.lasts2 rfl) ?_
 rintro ⟨A8, n8, c8⟩ hphi
 dsimp only
 clear hphi
 refine wl_look (R := n8 = 1) (fun wx hm => ((hm.fact 0 rfl)).len.symm) ?_
 intro hn81
 subst hn81
 refine mv_ rfl (wl_ov (ov_extract rfl rfl) rfl (wl_ov (ov_extract rfl rfl) rfl (sg_ rfl (sg_ rfl (nn_ (sr_ (sg_ rfl (nn_ (gw_seq (gw_seq ?_))))))))))
 refine gw_region (mv_ rfl (wl_ov (ov_len es83 rfl) rfl (mv_ rfl (nn_ (gw_block ?_)))))
 refine gw_loop (γ := Nat × Int) (fun g => g.1 ≤ n9 ∧ g.2 = sumBy centsOf (ls.take g.1) ∧ -(((g.1 : Nat) : Int) * 1000000000000) ≤ g.2 ∧ g.2 ≤ ((g.1 : Nat) : Int) * 1000000000000) (fun g => [(2, .bool false), (5, .pointer (some ⟨g2, 0, none⟩)), (11, .slice A6 n6 c6), (13, .pointer (some ⟨g4, 0, none⟩)), (16, .slice A8 1 c8), (17, .int .i64 0), (18, .int .i64 g.2), (108, .slice A9 n9 c9), (109, .int .i64 ((n9 : Nat) : Int)), (110, .int .i64 ((g.1 : Nat) : Int))]) (fun g => fun _ => True) (fun g => [(g11, 9, [.string qc]), (g4, 97, [.int .i64 d0, .int .i64 d1, .int .i64 d2, .int .i64 d3, .int .i64 d4, .int .i64 d5, .int .i64 d6])]) (fun g => []) (fun g => [fun wy => SlT ofEnc 2 103 wy A8 1 [⟨qc, sumBy centsOf ls⟩], SlOld rtEnc 7 288 w3.heap.size none rA rn rl, SlOld exEnc 4 295 w3.heap.size none eA en el, SlOld feEnc 3 352 w3.heap.size none fA fn fl, SlOld cdEnc 6 354 w3.heap.size none cA cn cl, SlOld txEnc 4 298 w3.heap.size none tA tn tl, SlOld sgEnc 1 9 w3.heap.size none A1 n1 ks, SlOld sgEnc 1 9 w3.heap.size none A2 n2 cks, OnsOld w3.heap.size none tl, SlOld lnEnc 3 88 w3.heap.size none A9 n9 ls, BlkOld w3.heap.size none g2 81 [.string qc, .int .i64 fr, .int .i64 tt, .string qa, .string qb, .slice A1 n1 c1, .slice A2 n2 c2], BlkOld w3.heap.size none g1 77 [.slice rA rn rc, .slice eA en ec, .slice fA fn fc, .slice cA cn cc, .slice tA tn tc]]) (fun g => n9 - g.1) (0, 0) ⟨Nat.zero_le _, rfl, by decide, by decide⟩ ⟨rfl, rfl, rfl, rfl, rfl, rfl, rfl, rfl, rfl, rfl, trivial⟩ (fun _ hm => hm.pick [0, 1] [] [0, 1, 2, 3, 4, 5, 6, 7, 8, 9, 10, 11] rfl rfl) ?_
 rintro ⟨q, h⟩ hinv
 replace hinv : q ≤ n9 ∧ h = sumBy centsOf (ls.take q) ∧ -(((q : Nat) : Int) * 1000000000000) ≤ h ∧ h ≤ ((q : Nat) : Int) * 1000000000000 := hinv
 dsimp only
 refine sr_ ?_
 obtain ⟨hq0, hh, hh0, hh1⟩ := hinv
 refine wl_ov (ov_lss rfl rfl) rfl (nn_ (gw_seq ?_))
 refine gw_cond rfl (fun hh => ?_) (fun hh => ?_)
 ·have hq : ((q : Nat) : Int) < ((n9 : Nat) : Int) := by simpa using hh
  clear hh
  refine gw_skip (nx_then (gw_seq (gw_block (sr_ ?_))))
  refine wl_look (R := ∃ b o, A9 = some ⟨b, o, none⟩) (fun wx hm => by obtain ⟨b, off, hA, _, _⟩ := SlT.get (hm.fact 9 rfl).1 (by omega); exact ⟨b, off, hA⟩) ?_
  rintro ⟨b9, o9, rfl⟩
  obtain ⟨x, hx⟩ : ∃ x, ls[q]? = some x := ⟨_, List.getElem?_eq_getElem (by omega)⟩
  obtain ⟨x0, x1, x2⟩ := x
  have hat := sum_at hx
  dsimp only at hat
  rw [← hh] at hat
  have hb := hbd _ (List.mem_of_getElem? hx)
  unfold bdL at hb
  dsimp only at hb
  refine wl_ov (ov_index (j := q) es83 rfl rfl (by omega)) rfl ?_
  refine wl_ov (ov_elem (vs := [.int .i64 x0, .string x1, .int .i64 x2]) rz88 rfl (fun _ hm => (hm.fact 9 rfl).1) hx rfl rfl) rfl ?_
  refine wl_alloc zc88 rfl fun g12 => ?_
  refine wl_stores (cs' := [.int .i64 x0, .string x1, .int .i64 x2]) 0 rz88 rfl rfl rfl rfl rfl rfl rfl rfl ?_
  refine nn_ (gw_region (mv_ rfl (fd_ fo88_2 rfl rfl (lk_ sc3 0 rfl rfl rfl (ad_ rfl rfl (sg_ rfl (wl_nil (nx_blk_nrm (nx_then (gw_region (ad_ rfl rfl (mv_ rfl ?_))))))))))))
  refine wl_nil ?_
  exact nx_round (q + 1, h + x2) ⟨by dsimp only; omega, hat.symm, by dsimp only; omega, by dsimp only; omega⟩ (by dsimp only; omega) ⟨rfl, rfl, rfl, rfl, rfl, rfl, rfl, rfl, rfl, (some_int (by omega)), trivial⟩ (fun _ hm => hm.pick [1, 2] [] [0, 1, 2, 3, 4, 5, 6, 7, 8, 9, 10, 11] rfl rfl)
 have hq : ¬ (((q : Nat) : Int) < ((n9 : Nat) : Int)) := by simpa using hh
 clear hh
 refine gw_exit ?_
 refine nx_then_exit (nx_then_exit ?_)
 refine nx_blk_here ?_
 refine nx_then (sr_ ?_)
 have hall2 : ls.take q = ls := List.take_of_length_le (by omega)
 rw [hall2] at hh
 subst hh
 refine wl_ov (ov_indexP (j := 1) ar97 rfl rfl (by decide) rfl) rfl ?_
 refine lk_ sc3 1 rfl rfl rfl (mv_ rfl (wl_ov (ov_len es91 rfl) rfl (wl_ov (ov_eql rfl rfl) rfl ?_)))
 refine wl_set 123 (v' := .bool true) rfl (congrArg Value.bool (decide_eq_true (show d1 = ((n6 : Nat) : Int) by omega))) ?_
 refine mv_ rfl (wl_guard_on rfl rfl rfl ?_)
 refine wl_ov (ov_indexP (j := 2) ar97 rfl rfl (by decide) rfl) rfl ?_
 refine wl_guard_on rfl rfl rfl (lk_ sc3 1 rfl rfl rfl (wl_guard_on rfl rfl rfl (wl_ov (ov_leq rfl rfl) rfl ?_)))
 refine wl_set 127 (v' := .bool true) rfl (congrArg Value.bool (decide_eq_true (hc2))) ?_
 refine pt_ rfl rfl (mv_ rfl (wl_guard_on rfl rfl rfl ?_))
 refine wl_ov (ov_indexP (j := 3) ar97 rfl rfl (by decide) rfl) rfl ?_
 refine wl_guard_on rfl rfl rfl (lk_ sc3 1 rfl rfl rfl (wl_guard_on rfl rfl rfl (fd_ fo81_4 rfl rfl (wl_guard_on rfl rfl rfl ?_))))
 refine wl_ov (ov_load (v := .slice A1 n1 c1) sc79 rfl (fun _ hm => (hm.fact 10 rfl).2) rfl) rfl ?_
 refine wl_guard_on rfl rfl rfl (wl_ov (ov_len es79 rfl) rfl (wl_guard_on rfl rfl rfl (wl_ov (ov_eql rfl rfl) rfl ?_)))
 refine wl_set 135 (v' := .bool true) rfl (congrArg Value.bool (decide_eq_true (show d3 = ((n1 : Nat) : Int) by omega))) ?_
 refine pt_ rfl rfl (mv_ rfl (wl_guard_on rfl rfl rfl ?_))
 refine wl_ov (ov_indexP (j := 4) ar97 rfl rfl (by decide) rfl) rfl ?_
 refine wl_guard_on rfl rfl rfl (lk_ sc3 1 rfl rfl rfl (wl_guard_on rfl rfl rfl (wl_ov (ov_leq rfl rfl) rfl ?_)))
 refine wl_set 140 (v' := .bool true) rfl (congrArg Value.bool (decide_eq_true (hc4))) ?_
 refine pt_ rfl rfl (mv_ rfl (wl_guard_on rfl rfl rfl (mv_ rfl (wl_guard_on rfl rfl rfl (wl_ov (ov_eql rfl rfl) rfl ?_)))))
 refine wl_set 144 (v' := .bool true) rfl (congrArg Value.bool (by decide)) ?_
 refine pt_ rfl rfl (mv_ rfl (wl_guard_on rfl rfl rfl (mv_ rfl (wl_guard_on rfl rfl rfl (fd_ fo81_0 rfl rfl (wl_guard_on rfl rfl rfl ?_))))))
 refine wl_ov (ov_load (v := .string qc) sc9 rfl (fun _ hm => (hm.fact 10 rfl).2) rfl) rfl ?_
 refine wl_guard_on rfl rfl rfl (mv_ rfl (wl_guard_on rfl rfl rfl ?_))
 refine wl_ov (ov_build (cs := [.string qc, .int .i64 (sumBy centsOf ls)]) rfl (by kernel_rfl)) rfl ?_
 refine wl_guard_on rfl rfl rfl ?_
 refine wl_buildSlice (e := 103) (cs := [.string qc, .int .i64 (sumBy centsOf ls)]) rfl (by kernel_rfl) rfl fun g13 => ?_
 refine wl_guard_on rfl rfl rfl ?_
 refine wl_callv rfl cb41 rfl rfl (fun wx hm => (equal_offer_any [⟨qc, sumBy centsOf ls⟩] A8 (some ⟨g13, 0, none⟩) 1 c8 1 wx (hm.fact 0 rfl) (SlT.ofBlk (l := [(⟨qc, sumBy centsOf ls⟩ : Ofr)]) of_len (hm.blkI 0 rfl)) (by omega))) ?_
 refine pt_ rfl rfl (mv_ rfl (wl_guard_on rfl rfl rfl ?_))
 refine wl_callv rfl cb28 rfl rfl (fun wx hm => (ready_any wx)) ?_
 refine pt_ rfl rfl (sg_ rfl (nn_ ?_))
 refine gw_ret ?_
 refine nx_ret1 rfl rfl fun wx hm => ?_
 exact ⟨rfl, law_end hg1 hsb (grow_trans hm_w2.g (grow_weak (grow_trans hm_w3.g hm.g)))⟩
end Go.Proofs.YtdoooppeiphefaaGreatDoor
