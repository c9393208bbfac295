/- Several texts as one: Su Sw Tc Fm Ck -/
import Derived.Test.YtljnekobfjpfaaaDoorZa
import Derived.Test.YtljnekobfjpfaaaDoorRk
import Derived.Test.YtljnekobfjpfaaaDoorWkey
import Derived.Test.YtljnekobfjpfaaaDoorRt
import Derived.Test.YtljnekobfjpfaaaDoorGb
import Derived.Test.YtljnekobfjpfaaaDoorGk
import Derived.Test.YtljnekobfjpfaaaDoorRh
import Derived.Test.YtljnekobfjpfaaaDoorHe
/- The steps of a walk over slots and blocks: closures; blocks that came in. -/
namespace Go.Proofs.YtljnekobfjpfaaaDoor
open Go.RowKit

section
variable {P : Program} {nn : Nat} {S : List (Nat × Value)} {Z : World → Prop} {d : Nat} {ty : TypeId} {pos : String} {aft : Array Edge}
theorem ov_makeFunc {f : FuncId} {fs cs : List Operand} {vf vc : List Value} (hf : evArgs S fs = some vf) (hc : evArgs S cs = some vc) : OV P nn S Z ⟨some d, .makeFunc (.func f) fs.toArray cs.toArray, ty, pos, aft, none⟩ (.func (.func f) vf.toArray vc.toArray) := fun a w ha hm => by
  have e1 := ha.args hf
  have e2 := ha.args hc
  simp [execOp, e1, e2, Instr.makeFunc]
theorem ov_beql {t t' : TypeId} {x y : Operand} {m n : Bool} (hb : P.underlying t = some .bool) (hx : rd S x = some (.bool m)) (hy : rd S y = some (.bool n)) : OV P nn S Z ⟨some d, .binOp .eql t x y t', ty, pos, aft, none⟩ (.bool (m == n)) :=
  ov_bin hx hy (fun w => by simp [binOp, run_equal_bool w t m n hb, go_sem])
theorem ov_bneq {t t' : TypeId} {x y : Operand} {m n : Bool} (hb : P.underlying t = some .bool) (hx : rd S x = some (.bool m)) (hy : rd S y = some (.bool n)) : OV P nn S Z ⟨some d, .binOp .neq t x y t', ty, pos, aft, none⟩ (.bool (!(m == n))) :=
  ov_bin hx hy (fun w => by simp [binOp, run_equal_bool w t m n hb, go_sem])
end
/-- A block that came in. -/
def BlkOld (N : Nat) (row : Option Nat) (g : Nat) (T : TypeId) (cs : List Value) (w : World) : Prop := (g < N ∧ row ≠ some g) ∧ Blk w g T cs
theorem BlkOld.lasts {N g : Nat} {row : Option Nat} {Tt : List TypeId} {T : TypeId} {cs : List Value} : Lasts2 N row Tt (BlkOld N row g T cs) :=
  ⟨fun _ _ h ⟨h1, h2⟩ => ⟨h1, h2.grown h (by simp)⟩, fun _ _ r _ _ _ _ h3 h4 ⟨h1, h2⟩ => ⟨h1, h2.grown h4 (fun e => by
    cases e
    rcases h3 with h3 | h3
    · omega
    · exact h1.2 h3)⟩⟩
theorem Blk.old {w : World} {g : Nat} {T : TypeId} {cs : List Value} (h : Blk w g T cs) : BlkOld w.heap.size none g T cs w := ⟨⟨h.lt, by simp⟩, h⟩

end Go.Proofs.YtljnekobfjpfaaaDoor
/- The steps of a walk over slots and blocks: slices of slices; facts that follow. -/
namespace Go.Proofs.YtljnekobfjpfaaaDoor
open Go.RowKit

section
variable {P : Program} {nn : Nat} {S : List (Nat × Value)} {Z : World → Prop} {d : Nat} {ty : TypeId} {pos : String} {aft : Array Edge}
theorem elemSz_parts {t e : TypeId} {sz : Nat} (h : elemSz P t = some (e, sz)) : P.underlying t = some (.slice (P.elem t)) ∧ ∀ w, (sizeOf (P.elem t)).run P w = .ok sz w := by
  unfold elemSz at h
  split at h
  · rename_i e' hu
    have he : P.elem t = e' := by simp [Program.elem, hu]
    rw [he]
    refine ⟨hu, fun w => ?_⟩
    cases hi : P.info? e' with
    | none => simp [hi] at h
    | some i =>
      simp [hi] at h
      simp [sizeOf, typeInfo, hi, h.2]
  · cases h
theorem ov_sliceLo {t e : TypeId} {sz : Nat} {x y : Operand} {A : Option Addr} {n cap lo : Nat} {v : Int} (he : elemSz P t = some (e, sz)) (hx : rd S x = some (.slice A n cap)) (hy : rd S y = some (.int .i64 v)) (hv : v = (lo : Int)) (hlo : lo ≤ n) : OV P nn S Z ⟨some d, .slice t x (some y) none none, ty, pos, aft, none⟩ (.slice (if cap = lo then A else A.map (·.add (lo * sz))) (n - lo) (cap - lo)) := fun a w ha hm => by
  obtain ⟨hu, hs⟩ := elemSz_parts he
  subst hv
  have h1 : (Instr.slice t (.slice A n cap) (some (.int .i64 (lo : Int))) none none).run P w = .ok (.slice (if cap = lo then A else A.map (·.add (lo * sz))) (n - lo) (cap - lo)) w := by
    rw [run_slice_any w t A n cap hu]
    have hb := run_sliceBound (P := P) w .i64 (lo : Int) n .sliceB (by omega) (by omega)
    simp [Instr.sliceBounds, hs, sliced, hb]
  simp [execOp, ha.eval hx, ha.eval hy, run_sliceAt_slice w t _ _ _ _ hu, h1]
theorem ov_sliceHi {t e : TypeId} {sz : Nat} {x y : Operand} {b off : Nat} {n cap hi : Nat} {v : Int} (he : elemSz P t = some (e, sz)) (hx : rd S x = some (.slice (some ⟨b, off, none⟩) n cap)) (hy : rd S y = some (.int .i64 v)) (hv : v = (hi : Int)) (hhi : hi ≤ cap) : OV P nn S Z ⟨some d, .slice t x none (some y) none, ty, pos, aft, none⟩ (.slice (some ⟨b, off, none⟩) hi cap) := fun a w ha hm => by
  obtain ⟨hu, hs⟩ := elemSz_parts he
  subst hv
  have h1 : (Instr.slice t (.slice (some ⟨b, off, none⟩) n cap) none (some (.int .i64 (hi : Int))) none).run P w = .ok (.slice (some ⟨b, off, none⟩) hi cap) w := by
    rw [run_slice_any w t _ n cap hu]
    have hb := run_sliceBound (P := P) w .i64 (hi : Int) cap .sliceAcap (by omega) (by omega)
    simp [Instr.sliceBounds, hs, sliced, hb, Addr.add]
  simp [execOp, ha.eval hx, ha.eval hy, run_sliceAt_slice w t _ _ _ _ hu, h1]
end
theorem SlT.dropS {α : Type} {enc : α → List Value} {k : Nat} {T : TypeId} {w : World} {A : Option Addr} {n c : Nat} {l : List α} (h : SlT enc k T w A n l) (lo : Nat) (hlo : lo ≤ n) (hc : n ≤ c) : SlT enc k T w (if c = lo then A else A.map (·.add (lo * k))) (n - lo) (l.drop lo) := by
  refine ⟨by rw [List.length_drop, h.len], fun hn => ?_⟩
  obtain ⟨b, off, cells, fz, rfl, hh, hr⟩ := h.at_ (by omega)
  refine ⟨b, off + lo * k, cells, fz, ?_, hh, fun i x hx j v hv => ?_⟩
  · rw [if_neg (by omega)]
    simp only [Option.map_some, Option.some.injEq]
    unfold Addr.add
    split
    · rename_i h0; rw [h0, Nat.add_zero]
    · rfl
  · rw [List.getElem?_drop] at hx
    have := hr (lo + i) x hx j v hv
    rw [Nat.add_mul] at this
    rw [show off + lo * k + i * k + j = off + (lo * k + i * k) + j by omega]
    exact this
section
variable {P : Program} {c : Cx} {ops : Array Oper} {Q : Exit → Act → World → Prop} {S : List (Nat × Value)} {K : World → Prop} {L : List (Nat × TypeId × List Value)} {O : List Own} {X : List (World → Prop)}
/-- A fact that follows from what is known, and lasts. -/
theorem wl_also {l : List Oper} {Y : World → Prop} (hl : Lasts2 c.w0.heap.size c.row c.Tt Y) (hy : ∀ w, Mem c K L O X w → Y w) (h : WL P c ops Q l S K L O (Y :: X)) : WL P c ops Q l S K L O X := fun a w ha hm => h a w ha (hm.also hl (hy w hm))
theorem gw_also {code : Code} {Y : World → Prop} (hl : Lasts2 c.w0.heap.size c.row c.Tt Y) (hy : ∀ w, Mem c K L O X w → Y w) (h : Gw P c Q code S K L O (Y :: X)) : Gw P c Q code S K L O X := fun a w ha hm => h a w ha (hm.also hl (hy w hm))
theorem nx_also {e : Exit} {Y : World → Prop} (hl : Lasts2 c.w0.heap.size c.row c.Tt Y) (hy : ∀ w, Mem c K L O X w → Y w) (h : Nx c Q e S K L O (Y :: X)) : Nx c Q e S K L O X := fun a w ha hm => h a w ha (hm.also hl (hy w hm))
end
theorem lasts_all {α : Type} {N : Nat} {row : Option Nat} {Tt : List TypeId} {l : List α} {Y : α → World → Prop} (h : ∀ x ∈ l, Lasts2 N row Tt (Y x)) : Lasts2 N row Tt (fun w => ∀ x ∈ l, Y x w) :=
  ⟨fun w w' hg hx x hm => (h x hm).gr w w' hg (hx x hm), fun w w' r T c h1 h2 h3 h4 hx x hm => (h x hm).st w w' r T c h1 h2 h3 h4 (hx x hm)⟩
theorem own_cap {w : World} {base : Nat} {e : TypeId} {sz n : Nat} {A : Option Addr} {cc : Nat} {xs : List Value} (h : w.ownsRow base e sz (.slice A n cc) n xs) : n ≤ cc := by
  rcases h.2 with ⟨h1, h0⟩ | ⟨g, cap, cur, h1, _, _, h2, _⟩
  · omega
  · injection h1 with _ _ h3
    omega

end Go.Proofs.YtljnekobfjpfaaaDoor
/- Tiers: CheckTiers, TiersFault, CancelFee, CancelOf, the generators. -/
namespace Go.Proofs.YtljnekobfjpfaaaDoor
open Go.RowKit

structure Tr where
  hours : Int
  mille : Int
def trEnc (t : Tr) : List Value := [.int .i64 t.hours, .int .i64 t.mille]
theorem tr_len (t : Tr) : (trEnc t).length = 2 := rfl
def tierE (p : Option Tr) (t : Tr) : Int :=
  if !inB t.hours 1 5761440 then 1 else if !inB t.mille 0 1000 then 1 else
  match p with
  | none => 0
  | some q => if q.hours ≤ t.hours then 7 else if t.mille < q.mille then 7 else 0
def tiersE (l : List Tr) : Int := if 10 < l.length then 2 else scanE tierE none l
theorem prevOf_zero {α : Type} {l : List α} {k : Nat} (h : k = 0) : prevOf l k = none := by unfold prevOf; rw [if_pos h]
theorem prevOf_pos {α : Type} {l : List α} {k : Nat} {y : α} (h : ¬ k = 0) (hy : l[k - 1]? = some y) : prevOf l k = some y := by unfold prevOf; rw [if_neg h, hy]
theorem scanE_all {α : Type} {f : Option α → α → Int} : ∀ {l : List α} {p : Option α}, scanE f p l = 0 → ∀ x ∈ l, ∃ q, f q x = 0
  | [], _, _, x, hx => by cases hx
  | y :: t, p, h, x, hx => by
    unfold scanE at h
    by_cases h0 : f p y = 0
    · rw [if_pos h0] at h
      rcases List.mem_cons.1 hx with rfl | hx
      · exact ⟨p, h0⟩
      · exact scanE_all h x hx
    · rw [if_neg h0] at h; exact absurd h h0
theorem tiersE_ok {l : List Tr} (h : tiersE l = 0) : l.length ≤ 10 ∧ ∀ t ∈ l, (1 ≤ t.hours ∧ t.hours ≤ 5761440) ∧ (0 ≤ t.mille ∧ t.mille ≤ 1000) := by
  unfold tiersE at h
  split at h
  · cases h
  · refine ⟨by omega, fun t ht => ?_⟩
    obtain ⟨q, hq⟩ := scanE_all h t ht
    unfold tierE at hq
    cases h1 : inB t.hours 1 5761440 with
    | false => rw [h1] at hq; cases hq
    | true =>
      cases h2 : inB t.mille 0 1000 with
      | false => rw [h1, h2] at hq; cases hq
      | true => exact ⟨inB_iff.1 h1, inB_iff.1 h2⟩
/-- The fee of a cancelling d minutes ahead. -/
def feeV (l : List Tr) (v d : Int) : Int := l.foldl (fun a t => if d < t.hours then v * t.mille / 1000 else a) 0
theorem feeV_take {l : List Tr} {v d : Int} {k : Nat} {x : Tr} (h : l[k]? = some x) : feeV (l.take (k + 1)) v d = if d < x.hours then v * x.mille / 1000 else feeV (l.take k) v d := by
  obtain ⟨hk, rfl⟩ := List.getElem?_eq_some_iff.1 h
  unfold feeV
  rw [List.take_add_one, List.getElem?_eq_getElem hk, List.foldl_append]
  rfl

set_option maxRecDepth 100000 in
set_option maxHeartbeats 1000000 in
theorem checkTiers_any (l : List Tr) (A : Option Addr) (n c : Nat) (w : World) (hl : SlT trEnc 2 141 w A n l) (hn : n ≤ 1000000) :
    Calls Tryd.prog 26 #[.slice A n c] w (GotE w (tiersE l)) := by
  refine gw_enter ⟨52, w, none, []⟩ Tryd.func26 rfl Tryd.ntmps26 rfl (mem0 (X := [SlOld trEnc 2 141 w.heap.size none A n l]) (allF_cons hl.old allF_nil) (allL_cons SlOld.lasts allL_nil)) ?_
  refine gw_seq ?_
  refine gw_region ?_
  have hlen := hl.len
  refine wl_ov (ov_assign rfl) rfl ?_
  refine wl_nil ?_
  refine nx_then ?_
  refine gw_seq ?_
  refine gw_seq ?_
  refine gw_region ?_
  refine wl_ov (ov_move rfl) rfl ?_
  refine wl_ov (ov_len es43 rfl) rfl ?_
  refine wl_ov (ov_gtr rfl rfl) rfl ?_
  refine wl_nil ?_
  refine nx_then ?_
  refine gw_cond rfl (fun hh => ?_) (fun hh => ?_)
  · have h1 : 10 < ((n : Nat) : Int) := by simpa using hh
    clear hh
    refine gw_seq ?_
    refine gw_region ?_
    refine wl_ov (ov_assign rfl) rfl ?_
    refine wl_nil ?_
    refine nx_then ?_
    refine gw_ret ?_
    refine nx_then_ret ?_
    refine nx_ret1 rfl rfl fun wx hm => ?_
    exact ⟨ret_int (by unfold tiersE; rw [if_pos (by omega)]), hm.g⟩
  · have h1 : ¬ (10 < ((n : Nat) : Int)) := by simpa using hh
    clear hh
    refine gw_skip ?_
    refine nx_then ?_
    refine gw_seq ?_
    refine gw_seq ?_
    refine gw_region ?_
    refine wl_ov (ov_move rfl) rfl ?_
    refine wl_ov (ov_len es43 rfl) rfl ?_
    refine wl_ov (ov_move rfl) rfl ?_
    refine wl_nil ?_
    refine nx_then ?_
    refine gw_block ?_
    refine gw_loop (γ := Nat) (fun (k : Nat) => k ≤ n ∧ tiersE l = scanE tierE (prevOf l k) (l.drop k)) (fun (k : Nat) => [(0, .slice A n c), (8, .slice A n c), (9, .int .i64 ((n : Nat) : Int)), (10, .int .i64 ((k : Nat) : Int))]) (fun (k : Nat) => fun _ => True) (fun (k : Nat) => []) (fun (k : Nat) => []) (fun (k : Nat) => [SlOld trEnc 2 141 w.heap.size none A n l]) (fun (k : Nat) => n - k) 0 ⟨Nat.zero_le _, by unfold tiersE; rw [if_neg (by omega)]; rfl⟩ ⟨rfl, rfl, rfl, rfl, trivial⟩ (fun _ hm => hm.pick [] [] [0] rfl rfl) ?_
    intro k hinv
    replace hinv : k ≤ n ∧ tiersE l = scanE tierE (prevOf l k) (l.drop k) := hinv
    refine gw_seq ?_
    refine gw_region ?_
    refine wl_ov (ov_lss rfl rfl) rfl ?_
    refine wl_nil ?_
    refine nx_then ?_
    refine gw_seq ?_
    refine gw_cond rfl (fun hh => ?_) (fun hh => ?_)
    · have hk : ((k : Nat) : Int) < ((n : Nat) : Int) := by simpa using hh
      clear hh
      refine gw_skip ?_
      refine nx_then ?_
      refine gw_seq ?_
      refine gw_block ?_
      refine gw_seq ?_
      refine gw_region ?_
      obtain ⟨b, off, hA, _, _⟩ := hl.get (by omega)
      subst hA
      obtain ⟨x, hx⟩ : ∃ x, l[k]? = some x := ⟨_, List.getElem?_eq_getElem (by omega)⟩
      obtain ⟨hr, ml⟩ := x
      have hat := scanE_at tierE l k _ hx
      refine wl_ov (ov_move rfl) rfl ?_
      refine wl_ov (ov_index (j := k) es43 rfl rfl (by omega)) rfl ?_
      refine wl_ov (ov_elem rz141 rfl (fun _ hm => (hm.fact 0 rfl).1) hx rfl rfl) rfl ?_
      refine wl_alloc zc141 rfl fun g1 => ?_
      refine wl_ov (ov_assign rfl) rfl ?_
      refine wl_stores (cs' := [.int .i64 hr, .int .i64 ml]) 0 rz141 rfl rfl rfl rfl rfl rfl rfl rfl ?_
      refine wl_nil ?_
      refine nx_then ?_
      refine gw_block ?_
      refine gw_seq ?_
      refine gw_region ?_
      refine wl_ov (ov_field fo141_0 rfl rfl) rfl ?_
      refine wl_ov (ov_load sc3 rfl (fun _ hm => hm.blkI 0 rfl) rfl) rfl ?_
      refine wl_callw rfl cb99 rfl rfl (fun wx hm => (in_any _ _ _ wx)) ?_
      refine wl_ov (ov_un_not rfl) rfl ?_
      refine wl_ov (ov_move rfl) rfl ?_
      rcases Bool.eq_false_or_eq_true (!(inB hr 1 5761440)) with h2 | h2
      · refine wl_set 20 rfl (congrArg Value.bool h2) ?_
        refine wl_guard_off rfl rfl rfl (by decide) rfl ?_
        refine wl_guard_off rfl rfl rfl (by decide) rfl ?_
        refine wl_guard_off rfl rfl rfl (by decide) rfl ?_
        refine wl_guard_off rfl rfl rfl (by decide) rfl ?_
        refine wl_ov (ov_pick_t rfl rfl) rfl ?_
        refine wl_ov (ov_assign rfl) rfl ?_
        refine wl_nil ?_
        refine nx_then ?_
        refine gw_cond rfl (fun _ => ?_) (fun hh => by cases hh)
        refine gw_seq ?_
        refine gw_region ?_
        refine wl_ov (ov_assign rfl) rfl ?_
        refine wl_nil ?_
        refine nx_then ?_
        refine gw_ret ?_
        refine nx_blk_ret ?_
        refine nx_blk_ret ?_
        refine nx_then_ret ?_
        refine nx_then_ret ?_
        refine nx_blk_ret ?_
        refine nx_then_ret ?_
        have hE : tierE (prevOf l k) ⟨hr, ml⟩ = 1 := by unfold tierE; simp [h2]
        refine nx_ret1 rfl rfl fun wx hm => ?_
        exact ⟨ret_int (by rw [hinv.2, hat, if_neg (by rw [hE]; decide), hE]), hm.g⟩
      · refine wl_set 20 rfl (congrArg Value.bool h2) ?_
        refine wl_guard_on rfl rfl rfl ?_
        refine wl_ov (ov_field fo141_1 rfl rfl) rfl ?_
        refine wl_guard_on rfl rfl rfl ?_
        refine wl_ov (ov_load sc3 rfl (fun _ hm => hm.blkI 0 rfl) rfl) rfl ?_
        refine wl_guard_on rfl rfl rfl ?_
        refine wl_callw rfl cb99 rfl rfl (fun wx hm => (in_any _ _ _ wx)) ?_
        refine wl_guard_on rfl rfl rfl ?_
        refine wl_ov (ov_un_not rfl) rfl ?_
        refine wl_ov (ov_pick_f rfl rfl) rfl ?_
        refine wl_ov (ov_assign rfl) rfl ?_
        refine wl_nil ?_
        refine nx_then ?_
        refine gw_cond rfl (fun hh => ?_) (fun hh => ?_)
        · have h3 : (inB ml 0 1000) = false := by simpa using hh
          clear hh
          refine gw_seq ?_
          refine gw_region ?_
          have hE : tierE (prevOf l k) ⟨hr, ml⟩ = 1 := by unfold tierE; simp [h2, h3]
          refine wl_ov (ov_assign rfl) rfl ?_
          refine wl_nil ?_
          refine nx_then ?_
          refine gw_ret ?_
          refine nx_blk_ret ?_
          refine nx_blk_ret ?_
          refine nx_then_ret ?_
          refine nx_then_ret ?_
          refine nx_blk_ret ?_
          refine nx_then_ret ?_
          refine nx_ret1 rfl rfl fun wx hm => ?_
          exact ⟨ret_int (by rw [hinv.2, hat, if_neg (by rw [hE]; decide), hE]), hm.g⟩
        · have h3 : (inB ml 0 1000) = true := by simpa using hh
          clear hh
          refine gw_seq ?_
          by_cases hk0 : k = 0
          · have hE : tierE (prevOf l k) ⟨hr, ml⟩ = 0 := by unfold tierE; rw [prevOf_zero hk0]; simp [h2, h3]
            refine gw_draw (fun wz => Blk wz g1 141 [.int .i64 hr, .int .i64 ml] ∧ (SlOld trEnc 2 141 w.heap.size none (some ⟨b, off, none⟩) n l) wz ∧ True) mixed ?_
            refine wa_take 0 rfl (by kernel_rfl) (by kernel_rfl) (by kernel_rfl) (listed' := #[true, false, false, false, false, false, false, false, false, false, false, false, false, false, false, false, false, false, false, false, false, false, false, false, false]) rfl (fun _ _ _ h => h) (fun _ hm => ⟨hm.blkI 0 rfl, hm.fact 0 rfl, trivial⟩) (ov_move rfl) rfl ?_
            refine wa_take 1 rfl (by kernel_rfl) (by kernel_rfl) (by kernel_rfl) (listed' := #[true, true, false, false, false, false, false, false, false, false, false, false, false, false, false, false, false, false, false, false, false, false, false, false, false]) rfl (fun _ _ _ h => h) (fun _ hm => ⟨hm.blkI 0 rfl, hm.fact 0 rfl, trivial⟩) (ov_gtr rfl rfl) rfl ?_
            refine wa_set 28 (v' := .bool false) rfl (congrArg Value.bool (decide_eq_false (by omega))) ?_
            refine wa_take 2 rfl (by kernel_rfl) (by kernel_rfl) (by kernel_rfl) (listed' := #[true, true, true, false, false, false, false, false, false, false, false, false, false, false, false, false, false, false, false, false, false, false, false, false, false]) rfl (fun _ _ _ h => h) (fun _ hm => ⟨hm.blkI 0 rfl, hm.fact 0 rfl, trivial⟩) (ov_move rfl) rfl ?_
            refine wa_take_off 3 rfl rfl rfl (by decide) (by kernel_rfl) (by kernel_rfl) (by kernel_rfl) (listed' := #[true, true, true, true, false, false, false, false, false, false, false, false, false, false, false, false, false, false, false, false, false, false, false, false, false]) rfl (fun _ _ _ h => h) (fun _ hm => ⟨hm.blkI 0 rfl, hm.fact 0 rfl, trivial⟩) rfl ?_
            refine wa_take_off 4 rfl rfl rfl (by decide) (by kernel_rfl) (by kernel_rfl) (by kernel_rfl) (listed' := #[true, true, true, true, true, false, false, false, false, false, false, false, false, false, false, false, false, false, false, false, false, false, false, false, false]) rfl (fun _ _ _ h => h) (fun _ hm => ⟨hm.blkI 0 rfl, hm.fact 0 rfl, trivial⟩) rfl ?_
            refine wa_take_off 5 rfl rfl rfl (by decide) (by kernel_rfl) (by kernel_rfl) (by kernel_rfl) (listed' := #[true, true, true, true, true, true, false, false, false, false, false, false, false, false, false, false, false, false, false, false, false, false, false, false, false]) rfl (fun _ _ _ h => h) (fun _ hm => ⟨hm.blkI 0 rfl, hm.fact 0 rfl, trivial⟩) rfl ?_
            refine wa_take_off 6 rfl rfl rfl (by decide) (by kernel_rfl) (by kernel_rfl) (by kernel_rfl) (listed' := #[true, true, true, true, true, true, true, false, false, false, false, false, false, false, false, false, false, false, false, false, false, false, false, false, false]) rfl (fun _ _ _ h => h) (fun _ hm => ⟨hm.blkI 0 rfl, hm.fact 0 rfl, trivial⟩) rfl ?_
            refine wa_take_off 7 rfl rfl rfl (by decide) (by kernel_rfl) (by kernel_rfl) (by kernel_rfl) (listed' := #[true, true, true, true, true, true, true, true, false, false, false, false, false, false, false, false, false, false, false, false, false, false, false, false, false]) rfl (fun _ _ _ h => h) (fun _ hm => ⟨hm.blkI 0 rfl, hm.fact 0 rfl, trivial⟩) rfl ?_
            refine wa_take_off 8 rfl rfl rfl (by decide) (by kernel_rfl) (by kernel_rfl) (by kernel_rfl) (listed' := #[true, true, true, true, true, true, true, true, true, false, false, false, false, false, false, false, false, false, false, false, false, false, false, false, false]) rfl (fun _ _ _ h => h) (fun _ hm => ⟨hm.blkI 0 rfl, hm.fact 0 rfl, trivial⟩) rfl ?_
            refine wa_take_off 9 rfl rfl rfl (by decide) (by kernel_rfl) (by kernel_rfl) (by kernel_rfl) (listed' := #[true, true, true, true, true, true, true, true, true, true, false, false, false, false, false, false, false, false, false, false, false, false, false, false, false]) rfl (fun _ _ _ h => h) (fun _ hm => ⟨hm.blkI 0 rfl, hm.fact 0 rfl, trivial⟩) rfl ?_
            refine wa_take_off 10 rfl rfl rfl (by decide) (by kernel_rfl) (by kernel_rfl) (by kernel_rfl) (listed' := #[true, true, true, true, true, true, true, true, true, true, true, false, false, false, false, false, false, false, false, false, false, false, false, false, false]) rfl (fun _ _ _ h => h) (fun _ hm => ⟨hm.blkI 0 rfl, hm.fact 0 rfl, trivial⟩) rfl ?_
            refine wa_take_off 11 rfl rfl rfl (by decide) (by kernel_rfl) (by kernel_rfl) (by kernel_rfl) (listed' := #[true, true, true, true, true, true, true, true, true, true, true, true, false, false, false, false, false, false, false, false, false, false, false, false, false]) rfl (fun _ _ _ h => h) (fun _ hm => ⟨hm.blkI 0 rfl, hm.fact 0 rfl, trivial⟩) rfl ?_
            refine wa_take_off 12 rfl rfl rfl (by decide) (by kernel_rfl) (by kernel_rfl) (by kernel_rfl) (listed' := #[true, true, true, true, true, true, true, true, true, true, true, true, true, false, false, false, false, false, false, false, false, false, false, false, false]) rfl (fun _ _ _ h => h) (fun _ hm => ⟨hm.blkI 0 rfl, hm.fact 0 rfl, trivial⟩) rfl ?_
            refine wa_take_undef 13 rfl rfl rfl (by kernel_rfl) (by kernel_rfl) (by kernel_rfl) (listed' := #[true, true, true, true, true, true, true, true, true, true, true, true, true, true, false, false, false, false, false, false, false, false, false, false, false]) rfl (fun _ _ _ h => h) (fun _ hm => ⟨hm.blkI 0 rfl, hm.fact 0 rfl, trivial⟩) rfl ?_
            refine wa_take_undef 14 rfl rfl rfl (by kernel_rfl) (by kernel_rfl) (by kernel_rfl) (listed' := #[true, true, true, true, true, true, true, true, true, true, true, true, true, true, true, false, false, false, false, false, false, false, false, false, false]) rfl (fun _ _ _ h => h) (fun _ hm => ⟨hm.blkI 0 rfl, hm.fact 0 rfl, trivial⟩) rfl ?_
            refine wa_take_undef 15 rfl rfl rfl (by kernel_rfl) (by kernel_rfl) (by kernel_rfl) (listed' := #[true, true, true, true, true, true, true, true, true, true, true, true, true, true, true, true, false, false, false, false, false, false, false, false, false]) rfl (fun _ _ _ h => h) (fun _ hm => ⟨hm.blkI 0 rfl, hm.fact 0 rfl, trivial⟩) rfl ?_
            refine wa_take_undef 16 rfl rfl rfl (by kernel_rfl) (by kernel_rfl) (by kernel_rfl) (listed' := #[true, true, true, true, true, true, true, true, true, true, true, true, true, true, true, true, true, false, false, false, false, false, false, false, false]) rfl (fun _ _ _ h => h) (fun _ hm => ⟨hm.blkI 0 rfl, hm.fact 0 rfl, trivial⟩) rfl ?_
            refine wa_take_undef 17 rfl rfl rfl (by kernel_rfl) (by kernel_rfl) (by kernel_rfl) (listed' := #[true, true, true, true, true, true, true, true, true, true, true, true, true, true, true, true, true, true, false, false, false, false, false, false, false]) rfl (fun _ _ _ h => h) (fun _ hm => ⟨hm.blkI 0 rfl, hm.fact 0 rfl, trivial⟩) rfl ?_
            refine wa_take_undef 18 rfl rfl rfl (by kernel_rfl) (by kernel_rfl) (by kernel_rfl) (listed' := #[true, true, true, true, true, true, true, true, true, true, true, true, true, true, true, true, true, true, true, false, false, false, false, false, false]) rfl (fun _ _ _ h => h) (fun _ hm => ⟨hm.blkI 0 rfl, hm.fact 0 rfl, trivial⟩) rfl ?_
            refine wa_take_undef 19 rfl rfl rfl (by kernel_rfl) (by kernel_rfl) (by kernel_rfl) (listed' := #[true, true, true, true, true, true, true, true, true, true, true, true, true, true, true, true, true, true, true, true, false, false, false, false, false]) rfl (fun _ _ _ h => h) (fun _ hm => ⟨hm.blkI 0 rfl, hm.fact 0 rfl, trivial⟩) rfl ?_
            refine wa_take_undef 20 rfl rfl rfl (by kernel_rfl) (by kernel_rfl) (by kernel_rfl) (listed' := #[true, true, true, true, true, true, true, true, true, true, true, true, true, true, true, true, true, true, true, true, true, false, false, false, false]) rfl (fun _ _ _ h => h) (fun _ hm => ⟨hm.blkI 0 rfl, hm.fact 0 rfl, trivial⟩) rfl ?_
            refine wa_take_undef 21 rfl rfl rfl (by kernel_rfl) (by kernel_rfl) (by kernel_rfl) (listed' := #[true, true, true, true, true, true, true, true, true, true, true, true, true, true, true, true, true, true, true, true, true, true, false, false, false]) rfl (fun _ _ _ h => h) (fun _ hm => ⟨hm.blkI 0 rfl, hm.fact 0 rfl, trivial⟩) rfl ?_
            refine wa_take_off 22 rfl rfl rfl (by decide) (by kernel_rfl) (by kernel_rfl) (by kernel_rfl) (listed' := #[true, true, true, true, true, true, true, true, true, true, true, true, true, true, true, true, true, true, true, true, true, true, true, false, false]) rfl (fun _ _ _ h => h) (fun _ hm => ⟨hm.blkI 0 rfl, hm.fact 0 rfl, trivial⟩) rfl ?_
            refine wa_take 23 rfl (by kernel_rfl) (by kernel_rfl) (by kernel_rfl) (listed' := #[true, true, true, true, true, true, true, true, true, true, true, true, true, true, true, true, true, true, true, true, true, true, true, true, false]) rfl (fun _ _ _ h => h) (fun _ hm => ⟨hm.blkI 0 rfl, hm.fact 0 rfl, trivial⟩) (ov_pick_f rfl rfl) rfl ?_
            refine wa_take 24 rfl (by kernel_rfl) (by kernel_rfl) (by kernel_rfl) (listed' := #[true, true, true, true, true, true, true, true, true, true, true, true, true, true, true, true, true, true, true, true, true, true, true, true, true]) rfl (fun _ _ _ h => h) (fun _ hm => ⟨hm.blkI 0 rfl, hm.fact 0 rfl, trivial⟩) (ov_assign rfl) rfl ?_
            refine wa_done (by kernel_rfl) ?_
            refine nx_then ?_
            refine gw_cond rfl (fun hh => by cases hh) (fun _ => ?_)
            refine gw_skip ?_
            refine nx_blk_nrm ?_
            refine nx_blk_nrm ?_
            refine nx_then ?_
            refine gw_region ?_
            refine wl_ov (ov_add rfl rfl (by omega) (by omega)) rfl ?_
            refine wl_ov (ov_move rfl) rfl ?_
            refine wl_nil ?_
            exact nx_round (k + 1) ⟨by omega, by rw [hinv.2, hat, if_pos hE]⟩ (by omega) ⟨rfl, rfl, rfl, (some_int (by omega)), trivial⟩ (fun _ hm => hm.pick [] [] [0] rfl rfl)
          · obtain ⟨y, hy⟩ : ∃ x, l[k - 1]? = some x := ⟨_, List.getElem?_eq_getElem (by omega)⟩
            obtain ⟨ph, pm⟩ := y
            have hpv := prevOf_pos hk0 hy
            refine gw_draw (fun wz => Blk wz g1 141 [.int .i64 hr, .int .i64 ml] ∧ (SlOld trEnc 2 141 w.heap.size none (some ⟨b, off, none⟩) n l) wz ∧ True) mixed ?_
            refine wa_take 0 rfl (by kernel_rfl) (by kernel_rfl) (by kernel_rfl) (listed' := #[true, false, false, false, false, false, false, false, false, false, false, false, false, false, false, false, false, false, false, false, false, false, false, false, false]) rfl (fun _ _ _ h => h) (fun _ hm => ⟨hm.blkI 0 rfl, hm.fact 0 rfl, trivial⟩) (ov_move rfl) rfl ?_
            refine wa_take 1 rfl (by kernel_rfl) (by kernel_rfl) (by kernel_rfl) (listed' := #[true, true, false, false, false, false, false, false, false, false, false, false, false, false, false, false, false, false, false, false, false, false, false, false, false]) rfl (fun _ _ _ h => h) (fun _ hm => ⟨hm.blkI 0 rfl, hm.fact 0 rfl, trivial⟩) (ov_gtr rfl rfl) rfl ?_
            refine wa_set 28 (v' := .bool true) rfl (congrArg Value.bool (decide_eq_true (by omega))) ?_
            refine wa_take 2 rfl (by kernel_rfl) (by kernel_rfl) (by kernel_rfl) (listed' := #[true, true, true, false, false, false, false, false, false, false, false, false, false, false, false, false, false, false, false, false, false, false, false, false, false]) rfl (fun _ _ _ h => h) (fun _ hm => ⟨hm.blkI 0 rfl, hm.fact 0 rfl, trivial⟩) (ov_move rfl) rfl ?_
            refine wa_take_on 3 rfl rfl rfl (by kernel_rfl) (by kernel_rfl) (by kernel_rfl) (listed' := #[true, true, true, true, false, false, false, false, false, false, false, false, false, false, false, false, false, false, false, false, false, false, false, false, false]) rfl (fun _ _ _ h => h) (fun _ hm => ⟨hm.blkI 0 rfl, hm.fact 0 rfl, trivial⟩) (ov_field fo141_0 rfl rfl) rfl ?_
            refine wa_take_on 4 rfl rfl rfl (by kernel_rfl) (by kernel_rfl) (by kernel_rfl) (listed' := #[true, true, true, true, true, false, false, false, false, false, false, false, false, false, false, false, false, false, false, false, false, false, false, false, false]) rfl (fun _ _ _ h => h) (fun _ hm => ⟨hm.blkI 0 rfl, hm.fact 0 rfl, trivial⟩) (ov_load sc3 rfl (fun _ hm => hm.1) rfl) rfl ?_
            refine wa_take_on 5 rfl rfl rfl (by kernel_rfl) (by kernel_rfl) (by kernel_rfl) (listed' := #[true, true, true, true, true, true, false, false, false, false, false, false, false, false, false, false, false, false, false, false, false, false, false, false, false]) rfl (fun _ _ _ h => h) (fun _ hm => ⟨hm.blkI 0 rfl, hm.fact 0 rfl, trivial⟩) (ov_move rfl) rfl ?_
            refine wa_take_on 6 rfl rfl rfl (by kernel_rfl) (by kernel_rfl) (by kernel_rfl) (listed' := #[true, true, true, true, true, true, true, false, false, false, false, false, false, false, false, false, false, false, false, false, false, false, false, false, false]) rfl (fun _ _ _ h => h) (fun _ hm => ⟨hm.blkI 0 rfl, hm.fact 0 rfl, trivial⟩) (ov_move rfl) rfl ?_
            refine wa_take_on 7 rfl rfl rfl (by kernel_rfl) (by kernel_rfl) (by kernel_rfl) (listed' := #[true, true, true, true, true, true, true, true, false, false, false, false, false, false, false, false, false, false, false, false, false, false, false, false, false]) rfl (fun _ _ _ h => h) (fun _ hm => ⟨hm.blkI 0 rfl, hm.fact 0 rfl, trivial⟩) (ov_sub rfl rfl (by omega) (by omega)) rfl ?_
            refine wa_set 34 (v' := .int .i64 ((k - 1 : Nat) : Int)) rfl (congrArg (Value.int .i64) (by omega)) ?_
            refine wa_take_on 8 rfl rfl rfl (by kernel_rfl) (by kernel_rfl) (by kernel_rfl) (listed' := #[true, true, true, true, true, true, true, true, true, false, false, false, false, false, false, false, false, false, false, false, false, false, false, false, false]) rfl (fun _ _ _ h => h) (fun _ hm => ⟨hm.blkI 0 rfl, hm.fact 0 rfl, trivial⟩) (ov_index (j := k - 1) es43 rfl rfl (by omega)) rfl ?_
            refine wa_take_on 9 rfl rfl rfl (by kernel_rfl) (by kernel_rfl) (by kernel_rfl) (listed' := #[true, true, true, true, true, true, true, true, true, true, false, false, false, false, false, false, false, false, false, false, false, false, false, false, false]) rfl (fun _ _ _ h => h) (fun _ hm => ⟨hm.blkI 0 rfl, hm.fact 0 rfl, trivial⟩) (ov_field fo141_0 rfl rfl) rfl ?_
            refine wa_take_on 10 rfl rfl rfl (by kernel_rfl) (by kernel_rfl) (by kernel_rfl) (listed' := #[true, true, true, true, true, true, true, true, true, true, true, false, false, false, false, false, false, false, false, false, false, false, false, false, false]) rfl (fun _ _ _ h => h) (fun _ hm => ⟨hm.blkI 0 rfl, hm.fact 0 rfl, trivial⟩) (ov_elem1 (k := 0) sc3 rfl (fun _ hm => (hm.2.1).1) hy rfl rfl) rfl ?_
            refine wa_take_on 11 rfl rfl rfl (by kernel_rfl) (by kernel_rfl) (by kernel_rfl) (listed' := #[true, true, true, true, true, true, true, true, true, true, true, true, false, false, false, false, false, false, false, false, false, false, false, false, false]) rfl (fun _ _ _ h => h) (fun _ hm => ⟨hm.blkI 0 rfl, hm.fact 0 rfl, trivial⟩) (ov_geq rfl rfl) rfl ?_
            refine wa_take_on 12 rfl rfl rfl (by kernel_rfl) (by kernel_rfl) (by kernel_rfl) (listed' := #[true, true, true, true, true, true, true, true, true, true, true, true, true, false, false, false, false, false, false, false, false, false, false, false, false]) rfl (fun _ _ _ h => h) (fun _ hm => ⟨hm.blkI 0 rfl, hm.fact 0 rfl, trivial⟩) (ov_move rfl) rfl ?_
            rcases Bool.eq_false_or_eq_true (decide (ph ≤ hr)) with h4 | h4
            · refine wa_set 39 rfl (congrArg Value.bool h4) ?_
              have hE : tierE (prevOf l k) ⟨hr, ml⟩ = 7 := by unfold tierE; rw [hpv]; simp at h4; simp [h2, h3, h4]
              refine wa_take_off 13 rfl rfl rfl (by decide) (by kernel_rfl) (by kernel_rfl) (by kernel_rfl) (listed' := #[true, true, true, true, true, true, true, true, true, true, true, true, true, true, false, false, false, false, false, false, false, false, false, false, false]) rfl (fun _ _ _ h => h) (fun _ hm => ⟨hm.blkI 0 rfl, hm.fact 0 rfl, trivial⟩) rfl ?_
              refine wa_take_off 14 rfl rfl rfl (by decide) (by kernel_rfl) (by kernel_rfl) (by kernel_rfl) (listed' := #[true, true, true, true, true, true, true, true, true, true, true, true, true, true, true, false, false, false, false, false, false, false, false, false, false]) rfl (fun _ _ _ h => h) (fun _ hm => ⟨hm.blkI 0 rfl, hm.fact 0 rfl, trivial⟩) rfl ?_
              refine wa_take_off 15 rfl rfl rfl (by decide) (by kernel_rfl) (by kernel_rfl) (by kernel_rfl) (listed' := #[true, true, true, true, true, true, true, true, true, true, true, true, true, true, true, true, false, false, false, false, false, false, false, false, false]) rfl (fun _ _ _ h => h) (fun _ hm => ⟨hm.blkI 0 rfl, hm.fact 0 rfl, trivial⟩) rfl ?_
              refine wa_take_off 16 rfl rfl rfl (by decide) (by kernel_rfl) (by kernel_rfl) (by kernel_rfl) (listed' := #[true, true, true, true, true, true, true, true, true, true, true, true, true, true, true, true, true, false, false, false, false, false, false, false, false]) rfl (fun _ _ _ h => h) (fun _ hm => ⟨hm.blkI 0 rfl, hm.fact 0 rfl, trivial⟩) rfl ?_
              refine wa_take_off 17 rfl rfl rfl (by decide) (by kernel_rfl) (by kernel_rfl) (by kernel_rfl) (listed' := #[true, true, true, true, true, true, true, true, true, true, true, true, true, true, true, true, true, true, false, false, false, false, false, false, false]) rfl (fun _ _ _ h => h) (fun _ hm => ⟨hm.blkI 0 rfl, hm.fact 0 rfl, trivial⟩) rfl ?_
              refine wa_take_off 18 rfl rfl rfl (by decide) (by kernel_rfl) (by kernel_rfl) (by kernel_rfl) (listed' := #[true, true, true, true, true, true, true, true, true, true, true, true, true, true, true, true, true, true, true, false, false, false, false, false, false]) rfl (fun _ _ _ h => h) (fun _ hm => ⟨hm.blkI 0 rfl, hm.fact 0 rfl, trivial⟩) rfl ?_
              refine wa_take_off 19 rfl rfl rfl (by decide) (by kernel_rfl) (by kernel_rfl) (by kernel_rfl) (listed' := #[true, true, true, true, true, true, true, true, true, true, true, true, true, true, true, true, true, true, true, true, false, false, false, false, false]) rfl (fun _ _ _ h => h) (fun _ hm => ⟨hm.blkI 0 rfl, hm.fact 0 rfl, trivial⟩) rfl ?_
              refine wa_take_off 20 rfl rfl rfl (by decide) (by kernel_rfl) (by kernel_rfl) (by kernel_rfl) (listed' := #[true, true, true, true, true, true, true, true, true, true, true, true, true, true, true, true, true, true, true, true, true, false, false, false, false]) rfl (fun _ _ _ h => h) (fun _ hm => ⟨hm.blkI 0 rfl, hm.fact 0 rfl, trivial⟩) rfl ?_
              refine wa_take_off 21 rfl rfl rfl (by decide) (by kernel_rfl) (by kernel_rfl) (by kernel_rfl) (listed' := #[true, true, true, true, true, true, true, true, true, true, true, true, true, true, true, true, true, true, true, true, true, true, false, false, false]) rfl (fun _ _ _ h => h) (fun _ hm => ⟨hm.blkI 0 rfl, hm.fact 0 rfl, trivial⟩) rfl ?_
              refine wa_take_on 22 rfl rfl rfl (by kernel_rfl) (by kernel_rfl) (by kernel_rfl) (listed' := #[true, true, true, true, true, true, true, true, true, true, true, true, true, true, true, true, true, true, true, true, true, true, true, false, false]) rfl (fun _ _ _ h => h) (fun _ hm => ⟨hm.blkI 0 rfl, hm.fact 0 rfl, trivial⟩) (ov_pick_t rfl rfl) rfl ?_
              refine wa_take 23 rfl (by kernel_rfl) (by kernel_rfl) (by kernel_rfl) (listed' := #[true, true, true, true, true, true, true, true, true, true, true, true, true, true, true, true, true, true, true, true, true, true, true, true, false]) rfl (fun _ _ _ h => h) (fun _ hm => ⟨hm.blkI 0 rfl, hm.fact 0 rfl, trivial⟩) (ov_pick_t rfl rfl) rfl ?_
              refine wa_take 24 rfl (by kernel_rfl) (by kernel_rfl) (by kernel_rfl) (listed' := #[true, true, true, true, true, true, true, true, true, true, true, true, true, true, true, true, true, true, true, true, true, true, true, true, true]) rfl (fun _ _ _ h => h) (fun _ hm => ⟨hm.blkI 0 rfl, hm.fact 0 rfl, trivial⟩) (ov_assign rfl) rfl ?_
              refine wa_done (by kernel_rfl) ?_
              refine nx_then ?_
              refine gw_cond rfl (fun _ => ?_) (fun hh => by cases hh)
              refine gw_seq ?_
              refine gw_region ?_
              refine wl_ov (ov_assign rfl) rfl ?_
              refine wl_nil ?_
              refine nx_then ?_
              refine gw_ret ?_
              refine nx_blk_ret ?_
              refine nx_blk_ret ?_
              refine nx_then_ret ?_
              refine nx_then_ret ?_
              refine nx_blk_ret ?_
              refine nx_then_ret ?_
              refine nx_ret1 rfl rfl fun wx hm => ?_
              exact ⟨ret_int (by rw [hinv.2, hat, if_neg (by rw [hE]; decide), hE]), hm.g⟩
            · refine wa_set 39 rfl (congrArg Value.bool h4) ?_
              refine wa_take_on 13 rfl rfl rfl (by kernel_rfl) (by kernel_rfl) (by kernel_rfl) (listed' := #[true, true, true, true, true, true, true, true, true, true, true, true, true, true, false, false, false, false, false, false, false, false, false, false, false]) rfl (fun _ _ _ h => h) (fun _ hm => ⟨hm.blkI 0 rfl, hm.fact 0 rfl, trivial⟩) (ov_field fo141_1 rfl rfl) rfl ?_
              refine wa_take_on 14 rfl rfl rfl (by kernel_rfl) (by kernel_rfl) (by kernel_rfl) (listed' := #[true, true, true, true, true, true, true, true, true, true, true, true, true, true, true, false, false, false, false, false, false, false, false, false, false]) rfl (fun _ _ _ h => h) (fun _ hm => ⟨hm.blkI 0 rfl, hm.fact 0 rfl, trivial⟩) (ov_load sc3 rfl (fun _ hm => hm.1) rfl) rfl ?_
              refine wa_take_on 15 rfl rfl rfl (by kernel_rfl) (by kernel_rfl) (by kernel_rfl) (listed' := #[true, true, true, true, true, true, true, true, true, true, true, true, true, true, true, true, false, false, false, false, false, false, false, false, false]) rfl (fun _ _ _ h => h) (fun _ hm => ⟨hm.blkI 0 rfl, hm.fact 0 rfl, trivial⟩) (ov_move rfl) rfl ?_
              refine wa_take_on 16 rfl rfl rfl (by kernel_rfl) (by kernel_rfl) (by kernel_rfl) (listed' := #[true, true, true, true, true, true, true, true, true, true, true, true, true, true, true, true, true, false, false, false, false, false, false, false, false]) rfl (fun _ _ _ h => h) (fun _ hm => ⟨hm.blkI 0 rfl, hm.fact 0 rfl, trivial⟩) (ov_move rfl) rfl ?_
              refine wa_take_on 17 rfl rfl rfl (by kernel_rfl) (by kernel_rfl) (by kernel_rfl) (listed' := #[true, true, true, true, true, true, true, true, true, true, true, true, true, true, true, true, true, true, false, false, false, false, false, false, false]) rfl (fun _ _ _ h => h) (fun _ hm => ⟨hm.blkI 0 rfl, hm.fact 0 rfl, trivial⟩) (ov_sub rfl rfl (by omega) (by omega)) rfl ?_
              refine wa_set 44 (v' := .int .i64 ((k - 1 : Nat) : Int)) rfl (congrArg (Value.int .i64) (by omega)) ?_
              refine wa_take_on 18 rfl rfl rfl (by kernel_rfl) (by kernel_rfl) (by kernel_rfl) (listed' := #[true, true, true, true, true, true, true, true, true, true, true, true, true, true, true, true, true, true, true, false, false, false, false, false, false]) rfl (fun _ _ _ h => h) (fun _ hm => ⟨hm.blkI 0 rfl, hm.fact 0 rfl, trivial⟩) (ov_index (j := k - 1) es43 rfl rfl (by omega)) rfl ?_
              refine wa_take_on 19 rfl rfl rfl (by kernel_rfl) (by kernel_rfl) (by kernel_rfl) (listed' := #[true, true, true, true, true, true, true, true, true, true, true, true, true, true, true, true, true, true, true, true, false, false, false, false, false]) rfl (fun _ _ _ h => h) (fun _ hm => ⟨hm.blkI 0 rfl, hm.fact 0 rfl, trivial⟩) (ov_field fo141_1 rfl rfl) rfl ?_
              refine wa_take_on 20 rfl rfl rfl (by kernel_rfl) (by kernel_rfl) (by kernel_rfl) (listed' := #[true, true, true, true, true, true, true, true, true, true, true, true, true, true, true, true, true, true, true, true, true, false, false, false, false]) rfl (fun _ _ _ h => h) (fun _ hm => ⟨hm.blkI 0 rfl, hm.fact 0 rfl, trivial⟩) (ov_elem1 (k := 1) sc3 rfl (fun _ hm => (hm.2.1).1) hy rfl rfl) rfl ?_
              refine wa_take_on 21 rfl rfl rfl (by kernel_rfl) (by kernel_rfl) (by kernel_rfl) (listed' := #[true, true, true, true, true, true, true, true, true, true, true, true, true, true, true, true, true, true, true, true, true, true, false, false, false]) rfl (fun _ _ _ h => h) (fun _ hm => ⟨hm.blkI 0 rfl, hm.fact 0 rfl, trivial⟩) (ov_lss rfl rfl) rfl ?_
              refine wa_take_on 22 rfl rfl rfl (by kernel_rfl) (by kernel_rfl) (by kernel_rfl) (listed' := #[true, true, true, true, true, true, true, true, true, true, true, true, true, true, true, true, true, true, true, true, true, true, true, false, false]) rfl (fun _ _ _ h => h) (fun _ hm => ⟨hm.blkI 0 rfl, hm.fact 0 rfl, trivial⟩) (ov_pick_f rfl rfl) rfl ?_
              refine wa_take 23 rfl (by kernel_rfl) (by kernel_rfl) (by kernel_rfl) (listed' := #[true, true, true, true, true, true, true, true, true, true, true, true, true, true, true, true, true, true, true, true, true, true, true, true, false]) rfl (fun _ _ _ h => h) (fun _ hm => ⟨hm.blkI 0 rfl, hm.fact 0 rfl, trivial⟩) (ov_pick_t rfl rfl) rfl ?_
              refine wa_take 24 rfl (by kernel_rfl) (by kernel_rfl) (by kernel_rfl) (listed' := #[true, true, true, true, true, true, true, true, true, true, true, true, true, true, true, true, true, true, true, true, true, true, true, true, true]) rfl (fun _ _ _ h => h) (fun _ hm => ⟨hm.blkI 0 rfl, hm.fact 0 rfl, trivial⟩) (ov_assign rfl) rfl ?_
              refine wa_done (by kernel_rfl) ?_
              refine nx_then ?_
              refine gw_cond rfl (fun hh => ?_) (fun hh => ?_)
              · have h5 : ml < pm := by simpa using hh
                clear hh
                refine gw_seq ?_
                refine gw_region ?_
                have hE : tierE (prevOf l k) ⟨hr, ml⟩ = 7 := by unfold tierE; rw [hpv]; simp at h4; simp [h2, h3, h5]
                refine wl_ov (ov_assign rfl) rfl ?_
                refine wl_nil ?_
                refine nx_then ?_
                refine gw_ret ?_
                refine nx_blk_ret ?_
                refine nx_blk_ret ?_
                refine nx_then_ret ?_
                refine nx_then_ret ?_
                refine nx_blk_ret ?_
                refine nx_then_ret ?_
                refine nx_ret1 rfl rfl fun wx hm => ?_
                exact ⟨ret_int (by rw [hinv.2, hat, if_neg (by rw [hE]; decide), hE]), hm.g⟩
              · have h5 : ¬ (ml < pm) := by simpa using hh
                clear hh
                refine gw_skip ?_
                refine nx_blk_nrm ?_
                refine nx_blk_nrm ?_
                refine nx_then ?_
                refine gw_region ?_
                have hE : tierE (prevOf l k) ⟨hr, ml⟩ = 0 := by unfold tierE; rw [hpv]; simp at h4; simp [h2, h3]; omega
                refine wl_ov (ov_add rfl rfl (by omega) (by omega)) rfl ?_
                refine wl_ov (ov_move rfl) rfl ?_
                refine wl_nil ?_
                exact nx_round (k + 1) ⟨by omega, by rw [hinv.2, hat, if_pos hE]⟩ (by omega) ⟨rfl, rfl, rfl, (some_int (by omega)), trivial⟩ (fun _ hm => hm.pick [] [] [0] rfl rfl)
    · have hk : ¬ (((k : Nat) : Int) < ((n : Nat) : Int)) := by simpa using hh
      clear hh
      refine gw_exit ?_
      refine nx_then_exit ?_
      refine nx_then_exit ?_
      refine nx_blk_here ?_
      refine nx_then ?_
      refine gw_seq ?_
      refine gw_region ?_
      refine wl_ov (ov_assign rfl) rfl ?_
      refine wl_nil ?_
      refine nx_then ?_
      refine gw_ret ?_
      refine nx_ret1 rfl rfl fun wx hm => ?_
      exact ⟨ret_int (by rw [hinv.2, scanE_end _ _ _ _ (by omega)]), hm.g⟩

set_option maxRecDepth 100000 in
set_option maxHeartbeats 1000000 in
theorem tiersFault_any (l : List Tr) (A : Option Addr) (n c : Nat) (w : World) (hl : SlT trEnc 2 141 w A n l) (hn : n ≤ 1000000) :
    Calls Tryd.prog 25 #[.slice A n c] w (GotE w (tiersE l)) := by
  refine gw_enter ⟨50, w, none, []⟩ Tryd.func25 rfl Tryd.ntmps25 rfl (mem0 (X := [SlOld trEnc 2 141 w.heap.size none A n l]) (allF_cons hl.old allF_nil) (allL_cons SlOld.lasts allL_nil)) ?_
  refine gw_seq ?_
  refine gw_region ?_
  have hlen := hl.len
  refine wl_ov (ov_assign rfl) rfl ?_
  refine wl_nil ?_
  refine nx_then ?_
  refine gw_seq ?_
  refine gw_seq ?_
  refine gw_region ?_
  refine wl_ov (ov_move rfl) rfl ?_
  refine wl_ov (ov_len es43 rfl) rfl ?_
  refine wl_ov (ov_gtr rfl rfl) rfl ?_
  refine wl_nil ?_
  refine nx_then ?_
  refine gw_cond rfl (fun hh => ?_) (fun hh => ?_)
  · have h1 : 10 < ((n : Nat) : Int) := by simpa using hh
    clear hh
    refine gw_seq ?_
    refine gw_region ?_
    refine wl_ov (ov_assign rfl) rfl ?_
    refine wl_nil ?_
    refine nx_then ?_
    refine gw_ret ?_
    refine nx_then_ret ?_
    refine nx_ret1 rfl rfl fun wx hm => ?_
    exact ⟨ret_int (by unfold tiersE; rw [if_pos (by omega)]), hm.g⟩
  · have h1 : ¬ (10 < ((n : Nat) : Int)) := by simpa using hh
    clear hh
    refine gw_skip ?_
    refine nx_then ?_
    refine gw_seq ?_
    refine gw_seq ?_
    refine gw_region ?_
    refine wl_ov (ov_move rfl) rfl ?_
    refine wl_ov (ov_len es43 rfl) rfl ?_
    refine wl_ov (ov_move rfl) rfl ?_
    refine wl_nil ?_
    refine nx_then ?_
    refine gw_block ?_
    refine gw_loop (γ := Nat) (fun (k : Nat) => k ≤ n ∧ tiersE l = scanE tierE (prevOf l k) (l.drop k)) (fun (k : Nat) => [(0, .slice A n c), (8, .slice A n c), (9, .int .i64 ((n : Nat) : Int)), (10, .int .i64 ((k : Nat) : Int))]) (fun (k : Nat) => fun _ => True) (fun (k : Nat) => []) (fun (k : Nat) => []) (fun (k : Nat) => [SlOld trEnc 2 141 w.heap.size none A n l]) (fun (k : Nat) => n - k) 0 ⟨Nat.zero_le _, by unfold tiersE; rw [if_neg (by omega)]; rfl⟩ ⟨rfl, rfl, rfl, rfl, trivial⟩ (fun _ hm => hm.pick [] [] [0] rfl rfl) ?_
    intro k hinv
    replace hinv : k ≤ n ∧ tiersE l = scanE tierE (prevOf l k) (l.drop k) := hinv
    refine gw_seq ?_
    refine gw_region ?_
    refine wl_ov (ov_lss rfl rfl) rfl ?_
    refine wl_nil ?_
    refine nx_then ?_
    refine gw_seq ?_
    refine gw_cond rfl (fun hh => ?_) (fun hh => ?_)
    · have hk : ((k : Nat) : Int) < ((n : Nat) : Int) := by simpa using hh
      clear hh
      refine gw_skip ?_
      refine nx_then ?_
      refine gw_seq ?_
      refine gw_block ?_
      refine gw_seq ?_
      refine gw_region ?_
      obtain ⟨b, off, hA, _, _⟩ := hl.get (by omega)
      subst hA
      obtain ⟨x, hx⟩ : ∃ x, l[k]? = some x := ⟨_, List.getElem?_eq_getElem (by omega)⟩
      obtain ⟨hr, ml⟩ := x
      have hat := scanE_at tierE l k _ hx
      refine wl_ov (ov_move rfl) rfl ?_
      refine wl_ov (ov_index (j := k) es43 rfl rfl (by omega)) rfl ?_
      refine wl_ov (ov_elem rz141 rfl (fun _ hm => (hm.fact 0 rfl).1) hx rfl rfl) rfl ?_
      refine wl_alloc zc141 rfl fun g1 => ?_
      refine wl_ov (ov_assign rfl) rfl ?_
      refine wl_stores (cs' := [.int .i64 hr, .int .i64 ml]) 0 rz141 rfl rfl rfl rfl rfl rfl rfl rfl ?_
      refine wl_nil ?_
      refine nx_then ?_
      refine gw_seq ?_
      refine gw_seq ?_
      refine gw_region ?_
      refine wl_ov (ov_field fo141_0 rfl rfl) rfl ?_
      refine wl_ov (ov_load sc3 rfl (fun _ hm => hm.blkI 0 rfl) rfl) rfl ?_
      refine wl_callw rfl cb101 rfl rfl (fun wx hm => (rin_any _ _ _ wx)) ?_
      refine wl_ov (ov_un_not rfl) rfl ?_
      refine wl_ov (ov_move rfl) rfl ?_
      rcases Bool.eq_false_or_eq_true (!(inB hr 1 5761440)) with h2 | h2
      · refine wl_set 19 rfl (congrArg Value.bool h2) ?_
        refine wl_guard_off rfl rfl rfl (by decide) rfl ?_
        refine wl_guard_off rfl rfl rfl (by decide) rfl ?_
        refine wl_guard_off rfl rfl rfl (by decide) rfl ?_
        refine wl_guard_off rfl rfl rfl (by decide) rfl ?_
        refine wl_ov (ov_pick_t rfl rfl) rfl ?_
        refine wl_nil ?_
        refine nx_then ?_
        refine gw_cond rfl (fun _ => ?_) (fun hh => by cases hh)
        refine gw_seq ?_
        refine gw_region ?_
        refine wl_ov (ov_assign rfl) rfl ?_
        refine wl_nil ?_
        refine nx_then ?_
        refine gw_ret ?_
        refine nx_then_ret ?_
        refine nx_blk_ret ?_
        refine nx_then_ret ?_
        refine nx_then_ret ?_
        refine nx_blk_ret ?_
        refine nx_then_ret ?_
        have hE : tierE (prevOf l k) ⟨hr, ml⟩ = 1 := by unfold tierE; simp [h2]
        refine nx_ret1 rfl rfl fun wx hm => ?_
        exact ⟨ret_int (by rw [hinv.2, hat, if_neg (by rw [hE]; decide), hE]), hm.g⟩
      · refine wl_set 19 rfl (congrArg Value.bool h2) ?_
        refine wl_guard_on rfl rfl rfl ?_
        refine wl_ov (ov_field fo141_1 rfl rfl) rfl ?_
        refine wl_guard_on rfl rfl rfl ?_
        refine wl_ov (ov_load sc3 rfl (fun _ hm => hm.blkI 0 rfl) rfl) rfl ?_
        refine wl_guard_on rfl rfl rfl ?_
        refine wl_callw rfl cb101 rfl rfl (fun wx hm => (rin_any _ _ _ wx)) ?_
        refine wl_guard_on rfl rfl rfl ?_
        refine wl_ov (ov_un_not rfl) rfl ?_
        refine wl_ov (ov_pick_f rfl rfl) rfl ?_
        refine wl_nil ?_
        refine nx_then ?_
        refine gw_cond rfl (fun hh => ?_) (fun hh => ?_)
        · have h3 : (inB ml 0 1000) = false := by simpa using hh
          clear hh
          refine gw_seq ?_
          refine gw_region ?_
          have hE : tierE (prevOf l k) ⟨hr, ml⟩ = 1 := by unfold tierE; simp [h2, h3]
          refine wl_ov (ov_assign rfl) rfl ?_
          refine wl_nil ?_
          refine nx_then ?_
          refine gw_ret ?_
          refine nx_then_ret ?_
          refine nx_blk_ret ?_
          refine nx_then_ret ?_
          refine nx_then_ret ?_
          refine nx_blk_ret ?_
          refine nx_then_ret ?_
          refine nx_ret1 rfl rfl fun wx hm => ?_
          exact ⟨ret_int (by rw [hinv.2, hat, if_neg (by rw [hE]; decide), hE]), hm.g⟩
        · have h3 : (inB ml 0 1000) = true := by simpa using hh
          clear hh
          refine gw_skip ?_
          refine nx_then ?_
          refine gw_seq ?_
          by_cases hk0 : k = 0
          · have hE : tierE (prevOf l k) ⟨hr, ml⟩ = 0 := by unfold tierE; rw [prevOf_zero hk0]; simp [h2, h3]
            refine gw_draw (fun wz => Blk wz g1 141 [.int .i64 hr, .int .i64 ml] ∧ (SlOld trEnc 2 141 w.heap.size none (some ⟨b, off, none⟩) n l) wz ∧ True) mixed ?_
            refine wa_take 0 rfl (by kernel_rfl) (by kernel_rfl) (by kernel_rfl) (listed' := #[true, false, false, false, false, false, false, false, false, false, false, false, false, false, false, false, false, false, false, false, false, false, false, false]) rfl (fun _ _ _ h => h) (fun _ hm => ⟨hm.blkI 0 rfl, hm.fact 0 rfl, trivial⟩) (ov_move rfl) rfl ?_
            refine wa_take 1 rfl (by kernel_rfl) (by kernel_rfl) (by kernel_rfl) (listed' := #[true, true, false, false, false, false, false, false, false, false, false, false, false, false, false, false, false, false, false, false, false, false, false, false]) rfl (fun _ _ _ h => h) (fun _ hm => ⟨hm.blkI 0 rfl, hm.fact 0 rfl, trivial⟩) (ov_gtr rfl rfl) rfl ?_
            refine wa_set 26 (v' := .bool false) rfl (congrArg Value.bool (decide_eq_false (by omega))) ?_
            refine wa_take 2 rfl (by kernel_rfl) (by kernel_rfl) (by kernel_rfl) (listed' := #[true, true, true, false, false, false, false, false, false, false, false, false, false, false, false, false, false, false, false, false, false, false, false, false]) rfl (fun _ _ _ h => h) (fun _ hm => ⟨hm.blkI 0 rfl, hm.fact 0 rfl, trivial⟩) (ov_move rfl) rfl ?_
            refine wa_take_off 3 rfl rfl rfl (by decide) (by kernel_rfl) (by kernel_rfl) (by kernel_rfl) (listed' := #[true, true, true, true, false, false, false, false, false, false, false, false, false, false, false, false, false, false, false, false, false, false, false, false]) rfl (fun _ _ _ h => h) (fun _ hm => ⟨hm.blkI 0 rfl, hm.fact 0 rfl, trivial⟩) rfl ?_
            refine wa_take_off 4 rfl rfl rfl (by decide) (by kernel_rfl) (by kernel_rfl) (by kernel_rfl) (listed' := #[true, true, true, true, true, false, false, false, false, false, false, false, false, false, false, false, false, false, false, false, false, false, false, false]) rfl (fun _ _ _ h => h) (fun _ hm => ⟨hm.blkI 0 rfl, hm.fact 0 rfl, trivial⟩) rfl ?_
            refine wa_take_off 5 rfl rfl rfl (by decide) (by kernel_rfl) (by kernel_rfl) (by kernel_rfl) (listed' := #[true, true, true, true, true, true, false, false, false, false, false, false, false, false, false, false, false, false, false, false, false, false, false, false]) rfl (fun _ _ _ h => h) (fun _ hm => ⟨hm.blkI 0 rfl, hm.fact 0 rfl, trivial⟩) rfl ?_
            refine wa_take_off 6 rfl rfl rfl (by decide) (by kernel_rfl) (by kernel_rfl) (by kernel_rfl) (listed' := #[true, true, true, true, true, true, true, false, false, false, false, false, false, false, false, false, false, false, false, false, false, false, false, false]) rfl (fun _ _ _ h => h) (fun _ hm => ⟨hm.blkI 0 rfl, hm.fact 0 rfl, trivial⟩) rfl ?_
            refine wa_take_off 7 rfl rfl rfl (by decide) (by kernel_rfl) (by kernel_rfl) (by kernel_rfl) (listed' := #[true, true, true, true, true, true, true, true, false, false, false, false, false, false, false, false, false, false, false, false, false, false, false, false]) rfl (fun _ _ _ h => h) (fun _ hm => ⟨hm.blkI 0 rfl, hm.fact 0 rfl, trivial⟩) rfl ?_
            refine wa_take_off 8 rfl rfl rfl (by decide) (by kernel_rfl) (by kernel_rfl) (by kernel_rfl) (listed' := #[true, true, true, true, true, true, true, true, true, false, false, false, false, false, false, false, false, false, false, false, false, false, false, false]) rfl (fun _ _ _ h => h) (fun _ hm => ⟨hm.blkI 0 rfl, hm.fact 0 rfl, trivial⟩) rfl ?_
            refine wa_take_off 9 rfl rfl rfl (by decide) (by kernel_rfl) (by kernel_rfl) (by kernel_rfl) (listed' := #[true, true, true, true, true, true, true, true, true, true, false, false, false, false, false, false, false, false, false, false, false, false, false, false]) rfl (fun _ _ _ h => h) (fun _ hm => ⟨hm.blkI 0 rfl, hm.fact 0 rfl, trivial⟩) rfl ?_
            refine wa_take_off 10 rfl rfl rfl (by decide) (by kernel_rfl) (by kernel_rfl) (by kernel_rfl) (listed' := #[true, true, true, true, true, true, true, true, true, true, true, false, false, false, false, false, false, false, false, false, false, false, false, false]) rfl (fun _ _ _ h => h) (fun _ hm => ⟨hm.blkI 0 rfl, hm.fact 0 rfl, trivial⟩) rfl ?_
            refine wa_take_off 11 rfl rfl rfl (by decide) (by kernel_rfl) (by kernel_rfl) (by kernel_rfl) (listed' := #[true, true, true, true, true, true, true, true, true, true, true, true, false, false, false, false, false, false, false, false, false, false, false, false]) rfl (fun _ _ _ h => h) (fun _ hm => ⟨hm.blkI 0 rfl, hm.fact 0 rfl, trivial⟩) rfl ?_
            refine wa_take_off 12 rfl rfl rfl (by decide) (by kernel_rfl) (by kernel_rfl) (by kernel_rfl) (listed' := #[true, true, true, true, true, true, true, true, true, true, true, true, true, false, false, false, false, false, false, false, false, false, false, false]) rfl (fun _ _ _ h => h) (fun _ hm => ⟨hm.blkI 0 rfl, hm.fact 0 rfl, trivial⟩) rfl ?_
            refine wa_take_undef 13 rfl rfl rfl (by kernel_rfl) (by kernel_rfl) (by kernel_rfl) (listed' := #[true, true, true, true, true, true, true, true, true, true, true, true, true, true, false, false, false, false, false, false, false, false, false, false]) rfl (fun _ _ _ h => h) (fun _ hm => ⟨hm.blkI 0 rfl, hm.fact 0 rfl, trivial⟩) rfl ?_
            refine wa_take_undef 14 rfl rfl rfl (by kernel_rfl) (by kernel_rfl) (by kernel_rfl) (listed' := #[true, true, true, true, true, true, true, true, true, true, true, true, true, true, true, false, false, false, false, false, false, false, false, false]) rfl (fun _ _ _ h => h) (fun _ hm => ⟨hm.blkI 0 rfl, hm.fact 0 rfl, trivial⟩) rfl ?_
            refine wa_take_undef 15 rfl rfl rfl (by kernel_rfl) (by kernel_rfl) (by kernel_rfl) (listed' := #[true, true, true, true, true, true, true, true, true, true, true, true, true, true, true, true, false, false, false, false, false, false, false, false]) rfl (fun _ _ _ h => h) (fun _ hm => ⟨hm.blkI 0 rfl, hm.fact 0 rfl, trivial⟩) rfl ?_
            refine wa_take_undef 16 rfl rfl rfl (by kernel_rfl) (by kernel_rfl) (by kernel_rfl) (listed' := #[true, true, true, true, true, true, true, true, true, true, true, true, true, true, true, true, true, false, false, false, false, false, false, false]) rfl (fun _ _ _ h => h) (fun _ hm => ⟨hm.blkI 0 rfl, hm.fact 0 rfl, trivial⟩) rfl ?_
            refine wa_take_undef 17 rfl rfl rfl (by kernel_rfl) (by kernel_rfl) (by kernel_rfl) (listed' := #[true, true, true, true, true, true, true, true, true, true, true, true, true, true, true, true, true, true, false, false, false, false, false, false]) rfl (fun _ _ _ h => h) (fun _ hm => ⟨hm.blkI 0 rfl, hm.fact 0 rfl, trivial⟩) rfl ?_
            refine wa_take_undef 18 rfl rfl rfl (by kernel_rfl) (by kernel_rfl) (by kernel_rfl) (listed' := #[true, true, true, true, true, true, true, true, true, true, true, true, true, true, true, true, true, true, true, false, false, false, false, false]) rfl (fun _ _ _ h => h) (fun _ hm => ⟨hm.blkI 0 rfl, hm.fact 0 rfl, trivial⟩) rfl ?_
            refine wa_take_undef 19 rfl rfl rfl (by kernel_rfl) (by kernel_rfl) (by kernel_rfl) (listed' := #[true, true, true, true, true, true, true, true, true, true, true, true, true, true, true, true, true, true, true, true, false, false, false, false]) rfl (fun _ _ _ h => h) (fun _ hm => ⟨hm.blkI 0 rfl, hm.fact 0 rfl, trivial⟩) rfl ?_
            refine wa_take_undef 20 rfl rfl rfl (by kernel_rfl) (by kernel_rfl) (by kernel_rfl) (listed' := #[true, true, true, true, true, true, true, true, true, true, true, true, true, true, true, true, true, true, true, true, true, false, false, false]) rfl (fun _ _ _ h => h) (fun _ hm => ⟨hm.blkI 0 rfl, hm.fact 0 rfl, trivial⟩) rfl ?_
            refine wa_take_undef 21 rfl rfl rfl (by kernel_rfl) (by kernel_rfl) (by kernel_rfl) (listed' := #[true, true, true, true, true, true, true, true, true, true, true, true, true, true, true, true, true, true, true, true, true, true, false, false]) rfl (fun _ _ _ h => h) (fun _ hm => ⟨hm.blkI 0 rfl, hm.fact 0 rfl, trivial⟩) rfl ?_
            refine wa_take_off 22 rfl rfl rfl (by decide) (by kernel_rfl) (by kernel_rfl) (by kernel_rfl) (listed' := #[true, true, true, true, true, true, true, true, true, true, true, true, true, true, true, true, true, true, true, true, true, true, true, false]) rfl (fun _ _ _ h => h) (fun _ hm => ⟨hm.blkI 0 rfl, hm.fact 0 rfl, trivial⟩) rfl ?_
            refine wa_take 23 rfl (by kernel_rfl) (by kernel_rfl) (by kernel_rfl) (listed' := #[true, true, true, true, true, true, true, true, true, true, true, true, true, true, true, true, true, true, true, true, true, true, true, true]) rfl (fun _ _ _ h => h) (fun _ hm => ⟨hm.blkI 0 rfl, hm.fact 0 rfl, trivial⟩) (ov_pick_f rfl rfl) rfl ?_
            refine wa_done (by kernel_rfl) ?_
            refine nx_then ?_
            refine gw_cond rfl (fun hh => by cases hh) (fun _ => ?_)
            refine gw_skip ?_
            refine nx_blk_nrm ?_
            refine nx_then ?_
            refine gw_region ?_
            refine wl_ov (ov_add rfl rfl (by omega) (by omega)) rfl ?_
            refine wl_ov (ov_move rfl) rfl ?_
            refine wl_nil ?_
            exact nx_round (k + 1) ⟨by omega, by rw [hinv.2, hat, if_pos hE]⟩ (by omega) ⟨rfl, rfl, rfl, (some_int (by omega)), trivial⟩ (fun _ hm => hm.pick [] [] [0] rfl rfl)
          · obtain ⟨y, hy⟩ : ∃ x, l[k - 1]? = some x := ⟨_, List.getElem?_eq_getElem (by omega)⟩
            obtain ⟨ph, pm⟩ := y
            have hpv := prevOf_pos hk0 hy
            refine gw_draw (fun wz => Blk wz g1 141 [.int .i64 hr, .int .i64 ml] ∧ (SlOld trEnc 2 141 w.heap.size none (some ⟨b, off, none⟩) n l) wz ∧ True) mixed ?_
            refine wa_take 0 rfl (by kernel_rfl) (by kernel_rfl) (by kernel_rfl) (listed' := #[true, false, false, false, false, false, false, false, false, false, false, false, false, false, false, false, false, false, false, false, false, false, false, false]) rfl (fun _ _ _ h => h) (fun _ hm => ⟨hm.blkI 0 rfl, hm.fact 0 rfl, trivial⟩) (ov_move rfl) rfl ?_
            refine wa_take 1 rfl (by kernel_rfl) (by kernel_rfl) (by kernel_rfl) (listed' := #[true, true, false, false, false, false, false, false, false, false, false, false, false, false, false, false, false, false, false, false, false, false, false, false]) rfl (fun _ _ _ h => h) (fun _ hm => ⟨hm.blkI 0 rfl, hm.fact 0 rfl, trivial⟩) (ov_gtr rfl rfl) rfl ?_
            refine wa_set 26 (v' := .bool true) rfl (congrArg Value.bool (decide_eq_true (by omega))) ?_
            refine wa_take 2 rfl (by kernel_rfl) (by kernel_rfl) (by kernel_rfl) (listed' := #[true, true, true, false, false, false, false, false, false, false, false, false, false, false, false, false, false, false, false, false, false, false, false, false]) rfl (fun _ _ _ h => h) (fun _ hm => ⟨hm.blkI 0 rfl, hm.fact 0 rfl, trivial⟩) (ov_move rfl) rfl ?_
            refine wa_take_on 3 rfl rfl rfl (by kernel_rfl) (by kernel_rfl) (by kernel_rfl) (listed' := #[true, true, true, true, false, false, false, false, false, false, false, false, false, false, false, false, false, false, false, false, false, false, false, false]) rfl (fun _ _ _ h => h) (fun _ hm => ⟨hm.blkI 0 rfl, hm.fact 0 rfl, trivial⟩) (ov_field fo141_0 rfl rfl) rfl ?_
            refine wa_take_on 4 rfl rfl rfl (by kernel_rfl) (by kernel_rfl) (by kernel_rfl) (listed' := #[true, true, true, true, true, false, false, false, false, false, false, false, false, false, false, false, false, false, false, false, false, false, false, false]) rfl (fun _ _ _ h => h) (fun _ hm => ⟨hm.blkI 0 rfl, hm.fact 0 rfl, trivial⟩) (ov_load sc3 rfl (fun _ hm => hm.1) rfl) rfl ?_
            refine wa_take_on 5 rfl rfl rfl (by kernel_rfl) (by kernel_rfl) (by kernel_rfl) (listed' := #[true, true, true, true, true, true, false, false, false, false, false, false, false, false, false, false, false, false, false, false, false, false, false, false]) rfl (fun _ _ _ h => h) (fun _ hm => ⟨hm.blkI 0 rfl, hm.fact 0 rfl, trivial⟩) (ov_move rfl) rfl ?_
            refine wa_take_on 6 rfl rfl rfl (by kernel_rfl) (by kernel_rfl) (by kernel_rfl) (listed' := #[true, true, true, true, true, true, true, false, false, false, false, false, false, false, false, false, false, false, false, false, false, false, false, false]) rfl (fun _ _ _ h => h) (fun _ hm => ⟨hm.blkI 0 rfl, hm.fact 0 rfl, trivial⟩) (ov_move rfl) rfl ?_
            refine wa_take_on 7 rfl rfl rfl (by kernel_rfl) (by kernel_rfl) (by kernel_rfl) (listed' := #[true, true, true, true, true, true, true, true, false, false, false, false, false, false, false, false, false, false, false, false, false, false, false, false]) rfl (fun _ _ _ h => h) (fun _ hm => ⟨hm.blkI 0 rfl, hm.fact 0 rfl, trivial⟩) (ov_sub rfl rfl (by omega) (by omega)) rfl ?_
            refine wa_set 32 (v' := .int .i64 ((k - 1 : Nat) : Int)) rfl (congrArg (Value.int .i64) (by omega)) ?_
            refine wa_take_on 8 rfl rfl rfl (by kernel_rfl) (by kernel_rfl) (by kernel_rfl) (listed' := #[true, true, true, true, true, true, true, true, true, false, false, false, false, false, false, false, false, false, false, false, false, false, false, false]) rfl (fun _ _ _ h => h) (fun _ hm => ⟨hm.blkI 0 rfl, hm.fact 0 rfl, trivial⟩) (ov_index (j := k - 1) es43 rfl rfl (by omega)) rfl ?_
            refine wa_take_on 9 rfl rfl rfl (by kernel_rfl) (by kernel_rfl) (by kernel_rfl) (listed' := #[true, true, true, true, true, true, true, true, true, true, false, false, false, false, false, false, false, false, false, false, false, false, false, false]) rfl (fun _ _ _ h => h) (fun _ hm => ⟨hm.blkI 0 rfl, hm.fact 0 rfl, trivial⟩) (ov_field fo141_0 rfl rfl) rfl ?_
            refine wa_take_on 10 rfl rfl rfl (by kernel_rfl) (by kernel_rfl) (by kernel_rfl) (listed' := #[true, true, true, true, true, true, true, true, true, true, true, false, false, false, false, false, false, false, false, false, false, false, false, false]) rfl (fun _ _ _ h => h) (fun _ hm => ⟨hm.blkI 0 rfl, hm.fact 0 rfl, trivial⟩) (ov_elem1 (k := 0) sc3 rfl (fun _ hm => (hm.2.1).1) hy rfl rfl) rfl ?_
            refine wa_take_on 11 rfl rfl rfl (by kernel_rfl) (by kernel_rfl) (by kernel_rfl) (listed' := #[true, true, true, true, true, true, true, true, true, true, true, true, false, false, false, false, false, false, false, false, false, false, false, false]) rfl (fun _ _ _ h => h) (fun _ hm => ⟨hm.blkI 0 rfl, hm.fact 0 rfl, trivial⟩) (ov_geq rfl rfl) rfl ?_
            refine wa_take_on 12 rfl rfl rfl (by kernel_rfl) (by kernel_rfl) (by kernel_rfl) (listed' := #[true, true, true, true, true, true, true, true, true, true, true, true, true, false, false, false, false, false, false, false, false, false, false, false]) rfl (fun _ _ _ h => h) (fun _ hm => ⟨hm.blkI 0 rfl, hm.fact 0 rfl, trivial⟩) (ov_move rfl) rfl ?_
            rcases Bool.eq_false_or_eq_true (decide (ph ≤ hr)) with h4 | h4
            · refine wa_set 37 rfl (congrArg Value.bool h4) ?_
              have hE : tierE (prevOf l k) ⟨hr, ml⟩ = 7 := by unfold tierE; rw [hpv]; simp at h4; simp [h2, h3, h4]
              refine wa_take_off 13 rfl rfl rfl (by decide) (by kernel_rfl) (by kernel_rfl) (by kernel_rfl) (listed' := #[true, true, true, true, true, true, true, true, true, true, true, true, true, true, false, false, false, false, false, false, false, false, false, false]) rfl (fun _ _ _ h => h) (fun _ hm => ⟨hm.blkI 0 rfl, hm.fact 0 rfl, trivial⟩) rfl ?_
              refine wa_take_off 14 rfl rfl rfl (by decide) (by kernel_rfl) (by kernel_rfl) (by kernel_rfl) (listed' := #[true, true, true, true, true, true, true, true, true, true, true, true, true, true, true, false, false, false, false, false, false, false, false, false]) rfl (fun _ _ _ h => h) (fun _ hm => ⟨hm.blkI 0 rfl, hm.fact 0 rfl, trivial⟩) rfl ?_
              refine wa_take_off 15 rfl rfl rfl (by decide) (by kernel_rfl) (by kernel_rfl) (by kernel_rfl) (listed' := #[true, true, true, true, true, true, true, true, true, true, true, true, true, true, true, true, false, false, false, false, false, false, false, false]) rfl (fun _ _ _ h => h) (fun _ hm => ⟨hm.blkI 0 rfl, hm.fact 0 rfl, trivial⟩) rfl ?_
              refine wa_take_off 16 rfl rfl rfl (by decide) (by kernel_rfl) (by kernel_rfl) (by kernel_rfl) (listed' := #[true, true, true, true, true, true, true, true, true, true, true, true, true, true, true, true, true, false, false, false, false, false, false, false]) rfl (fun _ _ _ h => h) (fun _ hm => ⟨hm.blkI 0 rfl, hm.fact 0 rfl, trivial⟩) rfl ?_
              refine wa_take_off 17 rfl rfl rfl (by decide) (by kernel_rfl) (by kernel_rfl) (by kernel_rfl) (listed' := #[true, true, true, true, true, true, true, true, true, true, true, true, true, true, true, true, true, true, false, false, false, false, false, false]) rfl (fun _ _ _ h => h) (fun _ hm => ⟨hm.blkI 0 rfl, hm.fact 0 rfl, trivial⟩) rfl ?_
              refine wa_take_off 18 rfl rfl rfl (by decide) (by kernel_rfl) (by kernel_rfl) (by kernel_rfl) (listed' := #[true, true, true, true, true, true, true, true, true, true, true, true, true, true, true, true, true, true, true, false, false, false, false, false]) rfl (fun _ _ _ h => h) (fun _ hm => ⟨hm.blkI 0 rfl, hm.fact 0 rfl, trivial⟩) rfl ?_
              refine wa_take_off 19 rfl rfl rfl (by decide) (by kernel_rfl) (by kernel_rfl) (by kernel_rfl) (listed' := #[true, true, true, true, true, true, true, true, true, true, true, true, true, true, true, true, true, true, true, true, false, false, false, false]) rfl (fun _ _ _ h => h) (fun _ hm => ⟨hm.blkI 0 rfl, hm.fact 0 rfl, trivial⟩) rfl ?_
              refine wa_take_off 20 rfl rfl rfl (by decide) (by kernel_rfl) (by kernel_rfl) (by kernel_rfl) (listed' := #[true, true, true, true, true, true, true, true, true, true, true, true, true, true, true, true, true, true, true, true, true, false, false, false]) rfl (fun _ _ _ h => h) (fun _ hm => ⟨hm.blkI 0 rfl, hm.fact 0 rfl, trivial⟩) rfl ?_
              refine wa_take_off 21 rfl rfl rfl (by decide) (by kernel_rfl) (by kernel_rfl) (by kernel_rfl) (listed' := #[true, true, true, true, true, true, true, true, true, true, true, true, true, true, true, true, true, true, true, true, true, true, false, false]) rfl (fun _ _ _ h => h) (fun _ hm => ⟨hm.blkI 0 rfl, hm.fact 0 rfl, trivial⟩) rfl ?_
              refine wa_take_on 22 rfl rfl rfl (by kernel_rfl) (by kernel_rfl) (by kernel_rfl) (listed' := #[true, true, true, true, true, true, true, true, true, true, true, true, true, true, true, true, true, true, true, true, true, true, true, false]) rfl (fun _ _ _ h => h) (fun _ hm => ⟨hm.blkI 0 rfl, hm.fact 0 rfl, trivial⟩) (ov_pick_t rfl rfl) rfl ?_
              refine wa_take 23 rfl (by kernel_rfl) (by kernel_rfl) (by kernel_rfl) (listed' := #[true, true, true, true, true, true, true, true, true, true, true, true, true, true, true, true, true, true, true, true, true, true, true, true]) rfl (fun _ _ _ h => h) (fun _ hm => ⟨hm.blkI 0 rfl, hm.fact 0 rfl, trivial⟩) (ov_pick_t rfl rfl) rfl ?_
              refine wa_done (by kernel_rfl) ?_
              refine nx_then ?_
              refine gw_cond rfl (fun _ => ?_) (fun hh => by cases hh)
              refine gw_seq ?_
              refine gw_region ?_
              refine wl_ov (ov_assign rfl) rfl ?_
              refine wl_nil ?_
              refine nx_then ?_
              refine gw_ret ?_
              refine nx_blk_ret ?_
              refine nx_then_ret ?_
              refine nx_then_ret ?_
              refine nx_blk_ret ?_
              refine nx_then_ret ?_
              refine nx_ret1 rfl rfl fun wx hm => ?_
              exact ⟨ret_int (by rw [hinv.2, hat, if_neg (by rw [hE]; decide), hE]), hm.g⟩
            · refine wa_set 37 rfl (congrArg Value.bool h4) ?_
              refine wa_take_on 13 rfl rfl rfl (by kernel_rfl) (by kernel_rfl) (by kernel_rfl) (listed' := #[true, true, true, true, true, true, true, true, true, true, true, true, true, true, false, false, false, false, false, false, false, false, false, false]) rfl (fun _ _ _ h => h) (fun _ hm => ⟨hm.blkI 0 rfl, hm.fact 0 rfl, trivial⟩) (ov_field fo141_1 rfl rfl) rfl ?_
              refine wa_take_on 14 rfl rfl rfl (by kernel_rfl) (by kernel_rfl) (by kernel_rfl) (listed' := #[true, true, true, true, true, true, true, true, true, true, true, true, true, true, true, false, false, false, false, false, false, false, false, false]) rfl (fun _ _ _ h => h) (fun _ hm => ⟨hm.blkI 0 rfl, hm.fact 0 rfl, trivial⟩) (ov_load sc3 rfl (fun _ hm => hm.1) rfl) rfl ?_
              refine wa_take_on 15 rfl rfl rfl (by kernel_rfl) (by kernel_rfl) (by kernel_rfl) (listed' := #[true, true, true, true, true, true, true, true, true, true, true, true, true, true, true, true, false, false, false, false, false, false, false, false]) rfl (fun _ _ _ h => h) (fun _ hm => ⟨hm.blkI 0 rfl, hm.fact 0 rfl, trivial⟩) (ov_move rfl) rfl ?_
              refine wa_take_on 16 rfl rfl rfl (by kernel_rfl) (by kernel_rfl) (by kernel_rfl) (listed' := #[true, true, true, true, true, true, true, true, true, true, true, true, true, true, true, true, true, false, false, false, false, false, false, false]) rfl (fun _ _ _ h => h) (fun _ hm => ⟨hm.blkI 0 rfl, hm.fact 0 rfl, trivial⟩) (ov_move rfl) rfl ?_
              refine wa_take_on 17 rfl rfl rfl (by kernel_rfl) (by kernel_rfl) (by kernel_rfl) (listed' := #[true, true, true, true, true, true, true, true, true, true, true, true, true, true, true, true, true, true, false, false, false, false, false, false]) rfl (fun _ _ _ h => h) (fun _ hm => ⟨hm.blkI 0 rfl, hm.fact 0 rfl, trivial⟩) (ov_sub rfl rfl (by omega) (by omega)) rfl ?_
              refine wa_set 42 (v' := .int .i64 ((k - 1 : Nat) : Int)) rfl (congrArg (Value.int .i64) (by omega)) ?_
              refine wa_take_on 18 rfl rfl rfl (by kernel_rfl) (by kernel_rfl) (by kernel_rfl) (listed' := #[true, true, true, true, true, true, true, true, true, true, true, true, true, true, true, true, true, true, true, false, false, false, false, false]) rfl (fun _ _ _ h => h) (fun _ hm => ⟨hm.blkI 0 rfl, hm.fact 0 rfl, trivial⟩) (ov_index (j := k - 1) es43 rfl rfl (by omega)) rfl ?_
              refine wa_take_on 19 rfl rfl rfl (by kernel_rfl) (by kernel_rfl) (by kernel_rfl) (listed' := #[true, true, true, true, true, true, true, true, true, true, true, true, true, true, true, true, true, true, true, true, false, false, false, false]) rfl (fun _ _ _ h => h) (fun _ hm => ⟨hm.blkI 0 rfl, hm.fact 0 rfl, trivial⟩) (ov_field fo141_1 rfl rfl) rfl ?_
              refine wa_take_on 20 rfl rfl rfl (by kernel_rfl) (by kernel_rfl) (by kernel_rfl) (listed' := #[true, true, true, true, true, true, true, true, true, true, true, true, true, true, true, true, true, true, true, true, true, false, false, false]) rfl (fun _ _ _ h => h) (fun _ hm => ⟨hm.blkI 0 rfl, hm.fact 0 rfl, trivial⟩) (ov_elem1 (k := 1) sc3 rfl (fun _ hm => (hm.2.1).1) hy rfl rfl) rfl ?_
              refine wa_take_on 21 rfl rfl rfl (by kernel_rfl) (by kernel_rfl) (by kernel_rfl) (listed' := #[true, true, true, true, true, true, true, true, true, true, true, true, true, true, true, true, true, true, true, true, true, true, false, false]) rfl (fun _ _ _ h => h) (fun _ hm => ⟨hm.blkI 0 rfl, hm.fact 0 rfl, trivial⟩) (ov_lss rfl rfl) rfl ?_
              refine wa_take_on 22 rfl rfl rfl (by kernel_rfl) (by kernel_rfl) (by kernel_rfl) (listed' := #[true, true, true, true, true, true, true, true, true, true, true, true, true, true, true, true, true, true, true, true, true, true, true, false]) rfl (fun _ _ _ h => h) (fun _ hm => ⟨hm.blkI 0 rfl, hm.fact 0 rfl, trivial⟩) (ov_pick_f rfl rfl) rfl ?_
              refine wa_take 23 rfl (by kernel_rfl) (by kernel_rfl) (by kernel_rfl) (listed' := #[true, true, true, true, true, true, true, true, true, true, true, true, true, true, true, true, true, true, true, true, true, true, true, true]) rfl (fun _ _ _ h => h) (fun _ hm => ⟨hm.blkI 0 rfl, hm.fact 0 rfl, trivial⟩) (ov_pick_t rfl rfl) rfl ?_
              refine wa_done (by kernel_rfl) ?_
              refine nx_then ?_
              refine gw_cond rfl (fun hh => ?_) (fun hh => ?_)
              · have h5 : ml < pm := by simpa using hh
                clear hh
                refine gw_seq ?_
                refine gw_region ?_
                have hE : tierE (prevOf l k) ⟨hr, ml⟩ = 7 := by unfold tierE; rw [hpv]; simp at h4; simp [h2, h3, h5]
                refine wl_ov (ov_assign rfl) rfl ?_
                refine wl_nil ?_
                refine nx_then ?_
                refine gw_ret ?_
                refine nx_blk_ret ?_
                refine nx_then_ret ?_
                refine nx_then_ret ?_
                refine nx_blk_ret ?_
                refine nx_then_ret ?_
                refine nx_ret1 rfl rfl fun wx hm => ?_
                exact ⟨ret_int (by rw [hinv.2, hat, if_neg (by rw [hE]; decide), hE]), hm.g⟩
              · have h5 : ¬ (ml < pm) := by simpa using hh
                clear hh
                refine gw_skip ?_
                refine nx_blk_nrm ?_
                refine nx_then ?_
                refine gw_region ?_
                have hE : tierE (prevOf l k) ⟨hr, ml⟩ = 0 := by unfold tierE; rw [hpv]; simp at h4; simp [h2, h3]; omega
                refine wl_ov (ov_add rfl rfl (by omega) (by omega)) rfl ?_
                refine wl_ov (ov_move rfl) rfl ?_
                refine wl_nil ?_
                exact nx_round (k + 1) ⟨by omega, by rw [hinv.2, hat, if_pos hE]⟩ (by omega) ⟨rfl, rfl, rfl, (some_int (by omega)), trivial⟩ (fun _ hm => hm.pick [] [] [0] rfl rfl)
    · have hk : ¬ (((k : Nat) : Int) < ((n : Nat) : Int)) := by simpa using hh
      clear hh
      refine gw_exit ?_
      refine nx_then_exit ?_
      refine nx_then_exit ?_
      refine nx_blk_here ?_
      refine nx_then ?_
      refine gw_seq ?_
      refine gw_region ?_
      refine wl_ov (ov_assign rfl) rfl ?_
      refine wl_nil ?_
      refine nx_then ?_
      refine gw_ret ?_
      refine nx_ret1 rfl rfl fun wx hm => ?_
      exact ⟨ret_int (by rw [hinv.2, scanE_end _ _ _ _ (by omega)]), hm.g⟩

end Go.Proofs.YtljnekobfjpfaaaDoor
/- The form of bookings: formed, BookingForm. -/
namespace Go.Proofs.YtljnekobfjpfaaaDoor
open Go.RowKit

structure Bk where
  key : ByteArray
  cls : ByteArray
  fr : Int
  to_ : Int
  made : Int
  odds : Int
def bkEnc (b : Bk) : List Value := [.string b.key, .string b.cls, .int .i64 b.fr, .int .i64 b.to_, .int .i64 b.made, .int .i64 b.odds]
theorem bk_len (b : Bk) : (bkEnc b).length = 6 := rfl
def BkOk (b : Bk) : Prop := b.key.size ≤ 1000000 ∧ b.cls.size ≤ 1000000
def leO (p : Option Bk) (b : Bk) : Bool := match p with
  | none => false
  | some q => leB b.key q.key
def bookE (p : Option Bk) (b : Bk) : Int :=
  if !keyB b.key then 5 else if !keyB b.cls then 5 else if leO p b then 7 else
  if b.fr < 0 then 1 else if b.to_ ≤ b.fr then 1 else if 5761439 < b.to_ then 1 else if !inB b.made 0 b.fr then 1 else if !inB b.odds 0 100 then 1 else 0
def formE (l : List Bk) : Int := if 500 < l.length then 2 else scanE bookE none l
def prevK (l : List Bk) (k : Nat) : ByteArray := match prevOf l k with
  | none => ⟨#[]⟩
  | some q => q.key
theorem prevK_succ {l : List Bk} {k : Nat} {x : Bk} (h : l[k]? = some x) : prevK l (k + 1) = x.key := by
  unfold prevK prevOf; rw [if_neg (by omega), Nat.add_sub_cancel, h]
theorem key_low {a : ByteArray} (h : keyB a = true) : leB a ⟨#[]⟩ = false := by
  obtain ⟨⟨l⟩⟩ := a
  cases l with
  | nil => cases h
  | cons c r => unfold leB; rw [ByteArray.toList_eq, ByteArray.toList_eq]; rfl
theorem leO_prevK {l : List Bk} {k : Nat} {b : Bk} (h : keyB b.key = true) : leB b.key (prevK l k) = leO (prevOf l k) b := by
  unfold prevK leO
  cases prevOf l k with
  | none => exact key_low h
  | some q => rfl
theorem bookE_ok {p : Option Bk} {b : Bk} (h : bookE p b = 0) : 0 ≤ b.fr ∧ b.fr < b.to_ ∧ b.to_ ≤ 5761439 ∧ 0 ≤ b.made ∧ b.made ≤ b.fr ∧ 0 ≤ b.odds ∧ b.odds ≤ 100 := by
  unfold bookE at h
  repeat (split at h; · cases h)
  rename_i h1 h2 h3 h4 h5 h6 h7 h8
  simp [inB] at h7 h8
  omega
theorem formE_one {b : Bk} (h : formE [b] = 0) : 0 ≤ b.fr ∧ b.fr < b.to_ ∧ b.to_ ≤ 5761439 ∧ 0 ≤ b.made ∧ b.made ≤ b.fr ∧ 0 ≤ b.odds ∧ b.odds ≤ 100 := by
  unfold formE at h
  rw [if_neg (by simp)] at h
  obtain ⟨q, hq⟩ := scanE_all h b (List.mem_singleton.2 rfl)
  exact bookE_ok hq

set_option maxRecDepth 100000 in
set_option maxHeartbeats 1000000 in
theorem formed_any (l : List Bk) (A : Option Addr) (n c : Nat) (w : World) (hl : SlT bkEnc 6 46 w A n l) (hok : ∀ b ∈ l, BkOk b) (hn : n ≤ 1000000) :
    Calls Tryd.prog 97 #[.slice A n c] w (GotE w (formE l)) := by
  refine gw_enter ⟨75, w, none, []⟩ Tryd.func97 rfl Tryd.ntmps97 rfl (mem0 (X := [SlOld bkEnc 6 46 w.heap.size none A n l]) (allF_cons hl.old allF_nil) (allL_cons SlOld.lasts allL_nil)) ?_
  refine gw_seq ?_
  refine gw_region ?_
  have hlen := hl.len
  refine wl_ov (ov_assign rfl) rfl ?_
  refine wl_nil ?_
  refine nx_then ?_
  refine gw_seq ?_
  refine gw_seq ?_
  refine gw_region ?_
  refine wl_ov (ov_move rfl) rfl ?_
  refine wl_ov (ov_len es55 rfl) rfl ?_
  refine wl_ov (ov_gtr rfl rfl) rfl ?_
  refine wl_nil ?_
  refine nx_then ?_
  refine gw_cond rfl (fun hh => ?_) (fun hh => ?_)
  · have h1 : 500 < ((n : Nat) : Int) := by simpa using hh
    clear hh
    refine gw_seq ?_
    refine gw_region ?_
    refine wl_ov (ov_assign rfl) rfl ?_
    refine wl_nil ?_
    refine nx_then ?_
    refine gw_ret ?_
    refine nx_then_ret ?_
    refine nx_ret1 rfl rfl fun wx hm => ?_
    exact ⟨ret_int (by unfold formE; rw [if_pos (by omega)]), hm.g⟩
  · have h1 : ¬ (500 < ((n : Nat) : Int)) := by simpa using hh
    clear hh
    refine gw_skip ?_
    refine nx_then ?_
    refine gw_seq ?_
    refine gw_seq ?_
    refine gw_region ?_
    refine wl_ov (ov_move rfl) rfl ?_
    refine wl_ov (ov_len es55 rfl) rfl ?_
    refine wl_ov (ov_move rfl) rfl ?_
    refine wl_nil ?_
    refine nx_then ?_
    refine gw_block ?_
    refine gw_loop (γ := Nat) (fun (k : Nat) => k ≤ n ∧ formE l = scanE bookE (prevOf l k) (l.drop k)) (fun (k : Nat) => [(0, .slice A n c), (8, .slice A n c), (9, .int .i64 ((n : Nat) : Int)), (10, .int .i64 ((k : Nat) : Int))]) (fun (k : Nat) => fun _ => True) (fun (k : Nat) => []) (fun (k : Nat) => []) (fun (k : Nat) => [SlOld bkEnc 6 46 w.heap.size none A n l]) (fun (k : Nat) => n - k) 0 ⟨Nat.zero_le _, by unfold formE; rw [if_neg (by omega)]; rfl⟩ ⟨rfl, rfl, rfl, rfl, trivial⟩ (fun _ hm => hm.pick [] [] [0] rfl rfl) ?_
    intro k hinv
    replace hinv : k ≤ n ∧ formE l = scanE bookE (prevOf l k) (l.drop k) := hinv
    refine gw_seq ?_
    refine gw_region ?_
    refine wl_ov (ov_lss rfl rfl) rfl ?_
    refine wl_nil ?_
    refine nx_then ?_
    refine gw_seq ?_
    refine gw_cond rfl (fun hh => ?_) (fun hh => ?_)
    · have hk : ((k : Nat) : Int) < ((n : Nat) : Int) := by simpa using hh
      clear hh
      refine gw_skip ?_
      refine nx_then ?_
      refine gw_seq ?_
      refine gw_block ?_
      refine gw_seq ?_
      refine gw_region ?_
      obtain ⟨b, off, hA, _, _⟩ := hl.get (by omega)
      subst hA
      obtain ⟨x, hx⟩ : ∃ x, l[k]? = some x := ⟨_, List.getElem?_eq_getElem (by omega)⟩
      obtain ⟨ke, cl, fr, tt, ma, od⟩ := x
      have hat := scanE_at bookE l k _ hx
      obtain ⟨hk1, hk2⟩ := hok _ (List.mem_of_getElem? hx)
      have hk1 : ke.size ≤ 1000000 := hk1
      have hk2 : cl.size ≤ 1000000 := hk2
      refine wl_ov (ov_move rfl) rfl ?_
      refine wl_ov (ov_index (j := k) es55 rfl rfl (by omega)) rfl ?_
      refine wl_ov (ov_elem rz46 rfl (fun _ hm => (hm.fact 0 rfl).1) hx rfl rfl) rfl ?_
      refine wl_alloc zc46 rfl fun g1 => ?_
      refine wl_ov (ov_assign rfl) rfl ?_
      refine wl_stores (cs' := [.string ke, .string cl, .int .i64 fr, .int .i64 tt, .int .i64 ma, .int .i64 od]) 0 rz46 rfl rfl rfl rfl rfl rfl rfl rfl ?_
      refine wl_nil ?_
      refine nx_then ?_
      refine gw_block ?_
      refine gw_seq ?_
      refine gw_region ?_
      refine wl_ov (ov_field fo46_0 rfl rfl) rfl ?_
      refine wl_ov (ov_load sc9 rfl (fun _ hm => hm.blkI 0 rfl) rfl) rfl ?_
      refine wl_callw rfl cb115 rfl rfl (fun wx hm => (isKey_any _ wx (by omega))) ?_
      refine wl_ov (ov_un_not rfl) rfl ?_
      refine wl_ov (ov_move rfl) rfl ?_
      rcases Bool.eq_false_or_eq_true (!(keyB ke)) with h2 | h2
      · refine wl_set 20 rfl (congrArg Value.bool h2) ?_
        refine wl_guard_off rfl rfl rfl (by decide) rfl ?_
        refine wl_guard_off rfl rfl rfl (by decide) rfl ?_
        refine wl_guard_off rfl rfl rfl (by decide) rfl ?_
        refine wl_guard_off rfl rfl rfl (by decide) rfl ?_
        refine wl_ov (ov_pick_t rfl rfl) rfl ?_
        refine wl_ov (ov_assign rfl) rfl ?_
        refine wl_nil ?_
        refine nx_then ?_
        refine gw_cond rfl (fun _ => ?_) (fun hh => by cases hh)
        refine gw_seq ?_
        refine gw_region ?_
        refine wl_ov (ov_assign rfl) rfl ?_
        refine wl_nil ?_
        refine nx_then ?_
        refine gw_ret ?_
        refine nx_blk_ret ?_
        refine nx_blk_ret ?_
        refine nx_then_ret ?_
        refine nx_then_ret ?_
        refine nx_blk_ret ?_
        refine nx_then_ret ?_
        have hE : bookE (prevOf l k) ⟨ke, cl, fr, tt, ma, od⟩ = 5 := by unfold bookE; simp [h2]
        refine nx_ret1 rfl rfl fun wx hm => ?_
        exact ⟨ret_int (by rw [hinv.2, hat, if_neg (by rw [hE]; decide), hE]), hm.g⟩
      · refine wl_set 20 rfl (congrArg Value.bool h2) ?_
        refine wl_guard_on rfl rfl rfl ?_
        refine wl_ov (ov_field fo46_1 rfl rfl) rfl ?_
        refine wl_guard_on rfl rfl rfl ?_
        refine wl_ov (ov_load sc9 rfl (fun _ hm => hm.blkI 0 rfl) rfl) rfl ?_
        refine wl_guard_on rfl rfl rfl ?_
        refine wl_callw rfl cb115 rfl rfl (fun wx hm => (isKey_any _ wx (by omega))) ?_
        refine wl_guard_on rfl rfl rfl ?_
        refine wl_ov (ov_un_not rfl) rfl ?_
        refine wl_ov (ov_pick_f rfl rfl) rfl ?_
        refine wl_ov (ov_assign rfl) rfl ?_
        refine wl_nil ?_
        refine nx_then ?_
        refine gw_cond rfl (fun hh => ?_) (fun hh => ?_)
        · have h3 : (keyB cl) = false := by simpa using hh
          clear hh
          refine gw_seq ?_
          refine gw_region ?_
          refine wl_ov (ov_assign rfl) rfl ?_
          refine wl_nil ?_
          refine nx_then ?_
          refine gw_ret ?_
          refine nx_blk_ret ?_
          refine nx_blk_ret ?_
          refine nx_then_ret ?_
          refine nx_then_ret ?_
          refine nx_blk_ret ?_
          refine nx_then_ret ?_
          have hE : bookE (prevOf l k) ⟨ke, cl, fr, tt, ma, od⟩ = 5 := by unfold bookE; simp [h2, h3]
          refine nx_ret1 rfl rfl fun wx hm => ?_
          exact ⟨ret_int (by rw [hinv.2, hat, if_neg (by rw [hE]; decide), hE]), hm.g⟩
        · have h3 : (keyB cl) = true := by simpa using hh
          clear hh
          refine gw_seq ?_
          by_cases hk0 : k = 0
          · have hO : leO (prevOf l k) ⟨ke, cl, fr, tt, ma, od⟩ = false := by rw [prevOf_zero hk0]; rfl
            refine gw_draw (fun wz => Blk wz g1 46 [.string ke, .string cl, .int .i64 fr, .int .i64 tt, .int .i64 ma, .int .i64 od] ∧ (SlOld bkEnc 6 46 w.heap.size none (some ⟨b, off, none⟩) n l) wz ∧ True) mixed ?_
            refine wa_take 0 rfl (by kernel_rfl) (by kernel_rfl) (by kernel_rfl) (listed' := #[true, false, false, false, false, false, false, false, false, false, false, false, false, false]) rfl (fun _ _ _ h => h) (fun _ hm => ⟨hm.blkI 0 rfl, hm.fact 0 rfl, trivial⟩) (ov_move rfl) rfl ?_
            refine wa_take 1 rfl (by kernel_rfl) (by kernel_rfl) (by kernel_rfl) (listed' := #[true, true, false, false, false, false, false, false, false, false, false, false, false, false]) rfl (fun _ _ _ h => h) (fun _ hm => ⟨hm.blkI 0 rfl, hm.fact 0 rfl, trivial⟩) (ov_gtr rfl rfl) rfl ?_
            refine wa_set 28 (v' := .bool false) rfl (congrArg Value.bool (decide_eq_false (by omega))) ?_
            refine wa_take 2 rfl (by kernel_rfl) (by kernel_rfl) (by kernel_rfl) (listed' := #[true, true, true, false, false, false, false, false, false, false, false, false, false, false]) rfl (fun _ _ _ h => h) (fun _ hm => ⟨hm.blkI 0 rfl, hm.fact 0 rfl, trivial⟩) (ov_move rfl) rfl ?_
            refine wa_take_off 3 rfl rfl rfl (by decide) (by kernel_rfl) (by kernel_rfl) (by kernel_rfl) (listed' := #[true, true, true, true, false, false, false, false, false, false, false, false, false, false]) rfl (fun _ _ _ h => h) (fun _ hm => ⟨hm.blkI 0 rfl, hm.fact 0 rfl, trivial⟩) rfl ?_
            refine wa_take_off 4 rfl rfl rfl (by decide) (by kernel_rfl) (by kernel_rfl) (by kernel_rfl) (listed' := #[true, true, true, true, true, false, false, false, false, false, false, false, false, false]) rfl (fun _ _ _ h => h) (fun _ hm => ⟨hm.blkI 0 rfl, hm.fact 0 rfl, trivial⟩) rfl ?_
            refine wa_take_off 5 rfl rfl rfl (by decide) (by kernel_rfl) (by kernel_rfl) (by kernel_rfl) (listed' := #[true, true, true, true, true, true, false, false, false, false, false, false, false, false]) rfl (fun _ _ _ h => h) (fun _ hm => ⟨hm.blkI 0 rfl, hm.fact 0 rfl, trivial⟩) rfl ?_
            refine wa_take_off 6 rfl rfl rfl (by decide) (by kernel_rfl) (by kernel_rfl) (by kernel_rfl) (listed' := #[true, true, true, true, true, true, true, false, false, false, false, false, false, false]) rfl (fun _ _ _ h => h) (fun _ hm => ⟨hm.blkI 0 rfl, hm.fact 0 rfl, trivial⟩) rfl ?_
            refine wa_take_off 7 rfl rfl rfl (by decide) (by kernel_rfl) (by kernel_rfl) (by kernel_rfl) (listed' := #[true, true, true, true, true, true, true, true, false, false, false, false, false, false]) rfl (fun _ _ _ h => h) (fun _ hm => ⟨hm.blkI 0 rfl, hm.fact 0 rfl, trivial⟩) rfl ?_
            refine wa_take_off 8 rfl rfl rfl (by decide) (by kernel_rfl) (by kernel_rfl) (by kernel_rfl) (listed' := #[true, true, true, true, true, true, true, true, true, false, false, false, false, false]) rfl (fun _ _ _ h => h) (fun _ hm => ⟨hm.blkI 0 rfl, hm.fact 0 rfl, trivial⟩) rfl ?_
            refine wa_take_off 9 rfl rfl rfl (by decide) (by kernel_rfl) (by kernel_rfl) (by kernel_rfl) (listed' := #[true, true, true, true, true, true, true, true, true, true, false, false, false, false]) rfl (fun _ _ _ h => h) (fun _ hm => ⟨hm.blkI 0 rfl, hm.fact 0 rfl, trivial⟩) rfl ?_
            refine wa_take_off 10 rfl rfl rfl (by decide) (by kernel_rfl) (by kernel_rfl) (by kernel_rfl) (listed' := #[true, true, true, true, true, true, true, true, true, true, true, false, false, false]) rfl (fun _ _ _ h => h) (fun _ hm => ⟨hm.blkI 0 rfl, hm.fact 0 rfl, trivial⟩) rfl ?_
            refine wa_take_off 11 rfl rfl rfl (by decide) (by kernel_rfl) (by kernel_rfl) (by kernel_rfl) (listed' := #[true, true, true, true, true, true, true, true, true, true, true, true, false, false]) rfl (fun _ _ _ h => h) (fun _ hm => ⟨hm.blkI 0 rfl, hm.fact 0 rfl, trivial⟩) rfl ?_
            refine wa_take 12 rfl (by kernel_rfl) (by kernel_rfl) (by kernel_rfl) (listed' := #[true, true, true, true, true, true, true, true, true, true, true, true, true, false]) rfl (fun _ _ _ h => h) (fun _ hm => ⟨hm.blkI 0 rfl, hm.fact 0 rfl, trivial⟩) (ov_pick_f rfl rfl) rfl ?_
            refine wa_take 13 rfl (by kernel_rfl) (by kernel_rfl) (by kernel_rfl) (listed' := #[true, true, true, true, true, true, true, true, true, true, true, true, true, true]) rfl (fun _ _ _ h => h) (fun _ hm => ⟨hm.blkI 0 rfl, hm.fact 0 rfl, trivial⟩) (ov_assign rfl) rfl ?_
            refine wa_done (by kernel_rfl) ?_
            refine nx_then ?_
            refine gw_cond rfl (fun hh => by cases hh) (fun _ => ?_)
            refine gw_seq ?_
            refine gw_region ?_
            refine wl_ov (ov_field fo46_2 rfl rfl) rfl ?_
            refine wl_ov (ov_field fo28_0 rfl rfl) rfl ?_
            refine wl_ov (ov_load sc3 rfl (fun _ hm => hm.blkI 0 rfl) rfl) rfl ?_
            refine wl_ov (ov_lss rfl rfl) rfl ?_
            refine wl_ov (ov_move rfl) rfl ?_
            rcases Bool.eq_false_or_eq_true (decide (fr < 0)) with h4 | h4
            · refine wl_set 45 rfl (congrArg Value.bool h4) ?_
              replace h4 := of_decide_eq_true h4
              refine wl_guard_off rfl rfl rfl (by decide) rfl ?_
              refine wl_guard_off rfl rfl rfl (by decide) rfl ?_
              refine wl_guard_off rfl rfl rfl (by decide) rfl ?_
              refine wl_guard_off rfl rfl rfl (by decide) rfl ?_
              refine wl_guard_off rfl rfl rfl (by decide) rfl ?_
              refine wl_guard_off rfl rfl rfl (by decide) rfl ?_
              refine wl_guard_off rfl rfl rfl (by decide) rfl ?_
              refine wl_ov (ov_pick_t rfl rfl) rfl ?_
              refine wl_ov (ov_move rfl) rfl ?_
              refine wl_guard_off rfl rfl rfl (by decide) rfl ?_
              refine wl_guard_off rfl rfl rfl (by decide) rfl ?_
              refine wl_guard_off rfl rfl rfl (by decide) rfl ?_
              refine wl_guard_off rfl rfl rfl (by decide) rfl ?_
              refine wl_ov (ov_pick_t rfl rfl) rfl ?_
              refine wl_ov (ov_assign rfl) rfl ?_
              refine wl_nil ?_
              refine nx_then ?_
              refine gw_cond rfl (fun _ => ?_) (fun hh => by cases hh)
              refine gw_seq ?_
              refine gw_region ?_
              refine wl_ov (ov_assign rfl) rfl ?_
              refine wl_nil ?_
              refine nx_then ?_
              refine gw_ret ?_
              refine nx_blk_ret ?_
              refine nx_blk_ret ?_
              refine nx_then_ret ?_
              refine nx_then_ret ?_
              refine nx_blk_ret ?_
              refine nx_then_ret ?_
              have hE : bookE (prevOf l k) ⟨ke, cl, fr, tt, ma, od⟩ = 1 := by unfold bookE; simp [h2, h3, hO, h4]
              refine nx_ret1 rfl rfl fun wx hm => ?_
              exact ⟨ret_int (by rw [hinv.2, hat, if_neg (by rw [hE]; decide), hE]), hm.g⟩
            · refine wl_set 45 rfl (congrArg Value.bool h4) ?_
              replace h4 := of_decide_eq_false h4
              refine wl_guard_on rfl rfl rfl ?_
              refine wl_ov (ov_field fo46_2 rfl rfl) rfl ?_
              refine wl_guard_on rfl rfl rfl ?_
              refine wl_ov (ov_field fo28_0 rfl rfl) rfl ?_
              refine wl_guard_on rfl rfl rfl ?_
              refine wl_ov (ov_load sc3 rfl (fun _ hm => hm.blkI 0 rfl) rfl) rfl ?_
              refine wl_guard_on rfl rfl rfl ?_
              refine wl_ov (ov_field fo46_2 rfl rfl) rfl ?_
              refine wl_guard_on rfl rfl rfl ?_
              refine wl_ov (ov_field fo28_1 rfl rfl) rfl ?_
              refine wl_guard_on rfl rfl rfl ?_
              refine wl_ov (ov_load sc3 rfl (fun _ hm => hm.blkI 0 rfl) rfl) rfl ?_
              refine wl_guard_on rfl rfl rfl ?_
              refine wl_ov (ov_geq rfl rfl) rfl ?_
              refine wl_ov (ov_pick_f rfl rfl) rfl ?_
              refine wl_ov (ov_move rfl) rfl ?_
              rcases Bool.eq_false_or_eq_true (decide (tt ≤ fr)) with h5 | h5
              · refine wl_set 54 rfl (congrArg Value.bool h5) ?_
                replace h5 := of_decide_eq_true h5
                refine wl_guard_off rfl rfl rfl (by decide) rfl ?_
                refine wl_guard_off rfl rfl rfl (by decide) rfl ?_
                refine wl_guard_off rfl rfl rfl (by decide) rfl ?_
                refine wl_guard_off rfl rfl rfl (by decide) rfl ?_
                refine wl_ov (ov_pick_t rfl rfl) rfl ?_
                refine wl_ov (ov_assign rfl) rfl ?_
                refine wl_nil ?_
                refine nx_then ?_
                refine gw_cond rfl (fun _ => ?_) (fun hh => by cases hh)
                refine gw_seq ?_
                refine gw_region ?_
                refine wl_ov (ov_assign rfl) rfl ?_
                refine wl_nil ?_
                refine nx_then ?_
                refine gw_ret ?_
                refine nx_blk_ret ?_
                refine nx_blk_ret ?_
                refine nx_then_ret ?_
                refine nx_then_ret ?_
                refine nx_blk_ret ?_
                refine nx_then_ret ?_
                have hE : bookE (prevOf l k) ⟨ke, cl, fr, tt, ma, od⟩ = 1 := by unfold bookE; simp [h2, h3, hO, h4, h5]
                refine nx_ret1 rfl rfl fun wx hm => ?_
                exact ⟨ret_int (by rw [hinv.2, hat, if_neg (by rw [hE]; decide), hE]), hm.g⟩
              · refine wl_set 54 rfl (congrArg Value.bool h5) ?_
                replace h5 := of_decide_eq_false h5
                refine wl_guard_on rfl rfl rfl ?_
                refine wl_ov (ov_field fo46_2 rfl rfl) rfl ?_
                refine wl_guard_on rfl rfl rfl ?_
                refine wl_ov (ov_field fo28_1 rfl rfl) rfl ?_
                refine wl_guard_on rfl rfl rfl ?_
                refine wl_ov (ov_load sc3 rfl (fun _ hm => hm.blkI 0 rfl) rfl) rfl ?_
                refine wl_guard_on rfl rfl rfl ?_
                refine wl_ov (ov_gtr rfl rfl) rfl ?_
                refine wl_ov (ov_pick_f rfl rfl) rfl ?_
                refine wl_ov (ov_assign rfl) rfl ?_
                refine wl_nil ?_
                refine nx_then ?_
                refine gw_cond rfl (fun hh => ?_) (fun hh => ?_)
                · have h6 : 5761439 < tt := by simpa using hh
                  clear hh
                  refine gw_seq ?_
                  refine gw_region ?_
                  refine wl_ov (ov_assign rfl) rfl ?_
                  refine wl_nil ?_
                  refine nx_then ?_
                  refine gw_ret ?_
                  refine nx_blk_ret ?_
                  refine nx_blk_ret ?_
                  refine nx_then_ret ?_
                  refine nx_then_ret ?_
                  refine nx_blk_ret ?_
                  refine nx_then_ret ?_
                  have hE : bookE (prevOf l k) ⟨ke, cl, fr, tt, ma, od⟩ = 1 := by unfold bookE; simp [h2, h3, hO, h4, h5, h6]
                  refine nx_ret1 rfl rfl fun wx hm => ?_
                  exact ⟨ret_int (by rw [hinv.2, hat, if_neg (by rw [hE]; decide), hE]), hm.g⟩
                · have h6 : ¬ (5761439 < tt) := by simpa using hh
                  clear hh
                  refine gw_seq ?_
                  refine gw_region ?_
                  refine wl_ov (ov_field fo46_3 rfl rfl) rfl ?_
                  refine wl_ov (ov_load sc3 rfl (fun _ hm => hm.blkI 0 rfl) rfl) rfl ?_
                  refine wl_ov (ov_field fo46_2 rfl rfl) rfl ?_
                  refine wl_ov (ov_field fo28_0 rfl rfl) rfl ?_
                  refine wl_ov (ov_load sc3 rfl (fun _ hm => hm.blkI 0 rfl) rfl) rfl ?_
                  refine wl_callw rfl cb99 rfl rfl (fun wx hm => (in_any _ _ _ wx)) ?_
                  refine wl_ov (ov_un_not rfl) rfl ?_
                  refine wl_ov (ov_move rfl) rfl ?_
                  rcases Bool.eq_false_or_eq_true (!(inB ma 0 fr)) with h7 | h7
                  · refine wl_set 68 rfl (congrArg Value.bool h7) ?_
                    refine wl_guard_off rfl rfl rfl (by decide) rfl ?_
                    refine wl_guard_off rfl rfl rfl (by decide) rfl ?_
                    refine wl_guard_off rfl rfl rfl (by decide) rfl ?_
                    refine wl_guard_off rfl rfl rfl (by decide) rfl ?_
                    refine wl_ov (ov_pick_t rfl rfl) rfl ?_
                    refine wl_ov (ov_assign rfl) rfl ?_
                    refine wl_nil ?_
                    refine nx_then ?_
                    refine gw_cond rfl (fun _ => ?_) (fun hh => by cases hh)
                    refine gw_seq ?_
                    refine gw_region ?_
                    refine wl_ov (ov_assign rfl) rfl ?_
                    refine wl_nil ?_
                    refine nx_then ?_
                    refine gw_ret ?_
                    refine nx_blk_ret ?_
                    refine nx_blk_ret ?_
                    refine nx_then_ret ?_
                    refine nx_then_ret ?_
                    refine nx_blk_ret ?_
                    refine nx_then_ret ?_
                    have hE : bookE (prevOf l k) ⟨ke, cl, fr, tt, ma, od⟩ = 1 := by unfold bookE; simp [h2, h3, hO, h4, h5, h6, h7]
                    refine nx_ret1 rfl rfl fun wx hm => ?_
                    exact ⟨ret_int (by rw [hinv.2, hat, if_neg (by rw [hE]; decide), hE]), hm.g⟩
                  · refine wl_set 68 rfl (congrArg Value.bool h7) ?_
                    refine wl_guard_on rfl rfl rfl ?_
                    refine wl_ov (ov_field fo46_4 rfl rfl) rfl ?_
                    refine wl_guard_on rfl rfl rfl ?_
                    refine wl_ov (ov_load sc3 rfl (fun _ hm => hm.blkI 0 rfl) rfl) rfl ?_
                    refine wl_guard_on rfl rfl rfl ?_
                    refine wl_callw rfl cb99 rfl rfl (fun wx hm => (in_any _ _ _ wx)) ?_
                    refine wl_guard_on rfl rfl rfl ?_
                    refine wl_ov (ov_un_not rfl) rfl ?_
                    refine wl_ov (ov_pick_f rfl rfl) rfl ?_
                    refine wl_ov (ov_assign rfl) rfl ?_
                    refine wl_nil ?_
                    refine nx_then ?_
                    refine gw_cond rfl (fun hh => ?_) (fun hh => ?_)
                    · have h8 : (inB od 0 100) = false := by simpa using hh
                      clear hh
                      refine gw_seq ?_
                      refine gw_region ?_
                      refine wl_ov (ov_assign rfl) rfl ?_
                      refine wl_nil ?_
                      refine nx_then ?_
                      refine gw_ret ?_
                      refine nx_blk_ret ?_
                      refine nx_blk_ret ?_
                      refine nx_then_ret ?_
                      refine nx_then_ret ?_
                      refine nx_blk_ret ?_
                      refine nx_then_ret ?_
                      have hE : bookE (prevOf l k) ⟨ke, cl, fr, tt, ma, od⟩ = 1 := by unfold bookE; simp [h2, h3, hO, h4, h5, h6, h7, h8]
                      refine nx_ret1 rfl rfl fun wx hm => ?_
                      exact ⟨ret_int (by rw [hinv.2, hat, if_neg (by rw [hE]; decide), hE]), hm.g⟩
                    · have h8 : (inB od 0 100) = true := by simpa using hh
                      clear hh
                      refine gw_skip ?_
                      refine nx_blk_nrm ?_
                      refine nx_blk_nrm ?_
                      refine nx_then ?_
                      refine gw_region ?_
                      have hE : bookE (prevOf l k) ⟨ke, cl, fr, tt, ma, od⟩ = 0 := by unfold bookE; simp [h2, h3, hO, h4, h5, h6, h7, h8]
                      refine wl_ov (ov_add rfl rfl (by omega) (by omega)) rfl ?_
                      refine wl_ov (ov_move rfl) rfl ?_
                      refine wl_nil ?_
                      exact nx_round (k + 1) ⟨by omega, by rw [hinv.2, hat, if_pos hE]⟩ (by omega) ⟨rfl, rfl, rfl, (some_int (by omega)), trivial⟩ (fun _ hm => hm.pick [] [] [0] rfl rfl)
          · obtain ⟨y, hy⟩ : ∃ x, l[k - 1]? = some x := ⟨_, List.getElem?_eq_getElem (by omega)⟩
            obtain ⟨pk, p1, p2, p3, p4, p5⟩ := y
            refine gw_draw (fun wz => Blk wz g1 46 [.string ke, .string cl, .int .i64 fr, .int .i64 tt, .int .i64 ma, .int .i64 od] ∧ (SlOld bkEnc 6 46 w.heap.size none (some ⟨b, off, none⟩) n l) wz ∧ True) mixed ?_
            refine wa_take 0 rfl (by kernel_rfl) (by kernel_rfl) (by kernel_rfl) (listed' := #[true, false, false, false, false, false, false, false, false, false, false, false, false, false]) rfl (fun _ _ _ h => h) (fun _ hm => ⟨hm.blkI 0 rfl, hm.fact 0 rfl, trivial⟩) (ov_move rfl) rfl ?_
            refine wa_take 1 rfl (by kernel_rfl) (by kernel_rfl) (by kernel_rfl) (listed' := #[true, true, false, false, false, false, false, false, false, false, false, false, false, false]) rfl (fun _ _ _ h => h) (fun _ hm => ⟨hm.blkI 0 rfl, hm.fact 0 rfl, trivial⟩) (ov_gtr rfl rfl) rfl ?_
            refine wa_set 28 (v' := .bool true) rfl (congrArg Value.bool (decide_eq_true (by omega))) ?_
            refine wa_take 2 rfl (by kernel_rfl) (by kernel_rfl) (by kernel_rfl) (listed' := #[true, true, true, false, false, false, false, false, false, false, false, false, false, false]) rfl (fun _ _ _ h => h) (fun _ hm => ⟨hm.blkI 0 rfl, hm.fact 0 rfl, trivial⟩) (ov_move rfl) rfl ?_
            refine wa_take_on 3 rfl rfl rfl (by kernel_rfl) (by kernel_rfl) (by kernel_rfl) (listed' := #[true, true, true, true, false, false, false, false, false, false, false, false, false, false]) rfl (fun _ _ _ h => h) (fun _ hm => ⟨hm.blkI 0 rfl, hm.fact 0 rfl, trivial⟩) (ov_field fo46_0 rfl rfl) rfl ?_
            refine wa_take_on 4 rfl rfl rfl (by kernel_rfl) (by kernel_rfl) (by kernel_rfl) (listed' := #[true, true, true, true, true, false, false, false, false, false, false, false, false, false]) rfl (fun _ _ _ h => h) (fun _ hm => ⟨hm.blkI 0 rfl, hm.fact 0 rfl, trivial⟩) (ov_load sc9 rfl (fun _ hm => hm.1) rfl) rfl ?_
            refine wa_take_on 5 rfl rfl rfl (by kernel_rfl) (by kernel_rfl) (by kernel_rfl) (listed' := #[true, true, true, true, true, true, false, false, false, false, false, false, false, false]) rfl (fun _ _ _ h => h) (fun _ hm => ⟨hm.blkI 0 rfl, hm.fact 0 rfl, trivial⟩) (ov_move rfl) rfl ?_
            refine wa_take_on 6 rfl rfl rfl (by kernel_rfl) (by kernel_rfl) (by kernel_rfl) (listed' := #[true, true, true, true, true, true, true, false, false, false, false, false, false, false]) rfl (fun _ _ _ h => h) (fun _ hm => ⟨hm.blkI 0 rfl, hm.fact 0 rfl, trivial⟩) (ov_move rfl) rfl ?_
            refine wa_take_on 7 rfl rfl rfl (by kernel_rfl) (by kernel_rfl) (by kernel_rfl) (listed' := #[true, true, true, true, true, true, true, true, false, false, false, false, false, false]) rfl (fun _ _ _ h => h) (fun _ hm => ⟨hm.blkI 0 rfl, hm.fact 0 rfl, trivial⟩) (ov_sub rfl rfl (by omega) (by omega)) rfl ?_
            refine wa_set 34 (v' := .int .i64 ((k - 1 : Nat) : Int)) rfl (congrArg (Value.int .i64) (by omega)) ?_
            refine wa_take_on 8 rfl rfl rfl (by kernel_rfl) (by kernel_rfl) (by kernel_rfl) (listed' := #[true, true, true, true, true, true, true, true, true, false, false, false, false, false]) rfl (fun _ _ _ h => h) (fun _ hm => ⟨hm.blkI 0 rfl, hm.fact 0 rfl, trivial⟩) (ov_index (j := k - 1) es55 rfl rfl (by omega)) rfl ?_
            refine wa_take_on 9 rfl rfl rfl (by kernel_rfl) (by kernel_rfl) (by kernel_rfl) (listed' := #[true, true, true, true, true, true, true, true, true, true, false, false, false, false]) rfl (fun _ _ _ h => h) (fun _ hm => ⟨hm.blkI 0 rfl, hm.fact 0 rfl, trivial⟩) (ov_field fo46_0 rfl rfl) rfl ?_
            refine wa_take_on 10 rfl rfl rfl (by kernel_rfl) (by kernel_rfl) (by kernel_rfl) (listed' := #[true, true, true, true, true, true, true, true, true, true, true, false, false, false]) rfl (fun _ _ _ h => h) (fun _ hm => ⟨hm.blkI 0 rfl, hm.fact 0 rfl, trivial⟩) (ov_elem1 (k := 0) sc9 rfl (fun _ hm => (hm.2.1).1) hy rfl rfl) rfl ?_
            refine wa_take_on 11 rfl rfl rfl (by kernel_rfl) (by kernel_rfl) (by kernel_rfl) (listed' := #[true, true, true, true, true, true, true, true, true, true, true, true, false, false]) rfl (fun _ _ _ h => h) (fun _ hm => ⟨hm.blkI 0 rfl, hm.fact 0 rfl, trivial⟩) (ov_sleq rfl rfl) rfl ?_
            refine wa_take 12 rfl (by kernel_rfl) (by kernel_rfl) (by kernel_rfl) (listed' := #[true, true, true, true, true, true, true, true, true, true, true, true, true, false]) rfl (fun _ _ _ h => h) (fun _ hm => ⟨hm.blkI 0 rfl, hm.fact 0 rfl, trivial⟩) (ov_pick_t rfl rfl) rfl ?_
            refine wa_take 13 rfl (by kernel_rfl) (by kernel_rfl) (by kernel_rfl) (listed' := #[true, true, true, true, true, true, true, true, true, true, true, true, true, true]) rfl (fun _ _ _ h => h) (fun _ hm => ⟨hm.blkI 0 rfl, hm.fact 0 rfl, trivial⟩) (ov_assign rfl) rfl ?_
            refine wa_done (by kernel_rfl) ?_
            refine nx_then ?_
            refine gw_cond rfl (fun hh => ?_) (fun hh => ?_)
            · have h9 : (Op.bytesLess ke.toList pk.toList || ke.toList == pk.toList) = true := by simpa using hh
              clear hh
              refine gw_seq ?_
              refine gw_region ?_
              have hO : leO (prevOf l k) ⟨ke, cl, fr, tt, ma, od⟩ = true := by rw [prevOf_pos hk0 hy]; exact h9
              refine wl_ov (ov_assign rfl) rfl ?_
              refine wl_nil ?_
              refine nx_then ?_
              refine gw_ret ?_
              refine nx_blk_ret ?_
              refine nx_blk_ret ?_
              refine nx_then_ret ?_
              refine nx_then_ret ?_
              refine nx_blk_ret ?_
              refine nx_then_ret ?_
              have hE : bookE (prevOf l k) ⟨ke, cl, fr, tt, ma, od⟩ = 7 := by unfold bookE; simp [h2, h3, hO]
              refine nx_ret1 rfl rfl fun wx hm => ?_
              exact ⟨ret_int (by rw [hinv.2, hat, if_neg (by rw [hE]; decide), hE]), hm.g⟩
            · have h9 : (Op.bytesLess ke.toList pk.toList || ke.toList == pk.toList) = false := by simpa using hh
              clear hh
              refine gw_seq ?_
              refine gw_region ?_
              have hO : leO (prevOf l k) ⟨ke, cl, fr, tt, ma, od⟩ = false := by rw [prevOf_pos hk0 hy]; exact h9
              refine wl_ov (ov_field fo46_2 rfl rfl) rfl ?_
              refine wl_ov (ov_field fo28_0 rfl rfl) rfl ?_
              refine wl_ov (ov_load sc3 rfl (fun _ hm => hm.blkI 0 rfl) rfl) rfl ?_
              refine wl_ov (ov_lss rfl rfl) rfl ?_
              refine wl_ov (ov_move rfl) rfl ?_
              rcases Bool.eq_false_or_eq_true (decide (fr < 0)) with h4 | h4
              · refine wl_set 45 rfl (congrArg Value.bool h4) ?_
                replace h4 := of_decide_eq_true h4
                refine wl_guard_off rfl rfl rfl (by decide) rfl ?_
                refine wl_guard_off rfl rfl rfl (by decide) rfl ?_
                refine wl_guard_off rfl rfl rfl (by decide) rfl ?_
                refine wl_guard_off rfl rfl rfl (by decide) rfl ?_
                refine wl_guard_off rfl rfl rfl (by decide) rfl ?_
                refine wl_guard_off rfl rfl rfl (by decide) rfl ?_
                refine wl_guard_off rfl rfl rfl (by decide) rfl ?_
                refine wl_ov (ov_pick_t rfl rfl) rfl ?_
                refine wl_ov (ov_move rfl) rfl ?_
                refine wl_guard_off rfl rfl rfl (by decide) rfl ?_
                refine wl_guard_off rfl rfl rfl (by decide) rfl ?_
                refine wl_guard_off rfl rfl rfl (by decide) rfl ?_
                refine wl_guard_off rfl rfl rfl (by decide) rfl ?_
                refine wl_ov (ov_pick_t rfl rfl) rfl ?_
                refine wl_ov (ov_assign rfl) rfl ?_
                refine wl_nil ?_
                refine nx_then ?_
                refine gw_cond rfl (fun _ => ?_) (fun hh => by cases hh)
                refine gw_seq ?_
                refine gw_region ?_
                refine wl_ov (ov_assign rfl) rfl ?_
                refine wl_nil ?_
                refine nx_then ?_
                refine gw_ret ?_
                refine nx_blk_ret ?_
                refine nx_blk_ret ?_
                refine nx_then_ret ?_
                refine nx_then_ret ?_
                refine nx_blk_ret ?_
                refine nx_then_ret ?_
                have hE : bookE (prevOf l k) ⟨ke, cl, fr, tt, ma, od⟩ = 1 := by unfold bookE; simp [h2, h3, hO, h4]
                refine nx_ret1 rfl rfl fun wx hm => ?_
                exact ⟨ret_int (by rw [hinv.2, hat, if_neg (by rw [hE]; decide), hE]), hm.g⟩
              · refine wl_set 45 rfl (congrArg Value.bool h4) ?_
                replace h4 := of_decide_eq_false h4
                refine wl_guard_on rfl rfl rfl ?_
                refine wl_ov (ov_field fo46_2 rfl rfl) rfl ?_
                refine wl_guard_on rfl rfl rfl ?_
                refine wl_ov (ov_field fo28_0 rfl rfl) rfl ?_
                refine wl_guard_on rfl rfl rfl ?_
                refine wl_ov (ov_load sc3 rfl (fun _ hm => hm.blkI 0 rfl) rfl) rfl ?_
                refine wl_guard_on rfl rfl rfl ?_
                refine wl_ov (ov_field fo46_2 rfl rfl) rfl ?_
                refine wl_guard_on rfl rfl rfl ?_
                refine wl_ov (ov_field fo28_1 rfl rfl) rfl ?_
                refine wl_guard_on rfl rfl rfl ?_
                refine wl_ov (ov_load sc3 rfl (fun _ hm => hm.blkI 0 rfl) rfl) rfl ?_
                refine wl_guard_on rfl rfl rfl ?_
                refine wl_ov (ov_geq rfl rfl) rfl ?_
                refine wl_ov (ov_pick_f rfl rfl) rfl ?_
                refine wl_ov (ov_move rfl) rfl ?_
                rcases Bool.eq_false_or_eq_true (decide (tt ≤ fr)) with h5 | h5
                · refine wl_set 54 rfl (congrArg Value.bool h5) ?_
                  replace h5 := of_decide_eq_true h5
                  refine wl_guard_off rfl rfl rfl (by decide) rfl ?_
                  refine wl_guard_off rfl rfl rfl (by decide) rfl ?_
                  refine wl_guard_off rfl rfl rfl (by decide) rfl ?_
                  refine wl_guard_off rfl rfl rfl (by decide) rfl ?_
                  refine wl_ov (ov_pick_t rfl rfl) rfl ?_
                  refine wl_ov (ov_assign rfl) rfl ?_
                  refine wl_nil ?_
                  refine nx_then ?_
                  refine gw_cond rfl (fun _ => ?_) (fun hh => by cases hh)
                  refine gw_seq ?_
                  refine gw_region ?_
                  refine wl_ov (ov_assign rfl) rfl ?_
                  refine wl_nil ?_
                  refine nx_then ?_
                  refine gw_ret ?_
                  refine nx_blk_ret ?_
                  refine nx_blk_ret ?_
                  refine nx_then_ret ?_
                  refine nx_then_ret ?_
                  refine nx_blk_ret ?_
                  refine nx_then_ret ?_
                  have hE : bookE (prevOf l k) ⟨ke, cl, fr, tt, ma, od⟩ = 1 := by unfold bookE; simp [h2, h3, hO, h4, h5]
                  refine nx_ret1 rfl rfl fun wx hm => ?_
                  exact ⟨ret_int (by rw [hinv.2, hat, if_neg (by rw [hE]; decide), hE]), hm.g⟩
                · refine wl_set 54 rfl (congrArg Value.bool h5) ?_
                  replace h5 := of_decide_eq_false h5
                  refine wl_guard_on rfl rfl rfl ?_
                  refine wl_ov (ov_field fo46_2 rfl rfl) rfl ?_
                  refine wl_guard_on rfl rfl rfl ?_
                  refine wl_ov (ov_field fo28_1 rfl rfl) rfl ?_
                  refine wl_guard_on rfl rfl rfl ?_
                  refine wl_ov (ov_load sc3 rfl (fun _ hm => hm.blkI 0 rfl) rfl) rfl ?_
                  refine wl_guard_on rfl rfl rfl ?_
                  refine wl_ov (ov_gtr rfl rfl) rfl ?_
                  refine wl_ov (ov_pick_f rfl rfl) rfl ?_
                  refine wl_ov (ov_assign rfl) rfl ?_
                  refine wl_nil ?_
                  refine nx_then ?_
                  refine gw_cond rfl (fun hh => ?_) (fun hh => ?_)
                  · have h6 : 5761439 < tt := by simpa using hh
                    clear hh
                    refine gw_seq ?_
                    refine gw_region ?_
                    refine wl_ov (ov_assign rfl) rfl ?_
                    refine wl_nil ?_
                    refine nx_then ?_
                    refine gw_ret ?_
                    refine nx_blk_ret ?_
                    refine nx_blk_ret ?_
                    refine nx_then_ret ?_
                    refine nx_then_ret ?_
                    refine nx_blk_ret ?_
                    refine nx_then_ret ?_
                    have hE : bookE (prevOf l k) ⟨ke, cl, fr, tt, ma, od⟩ = 1 := by unfold bookE; simp [h2, h3, hO, h4, h5, h6]
                    refine nx_ret1 rfl rfl fun wx hm => ?_
                    exact ⟨ret_int (by rw [hinv.2, hat, if_neg (by rw [hE]; decide), hE]), hm.g⟩
                  · have h6 : ¬ (5761439 < tt) := by simpa using hh
                    clear hh
                    refine gw_seq ?_
                    refine gw_region ?_
                    refine wl_ov (ov_field fo46_3 rfl rfl) rfl ?_
                    refine wl_ov (ov_load sc3 rfl (fun _ hm => hm.blkI 0 rfl) rfl) rfl ?_
                    refine wl_ov (ov_field fo46_2 rfl rfl) rfl ?_
                    refine wl_ov (ov_field fo28_0 rfl rfl) rfl ?_
                    refine wl_ov (ov_load sc3 rfl (fun _ hm => hm.blkI 0 rfl) rfl) rfl ?_
                    refine wl_callw rfl cb99 rfl rfl (fun wx hm => (in_any _ _ _ wx)) ?_
                    refine wl_ov (ov_un_not rfl) rfl ?_
                    refine wl_ov (ov_move rfl) rfl ?_
                    rcases Bool.eq_false_or_eq_true (!(inB ma 0 fr)) with h7 | h7
                    · refine wl_set 68 rfl (congrArg Value.bool h7) ?_
                      refine wl_guard_off rfl rfl rfl (by decide) rfl ?_
                      refine wl_guard_off rfl rfl rfl (by decide) rfl ?_
                      refine wl_guard_off rfl rfl rfl (by decide) rfl ?_
                      refine wl_guard_off rfl rfl rfl (by decide) rfl ?_
                      refine wl_ov (ov_pick_t rfl rfl) rfl ?_
                      refine wl_ov (ov_assign rfl) rfl ?_
                      refine wl_nil ?_
                      refine nx_then ?_
                      refine gw_cond rfl (fun _ => ?_) (fun hh => by cases hh)
                      refine gw_seq ?_
                      refine gw_region ?_
                      refine wl_ov (ov_assign rfl) rfl ?_
                      refine wl_nil ?_
                      refine nx_then ?_
                      refine gw_ret ?_
                      refine nx_blk_ret ?_
                      refine nx_blk_ret ?_
                      refine nx_then_ret ?_
                      refine nx_then_ret ?_
                      refine nx_blk_ret ?_
                      refine nx_then_ret ?_
                      have hE : bookE (prevOf l k) ⟨ke, cl, fr, tt, ma, od⟩ = 1 := by unfold bookE; simp [h2, h3, hO, h4, h5, h6, h7]
                      refine nx_ret1 rfl rfl fun wx hm => ?_
                      exact ⟨ret_int (by rw [hinv.2, hat, if_neg (by rw [hE]; decide), hE]), hm.g⟩
                    · refine wl_set 68 rfl (congrArg Value.bool h7) ?_
                      refine wl_guard_on rfl rfl rfl ?_
                      refine wl_ov (ov_field fo46_4 rfl rfl) rfl ?_
                      refine wl_guard_on rfl rfl rfl ?_
                      refine wl_ov (ov_load sc3 rfl (fun _ hm => hm.blkI 0 rfl) rfl) rfl ?_
                      refine wl_guard_on rfl rfl rfl ?_
                      refine wl_callw rfl cb99 rfl rfl (fun wx hm => (in_any _ _ _ wx)) ?_
                      refine wl_guard_on rfl rfl rfl ?_
                      refine wl_ov (ov_un_not rfl) rfl ?_
                      refine wl_ov (ov_pick_f rfl rfl) rfl ?_
                      refine wl_ov (ov_assign rfl) rfl ?_
                      refine wl_nil ?_
                      refine nx_then ?_
                      refine gw_cond rfl (fun hh => ?_) (fun hh => ?_)
                      · have h8 : (inB od 0 100) = false := by simpa using hh
                        clear hh
                        refine gw_seq ?_
                        refine gw_region ?_
                        refine wl_ov (ov_assign rfl) rfl ?_
                        refine wl_nil ?_
                        refine nx_then ?_
                        refine gw_ret ?_
                        refine nx_blk_ret ?_
                        refine nx_blk_ret ?_
                        refine nx_then_ret ?_
                        refine nx_then_ret ?_
                        refine nx_blk_ret ?_
                        refine nx_then_ret ?_
                        have hE : bookE (prevOf l k) ⟨ke, cl, fr, tt, ma, od⟩ = 1 := by unfold bookE; simp [h2, h3, hO, h4, h5, h6, h7, h8]
                        refine nx_ret1 rfl rfl fun wx hm => ?_
                        exact ⟨ret_int (by rw [hinv.2, hat, if_neg (by rw [hE]; decide), hE]), hm.g⟩
                      · have h8 : (inB od 0 100) = true := by simpa using hh
                        clear hh
                        refine gw_skip ?_
                        refine nx_blk_nrm ?_
                        refine nx_blk_nrm ?_
                        refine nx_then ?_
                        refine gw_region ?_
                        have hE : bookE (prevOf l k) ⟨ke, cl, fr, tt, ma, od⟩ = 0 := by unfold bookE; simp [h2, h3, hO, h4, h5, h6, h7, h8]
                        refine wl_ov (ov_add rfl rfl (by omega) (by omega)) rfl ?_
                        refine wl_ov (ov_move rfl) rfl ?_
                        refine wl_nil ?_
                        exact nx_round (k + 1) ⟨by omega, by rw [hinv.2, hat, if_pos hE]⟩ (by omega) ⟨rfl, rfl, rfl, (some_int (by omega)), trivial⟩ (fun _ hm => hm.pick [] [] [0] rfl rfl)
    · have hk : ¬ (((k : Nat) : Int) < ((n : Nat) : Int)) := by simpa using hh
      clear hh
      refine gw_exit ?_
      refine nx_then_exit ?_
      refine nx_then_exit ?_
      refine nx_blk_here ?_
      refine nx_then ?_
      refine gw_seq ?_
      refine gw_region ?_
      refine wl_ov (ov_assign rfl) rfl ?_
      refine wl_nil ?_
      refine nx_then ?_
      refine gw_ret ?_
      refine nx_ret1 rfl rfl fun wx hm => ?_
      exact ⟨ret_int (by rw [hinv.2, scanE_end _ _ _ _ (by omega)]), hm.g⟩

set_option maxRecDepth 100000 in
set_option maxHeartbeats 1000000 in
theorem bookingForm_any (l : List Bk) (A : Option Addr) (n c : Nat) (w : World) (hl : SlT bkEnc 6 46 w A n l) (hok : ∀ b ∈ l, BkOk b) (hn : n ≤ 1000000) :
    Calls Tryd.prog 28 #[.slice A n c] w (GotE w (formE l)) := by
  refine gw_enter ⟨69, w, none, []⟩ Tryd.func28 rfl Tryd.ntmps28 rfl (mem0 (X := [SlOld bkEnc 6 46 w.heap.size none A n l]) (allF_cons hl.old allF_nil) (allL_cons SlOld.lasts allL_nil)) ?_
  refine gw_seq ?_
  refine gw_region ?_
  have hlen := hl.len
  refine wl_ov (ov_assign rfl) rfl ?_
  refine wl_nil ?_
  refine nx_then ?_
  refine gw_seq ?_
  refine gw_seq ?_
  refine gw_region ?_
  refine wl_ov (ov_move rfl) rfl ?_
  refine wl_ov (ov_len es55 rfl) rfl ?_
  refine wl_ov (ov_gtr rfl rfl) rfl ?_
  refine wl_nil ?_
  refine nx_then ?_
  refine gw_cond rfl (fun hh => ?_) (fun hh => ?_)
  · have h1 : 500 < ((n : Nat) : Int) := by simpa using hh
    clear hh
    refine gw_seq ?_
    refine gw_region ?_
    refine wl_ov (ov_assign rfl) rfl ?_
    refine wl_nil ?_
    refine nx_then ?_
    refine gw_ret ?_
    refine nx_then_ret ?_
    refine nx_ret1 rfl rfl fun wx hm => ?_
    exact ⟨ret_int (by unfold formE; rw [if_pos (by omega)]), hm.g⟩
  · have h1 : ¬ (500 < ((n : Nat) : Int)) := by simpa using hh
    clear hh
    refine gw_skip ?_
    refine nx_then ?_
    refine gw_seq ?_
    refine gw_region ?_
    refine wl_ov (ov_assign rfl) rfl ?_
    refine wl_nil ?_
    refine nx_then ?_
    refine gw_seq ?_
    refine gw_seq ?_
    refine gw_region ?_
    refine wl_ov (ov_move rfl) rfl ?_
    refine wl_ov (ov_len es55 rfl) rfl ?_
    refine wl_ov (ov_move rfl) rfl ?_
    refine wl_nil ?_
    refine nx_then ?_
    refine gw_block ?_
    refine gw_loop (γ := Nat) (fun (k : Nat) => k ≤ n ∧ formE l = scanE bookE (prevOf l k) (l.drop k)) (fun (k : Nat) => [(3, .string (prevK l k)), (9, .slice A n c), (10, .int .i64 ((n : Nat) : Int)), (11, .int .i64 ((k : Nat) : Int))]) (fun (k : Nat) => fun _ => True) (fun (k : Nat) => []) (fun (k : Nat) => []) (fun (k : Nat) => [SlOld bkEnc 6 46 w.heap.size none A n l]) (fun (k : Nat) => n - k) 0 ⟨Nat.zero_le _, by unfold formE; rw [if_neg (by omega)]; rfl⟩ ⟨rfl, rfl, rfl, rfl, trivial⟩ (fun _ hm => hm.pick [] [] [0] rfl rfl) ?_
    intro k hinv
    replace hinv : k ≤ n ∧ formE l = scanE bookE (prevOf l k) (l.drop k) := hinv
    refine gw_seq ?_
    refine gw_region ?_
    refine wl_ov (ov_lss rfl rfl) rfl ?_
    refine wl_nil ?_
    refine nx_then ?_
    refine gw_seq ?_
    refine gw_cond rfl (fun hh => ?_) (fun hh => ?_)
    · have hk : ((k : Nat) : Int) < ((n : Nat) : Int) := by simpa using hh
      clear hh
      refine gw_skip ?_
      refine nx_then ?_
      refine gw_seq ?_
      refine gw_block ?_
      refine gw_seq ?_
      refine gw_region ?_
      obtain ⟨b, off, hA, _, _⟩ := hl.get (by omega)
      subst hA
      obtain ⟨x, hx⟩ : ∃ x, l[k]? = some x := ⟨_, List.getElem?_eq_getElem (by omega)⟩
      obtain ⟨ke, cl, fr, tt, ma, od⟩ := x
      have hat := scanE_at bookE l k _ hx
      obtain ⟨hk1, hk2⟩ := hok _ (List.mem_of_getElem? hx)
      have hk1 : ke.size ≤ 1000000 := hk1
      have hk2 : cl.size ≤ 1000000 := hk2
      refine wl_ov (ov_index (j := k) es55 rfl rfl (by omega)) rfl ?_
      refine wl_ov (ov_elem rz46 rfl (fun _ hm => (hm.fact 0 rfl).1) hx rfl rfl) rfl ?_
      refine wl_alloc zc46 rfl fun g1 => ?_
      refine wl_stores (cs' := [.string ke, .string cl, .int .i64 fr, .int .i64 tt, .int .i64 ma, .int .i64 od]) 0 rz46 rfl rfl rfl rfl rfl rfl rfl rfl ?_
      refine wl_nil ?_
      refine nx_then ?_
      refine gw_seq ?_
      refine gw_block ?_
      refine gw_seq ?_
      refine gw_region ?_
      refine wl_ov (ov_field fo46_0 rfl rfl) rfl ?_
      refine wl_ov (ov_load sc9 rfl (fun _ hm => hm.blkI 0 rfl) rfl) rfl ?_
      refine wl_callv rfl cb102 rfl rfl (fun wx hm => (key_any _ wx (by omega))) ?_
      refine wl_ov (ov_un_not rfl) rfl ?_
      refine wl_ov (ov_move rfl) rfl ?_
      rcases Bool.eq_false_or_eq_true (!(keyB ke)) with h2 | h2
      · refine wl_set 20 rfl (congrArg Value.bool h2) ?_
        refine wl_guard_off rfl rfl rfl (by decide) rfl ?_
        refine wl_guard_off rfl rfl rfl (by decide) rfl ?_
        refine wl_guard_off rfl rfl rfl (by decide) rfl ?_
        refine wl_guard_off rfl rfl rfl (by decide) rfl ?_
        refine wl_ov (ov_pick_t rfl rfl) rfl ?_
        refine wl_ov (ov_assign rfl) rfl ?_
        refine wl_nil ?_
        refine nx_then ?_
        refine gw_cond rfl (fun _ => ?_) (fun hh => by cases hh)
        refine gw_seq ?_
        refine gw_region ?_
        refine wl_ov (ov_assign rfl) rfl ?_
        refine wl_nil ?_
        refine nx_then ?_
        refine gw_ret ?_
        refine nx_blk_ret ?_
        refine nx_then_ret ?_
        refine nx_blk_ret ?_
        refine nx_then_ret ?_
        refine nx_then_ret ?_
        refine nx_blk_ret ?_
        refine nx_then_ret ?_
        have hE : bookE (prevOf l k) ⟨ke, cl, fr, tt, ma, od⟩ = 5 := by unfold bookE; simp [h2]
        refine nx_ret1 rfl rfl fun wx hm => ?_
        exact ⟨ret_int (by rw [hinv.2, hat, if_neg (by rw [hE]; decide), hE]), hm.g⟩
      · refine wl_set 20 rfl (congrArg Value.bool h2) ?_
        refine wl_guard_on rfl rfl rfl ?_
        refine wl_ov (ov_field fo46_1 rfl rfl) rfl ?_
        refine wl_guard_on rfl rfl rfl ?_
        refine wl_ov (ov_load sc9 rfl (fun _ hm => hm.blkI 0 rfl) rfl) rfl ?_
        refine wl_guard_on rfl rfl rfl ?_
        refine wl_callv rfl cb102 rfl rfl (fun wx hm => (key_any _ wx (by omega))) ?_
        refine wl_guard_on rfl rfl rfl ?_
        refine wl_ov (ov_un_not rfl) rfl ?_
        refine wl_ov (ov_pick_f rfl rfl) rfl ?_
        refine wl_ov (ov_assign rfl) rfl ?_
        refine wl_nil ?_
        refine nx_then ?_
        refine gw_cond rfl (fun hh => ?_) (fun hh => ?_)
        · have h3 : (keyB cl) = false := by simpa using hh
          clear hh
          refine gw_seq ?_
          refine gw_region ?_
          refine wl_ov (ov_assign rfl) rfl ?_
          refine wl_nil ?_
          refine nx_then ?_
          refine gw_ret ?_
          refine nx_blk_ret ?_
          refine nx_then_ret ?_
          refine nx_blk_ret ?_
          refine nx_then_ret ?_
          refine nx_then_ret ?_
          refine nx_blk_ret ?_
          refine nx_then_ret ?_
          have hE : bookE (prevOf l k) ⟨ke, cl, fr, tt, ma, od⟩ = 5 := by unfold bookE; simp [h2, h3]
          refine nx_ret1 rfl rfl fun wx hm => ?_
          exact ⟨ret_int (by rw [hinv.2, hat, if_neg (by rw [hE]; decide), hE]), hm.g⟩
        · have h3 : (keyB cl) = true := by simpa using hh
          clear hh
          refine gw_seq ?_
          refine gw_region ?_
          refine wl_ov (ov_field fo46_0 rfl rfl) rfl ?_
          refine wl_ov (ov_load sc9 rfl (fun _ hm => hm.blkI 0 rfl) rfl) rfl ?_
          refine wl_ov (ov_move rfl) rfl ?_
          refine wl_ov (ov_sleq rfl rfl) rfl ?_
          refine wl_ov (ov_assign rfl) rfl ?_
          refine wl_nil ?_
          refine nx_then ?_
          refine gw_cond rfl (fun hh => ?_) (fun hh => ?_)
          · have h9 : (Op.bytesLess ke.toList (prevK l k).toList || ke.toList == (prevK l k).toList) = true := by simpa using hh
            clear hh
            refine gw_seq ?_
            refine gw_region ?_
            have hO : leO (prevOf l k) ⟨ke, cl, fr, tt, ma, od⟩ = true := (leO_prevK (b := ⟨ke, cl, fr, tt, ma, od⟩) (by simpa using h2)).symm.trans h9
            refine wl_ov (ov_assign rfl) rfl ?_
            refine wl_nil ?_
            refine nx_then ?_
            refine gw_ret ?_
            refine nx_blk_ret ?_
            refine nx_then_ret ?_
            refine nx_blk_ret ?_
            refine nx_then_ret ?_
            refine nx_then_ret ?_
            refine nx_blk_ret ?_
            refine nx_then_ret ?_
            have hE : bookE (prevOf l k) ⟨ke, cl, fr, tt, ma, od⟩ = 7 := by unfold bookE; simp [h2, h3, hO]
            refine nx_ret1 rfl rfl fun wx hm => ?_
            exact ⟨ret_int (by rw [hinv.2, hat, if_neg (by rw [hE]; decide), hE]), hm.g⟩
          · have h9 : (Op.bytesLess ke.toList (prevK l k).toList || ke.toList == (prevK l k).toList) = false := by simpa using hh
            clear hh
            refine gw_seq ?_
            refine gw_region ?_
            have hO : leO (prevOf l k) ⟨ke, cl, fr, tt, ma, od⟩ = false := (leO_prevK (b := ⟨ke, cl, fr, tt, ma, od⟩) (by simpa using h2)).symm.trans h9
            refine wl_ov (ov_field fo46_2 rfl rfl) rfl ?_
            refine wl_ov (ov_field fo28_0 rfl rfl) rfl ?_
            refine wl_ov (ov_load sc3 rfl (fun _ hm => hm.blkI 0 rfl) rfl) rfl ?_
            refine wl_ov (ov_lss rfl rfl) rfl ?_
            refine wl_ov (ov_move rfl) rfl ?_
            rcases Bool.eq_false_or_eq_true (decide (fr < 0)) with h4 | h4
            · refine wl_set 36 rfl (congrArg Value.bool h4) ?_
              replace h4 := of_decide_eq_true h4
              refine wl_guard_off rfl rfl rfl (by decide) rfl ?_
              refine wl_guard_off rfl rfl rfl (by decide) rfl ?_
              refine wl_guard_off rfl rfl rfl (by decide) rfl ?_
              refine wl_guard_off rfl rfl rfl (by decide) rfl ?_
              refine wl_guard_off rfl rfl rfl (by decide) rfl ?_
              refine wl_guard_off rfl rfl rfl (by decide) rfl ?_
              refine wl_guard_off rfl rfl rfl (by decide) rfl ?_
              refine wl_ov (ov_pick_t rfl rfl) rfl ?_
              refine wl_ov (ov_move rfl) rfl ?_
              refine wl_guard_off rfl rfl rfl (by decide) rfl ?_
              refine wl_guard_off rfl rfl rfl (by decide) rfl ?_
              refine wl_guard_off rfl rfl rfl (by decide) rfl ?_
              refine wl_guard_off rfl rfl rfl (by decide) rfl ?_
              refine wl_ov (ov_pick_t rfl rfl) rfl ?_
              refine wl_ov (ov_move rfl) rfl ?_
              refine wl_guard_off rfl rfl rfl (by decide) rfl ?_
              refine wl_guard_off rfl rfl rfl (by decide) rfl ?_
              refine wl_guard_off rfl rfl rfl (by decide) rfl ?_
              refine wl_guard_off rfl rfl rfl (by decide) rfl ?_
              refine wl_guard_off rfl rfl rfl (by decide) rfl ?_
              refine wl_guard_off rfl rfl rfl (by decide) rfl ?_
              refine wl_guard_off rfl rfl rfl (by decide) rfl ?_
              refine wl_ov (ov_pick_t rfl rfl) rfl ?_
              refine wl_ov (ov_move rfl) rfl ?_
              refine wl_guard_off rfl rfl rfl (by decide) rfl ?_
              refine wl_guard_off rfl rfl rfl (by decide) rfl ?_
              refine wl_guard_off rfl rfl rfl (by decide) rfl ?_
              refine wl_guard_off rfl rfl rfl (by decide) rfl ?_
              refine wl_ov (ov_pick_t rfl rfl) rfl ?_
              refine wl_ov (ov_assign rfl) rfl ?_
              refine wl_nil ?_
              refine nx_then ?_
              refine gw_cond rfl (fun _ => ?_) (fun hh => by cases hh)
              refine gw_seq ?_
              refine gw_region ?_
              refine wl_ov (ov_assign rfl) rfl ?_
              refine wl_nil ?_
              refine nx_then ?_
              refine gw_ret ?_
              refine nx_blk_ret ?_
              refine nx_then_ret ?_
              refine nx_blk_ret ?_
              refine nx_then_ret ?_
              refine nx_then_ret ?_
              refine nx_blk_ret ?_
              refine nx_then_ret ?_
              have hE : bookE (prevOf l k) ⟨ke, cl, fr, tt, ma, od⟩ = 1 := by unfold bookE; simp [h2, h3, hO, h4]
              refine nx_ret1 rfl rfl fun wx hm => ?_
              exact ⟨ret_int (by rw [hinv.2, hat, if_neg (by rw [hE]; decide), hE]), hm.g⟩
            · refine wl_set 36 rfl (congrArg Value.bool h4) ?_
              replace h4 := of_decide_eq_false h4
              refine wl_guard_on rfl rfl rfl ?_
              refine wl_ov (ov_field fo46_2 rfl rfl) rfl ?_
              refine wl_guard_on rfl rfl rfl ?_
              refine wl_ov (ov_field fo28_0 rfl rfl) rfl ?_
              refine wl_guard_on rfl rfl rfl ?_
              refine wl_ov (ov_load sc3 rfl (fun _ hm => hm.blkI 0 rfl) rfl) rfl ?_
              refine wl_guard_on rfl rfl rfl ?_
              refine wl_ov (ov_field fo46_2 rfl rfl) rfl ?_
              refine wl_guard_on rfl rfl rfl ?_
              refine wl_ov (ov_field fo28_1 rfl rfl) rfl ?_
              refine wl_guard_on rfl rfl rfl ?_
              refine wl_ov (ov_load sc3 rfl (fun _ hm => hm.blkI 0 rfl) rfl) rfl ?_
              refine wl_guard_on rfl rfl rfl ?_
              refine wl_ov (ov_geq rfl rfl) rfl ?_
              refine wl_ov (ov_pick_f rfl rfl) rfl ?_
              refine wl_ov (ov_move rfl) rfl ?_
              rcases Bool.eq_false_or_eq_true (decide (tt ≤ fr)) with h5 | h5
              · refine wl_set 45 rfl (congrArg Value.bool h5) ?_
                replace h5 := of_decide_eq_true h5
                refine wl_guard_off rfl rfl rfl (by decide) rfl ?_
                refine wl_guard_off rfl rfl rfl (by decide) rfl ?_
                refine wl_guard_off rfl rfl rfl (by decide) rfl ?_
                refine wl_guard_off rfl rfl rfl (by decide) rfl ?_
                refine wl_ov (ov_pick_t rfl rfl) rfl ?_
                refine wl_ov (ov_move rfl) rfl ?_
                refine wl_guard_off rfl rfl rfl (by decide) rfl ?_
                refine wl_guard_off rfl rfl rfl (by decide) rfl ?_
                refine wl_guard_off rfl rfl rfl (by decide) rfl ?_
                refine wl_guard_off rfl rfl rfl (by decide) rfl ?_
                refine wl_guard_off rfl rfl rfl (by decide) rfl ?_
                refine wl_guard_off rfl rfl rfl (by decide) rfl ?_
                refine wl_guard_off rfl rfl rfl (by decide) rfl ?_
                refine wl_ov (ov_pick_t rfl rfl) rfl ?_
                refine wl_ov (ov_move rfl) rfl ?_
                refine wl_guard_off rfl rfl rfl (by decide) rfl ?_
                refine wl_guard_off rfl rfl rfl (by decide) rfl ?_
                refine wl_guard_off rfl rfl rfl (by decide) rfl ?_
                refine wl_guard_off rfl rfl rfl (by decide) rfl ?_
                refine wl_ov (ov_pick_t rfl rfl) rfl ?_
                refine wl_ov (ov_assign rfl) rfl ?_
                refine wl_nil ?_
                refine nx_then ?_
                refine gw_cond rfl (fun _ => ?_) (fun hh => by cases hh)
                refine gw_seq ?_
                refine gw_region ?_
                refine wl_ov (ov_assign rfl) rfl ?_
                refine wl_nil ?_
                refine nx_then ?_
                refine gw_ret ?_
                refine nx_blk_ret ?_
                refine nx_then_ret ?_
                refine nx_blk_ret ?_
                refine nx_then_ret ?_
                refine nx_then_ret ?_
                refine nx_blk_ret ?_
                refine nx_then_ret ?_
                have hE : bookE (prevOf l k) ⟨ke, cl, fr, tt, ma, od⟩ = 1 := by unfold bookE; simp [h2, h3, hO, h4, h5]
                refine nx_ret1 rfl rfl fun wx hm => ?_
                exact ⟨ret_int (by rw [hinv.2, hat, if_neg (by rw [hE]; decide), hE]), hm.g⟩
              · refine wl_set 45 rfl (congrArg Value.bool h5) ?_
                replace h5 := of_decide_eq_false h5
                refine wl_guard_on rfl rfl rfl ?_
                refine wl_ov (ov_field fo46_2 rfl rfl) rfl ?_
                refine wl_guard_on rfl rfl rfl ?_
                refine wl_ov (ov_field fo28_1 rfl rfl) rfl ?_
                refine wl_guard_on rfl rfl rfl ?_
                refine wl_ov (ov_load sc3 rfl (fun _ hm => hm.blkI 0 rfl) rfl) rfl ?_
                refine wl_guard_on rfl rfl rfl ?_
                refine wl_ov (ov_gtr rfl rfl) rfl ?_
                refine wl_ov (ov_pick_f rfl rfl) rfl ?_
                refine wl_ov (ov_move rfl) rfl ?_
                rcases Bool.eq_false_or_eq_true (decide (5761439 < tt)) with h6 | h6
                · refine wl_set 51 rfl (congrArg Value.bool h6) ?_
                  replace h6 := of_decide_eq_true h6
                  refine wl_guard_off rfl rfl rfl (by decide) rfl ?_
                  refine wl_guard_off rfl rfl rfl (by decide) rfl ?_
                  refine wl_guard_off rfl rfl rfl (by decide) rfl ?_
                  refine wl_guard_off rfl rfl rfl (by decide) rfl ?_
                  refine wl_guard_off rfl rfl rfl (by decide) rfl ?_
                  refine wl_guard_off rfl rfl rfl (by decide) rfl ?_
                  refine wl_guard_off rfl rfl rfl (by decide) rfl ?_
                  refine wl_ov (ov_pick_t rfl rfl) rfl ?_
                  refine wl_ov (ov_move rfl) rfl ?_
                  refine wl_guard_off rfl rfl rfl (by decide) rfl ?_
                  refine wl_guard_off rfl rfl rfl (by decide) rfl ?_
                  refine wl_guard_off rfl rfl rfl (by decide) rfl ?_
                  refine wl_guard_off rfl rfl rfl (by decide) rfl ?_
                  refine wl_ov (ov_pick_t rfl rfl) rfl ?_
                  refine wl_ov (ov_assign rfl) rfl ?_
                  refine wl_nil ?_
                  refine nx_then ?_
                  refine gw_cond rfl (fun _ => ?_) (fun hh => by cases hh)
                  refine gw_seq ?_
                  refine gw_region ?_
                  refine wl_ov (ov_assign rfl) rfl ?_
                  refine wl_nil ?_
                  refine nx_then ?_
                  refine gw_ret ?_
                  refine nx_blk_ret ?_
                  refine nx_then_ret ?_
                  refine nx_blk_ret ?_
                  refine nx_then_ret ?_
                  refine nx_then_ret ?_
                  refine nx_blk_ret ?_
                  refine nx_then_ret ?_
                  have hE : bookE (prevOf l k) ⟨ke, cl, fr, tt, ma, od⟩ = 1 := by unfold bookE; simp [h2, h3, hO, h4, h5, h6]
                  refine nx_ret1 rfl rfl fun wx hm => ?_
                  exact ⟨ret_int (by rw [hinv.2, hat, if_neg (by rw [hE]; decide), hE]), hm.g⟩
                · refine wl_set 51 rfl (congrArg Value.bool h6) ?_
                  replace h6 := of_decide_eq_false h6
                  refine wl_guard_on rfl rfl rfl ?_
                  refine wl_ov (ov_field fo46_3 rfl rfl) rfl ?_
                  refine wl_guard_on rfl rfl rfl ?_
                  refine wl_ov (ov_load sc3 rfl (fun _ hm => hm.blkI 0 rfl) rfl) rfl ?_
                  refine wl_guard_on rfl rfl rfl ?_
                  refine wl_ov (ov_field fo46_2 rfl rfl) rfl ?_
                  refine wl_guard_on rfl rfl rfl ?_
                  refine wl_ov (ov_field fo28_0 rfl rfl) rfl ?_
                  refine wl_guard_on rfl rfl rfl ?_
                  refine wl_ov (ov_load sc3 rfl (fun _ hm => hm.blkI 0 rfl) rfl) rfl ?_
                  refine wl_guard_on rfl rfl rfl ?_
                  refine wl_callw rfl cb101 rfl rfl (fun wx hm => (rin_any _ _ _ wx)) ?_
                  refine wl_guard_on rfl rfl rfl ?_
                  refine wl_ov (ov_un_not rfl) rfl ?_
                  refine wl_ov (ov_pick_f rfl rfl) rfl ?_
                  refine wl_ov (ov_move rfl) rfl ?_
                  rcases Bool.eq_false_or_eq_true (!(inB ma 0 fr)) with h7 | h7
                  · refine wl_set 60 rfl (congrArg Value.bool h7) ?_
                    refine wl_guard_off rfl rfl rfl (by decide) rfl ?_
                    refine wl_guard_off rfl rfl rfl (by decide) rfl ?_
                    refine wl_guard_off rfl rfl rfl (by decide) rfl ?_
                    refine wl_guard_off rfl rfl rfl (by decide) rfl ?_
                    refine wl_ov (ov_pick_t rfl rfl) rfl ?_
                    refine wl_ov (ov_assign rfl) rfl ?_
                    refine wl_nil ?_
                    refine nx_then ?_
                    refine gw_cond rfl (fun _ => ?_) (fun hh => by cases hh)
                    refine gw_seq ?_
                    refine gw_region ?_
                    refine wl_ov (ov_assign rfl) rfl ?_
                    refine wl_nil ?_
                    refine nx_then ?_
                    refine gw_ret ?_
                    refine nx_blk_ret ?_
                    refine nx_then_ret ?_
                    refine nx_blk_ret ?_
                    refine nx_then_ret ?_
                    refine nx_then_ret ?_
                    refine nx_blk_ret ?_
                    refine nx_then_ret ?_
                    have hE : bookE (prevOf l k) ⟨ke, cl, fr, tt, ma, od⟩ = 1 := by unfold bookE; simp [h2, h3, hO, h4, h5, h6, h7]
                    refine nx_ret1 rfl rfl fun wx hm => ?_
                    exact ⟨ret_int (by rw [hinv.2, hat, if_neg (by rw [hE]; decide), hE]), hm.g⟩
                  · refine wl_set 60 rfl (congrArg Value.bool h7) ?_
                    refine wl_guard_on rfl rfl rfl ?_
                    refine wl_ov (ov_field fo46_4 rfl rfl) rfl ?_
                    refine wl_guard_on rfl rfl rfl ?_
                    refine wl_ov (ov_load sc3 rfl (fun _ hm => hm.blkI 0 rfl) rfl) rfl ?_
                    refine wl_guard_on rfl rfl rfl ?_
                    refine wl_callw rfl cb101 rfl rfl (fun wx hm => (rin_any _ _ _ wx)) ?_
                    refine wl_guard_on rfl rfl rfl ?_
                    refine wl_ov (ov_un_not rfl) rfl ?_
                    refine wl_ov (ov_pick_f rfl rfl) rfl ?_
                    refine wl_ov (ov_assign rfl) rfl ?_
                    refine wl_nil ?_
                    refine nx_then ?_
                    refine gw_cond rfl (fun hh => ?_) (fun hh => ?_)
                    · have h8 : (inB od 0 100) = false := by simpa using hh
                      clear hh
                      refine gw_seq ?_
                      refine gw_region ?_
                      refine wl_ov (ov_assign rfl) rfl ?_
                      refine wl_nil ?_
                      refine nx_then ?_
                      refine gw_ret ?_
                      refine nx_blk_ret ?_
                      refine nx_then_ret ?_
                      refine nx_blk_ret ?_
                      refine nx_then_ret ?_
                      refine nx_then_ret ?_
                      refine nx_blk_ret ?_
                      refine nx_then_ret ?_
                      have hE : bookE (prevOf l k) ⟨ke, cl, fr, tt, ma, od⟩ = 1 := by unfold bookE; simp [h2, h3, hO, h4, h5, h6, h7, h8]
                      refine nx_ret1 rfl rfl fun wx hm => ?_
                      exact ⟨ret_int (by rw [hinv.2, hat, if_neg (by rw [hE]; decide), hE]), hm.g⟩
                    · have h8 : (inB od 0 100) = true := by simpa using hh
                      clear hh
                      refine gw_skip ?_
                      refine nx_blk_nrm ?_
                      refine nx_then ?_
                      refine gw_region ?_
                      have hE : bookE (prevOf l k) ⟨ke, cl, fr, tt, ma, od⟩ = 0 := by unfold bookE; simp [h2, h3, hO, h4, h5, h6, h7, h8]
                      refine wl_ov (ov_field fo46_0 rfl rfl) rfl ?_
                      refine wl_ov (ov_load sc9 rfl (fun _ hm => hm.blkI 0 rfl) rfl) rfl ?_
                      refine wl_ov (ov_assign rfl) rfl ?_
                      refine wl_nil ?_
                      refine nx_blk_nrm ?_
                      refine nx_then ?_
                      refine gw_region ?_
                      refine wl_ov (ov_add rfl rfl (by omega) (by omega)) rfl ?_
                      refine wl_ov (ov_move rfl) rfl ?_
                      refine wl_nil ?_
                      exact nx_round (k + 1) ⟨by omega, by rw [hinv.2, hat, if_pos hE]⟩ (by omega) ⟨(congrArg (fun z => some (Value.string z)) (prevK_succ hx).symm), rfl, rfl, (some_int (by omega)), trivial⟩ (fun _ hm => hm.pick [] [] [0] rfl rfl)
    · have hk : ¬ (((k : Nat) : Int) < ((n : Nat) : Int)) := by simpa using hh
      clear hh
      refine gw_exit ?_
      refine nx_then_exit ?_
      refine nx_then_exit ?_
      refine nx_blk_here ?_
      refine nx_then ?_
      refine gw_seq ?_
      refine gw_region ?_
      refine wl_ov (ov_assign rfl) rfl ?_
      refine wl_nil ?_
      refine nx_then ?_
      refine gw_ret ?_
      refine nx_ret1 rfl rfl fun wx hm => ?_
      exact ⟨ret_int (by rw [hinv.2, scanE_end _ _ _ _ (by omega)]), hm.g⟩

end Go.Proofs.YtljnekobfjpfaaaDoor
/- Hires in a list: CheckAll, HiresFault, when a leg lasts, the generator Hires. -/
namespace Go.Proofs.YtljnekobfjpfaaaDoor
open Go.RowKit

/-- A hire as it lies in a list: its legs lie elsewhere. -/
structure Hs where
  key : ByteArray
  driver : ByteArray
  fr : Int
  to_ : Int
  A : Option Addr
  n : Nat
  c : Nat
  legs : List Lg
def hsEnc (h : Hs) : List Value := [.string h.key, .string h.driver, .int .i64 h.fr, .int .i64 h.to_, .slice h.A h.n h.c]
theorem hs_len (h : Hs) : (hsEnc h).length = 5 := rfl
def Hs.hr (h : Hs) : Hr := ⟨h.key, h.driver, h.fr, h.to_, h.legs⟩
def HsOk (h : Hs) : Prop := HrOk h.key h.driver h.legs ∧ h.n ≤ 1000
/-- The legs of all hires of the list. -/
def Legs (l : List Hs) (w : World) : Prop := ∀ h ∈ l, SlT lgEnc 9 138 w h.A h.n h.legs
def LegsOld (N : Nat) (row : Option Nat) (l : List Hs) (w : World) : Prop := ∀ h ∈ l, SlOld lgEnc 9 138 N row h.A h.n h.legs w
theorem LegsOld.lasts {N : Nat} {row : Option Nat} {Tt : List TypeId} {l : List Hs} : Lasts2 N row Tt (LegsOld N row l) := lasts_all fun _ _ => SlOld.lasts
theorem Legs.lasts {N : Nat} {row : Option Nat} {Tt : List TypeId} {l : List Hs} (hT : Tt.contains 138 = true) : Lasts2 N row Tt (Legs l) := lasts_all fun _ _ => SlT.lasts2 hT
theorem Legs.old {l : List Hs} {w : World} (h : Legs l w) : LegsOld w.heap.size none l w := fun x hx => (h x hx).old
theorem Legs.snoc {l : List Hs} {x : Hs} {w : World} (h : Legs l w) (hx : SlT lgEnc 9 138 w x.A x.n x.legs) : Legs (l ++ [x]) w := fun y hy => by
  rcases List.mem_append.1 hy with hy | hy
  · exact h y hy
  · rw [List.mem_singleton.1 hy]; exact hx
theorem hs_snoc {l : List Hs} {x : Hs} (h : ∀ y ∈ l, HsOk y) (hx : HrOk x.key x.driver x.legs) (hn : x.n ≤ 1000) : ∀ y ∈ l ++ [x], HsOk y := fun y hy => by
  rcases List.mem_append.1 hy with hy | hy
  · exact h y hy
  · rw [List.mem_singleton.1 hy]; exact ⟨hx, hn⟩
def leH (p : Option Hs) (b : Hs) : Bool := match p with
  | none => false
  | some q => leB b.key q.key
def hsE (p : Option Hs) (b : Hs) : Int := if hireE b.hr = 0 then (if leH p b then 7 else 0) else hireE b.hr
def hiresE (l : List Hs) : Int := if 500 < l.length then 2 else scanE hsE none l
def prevH (l : List Hs) (k : Nat) : ByteArray := match prevOf l k with
  | none => ⟨#[]⟩
  | some q => q.key
theorem prevH_succ {l : List Hs} {k : Nat} {x : Hs} (h : l[k]? = some x) : prevH l (k + 1) = x.key := by
  unfold prevH prevOf; rw [if_neg (by omega), Nat.add_sub_cancel, h]
theorem hireE_key {h : Hr} (h0 : hireE h = 0) : keyB h.key = true := by
  cases hk : keyB h.key with
  | true => rfl
  | false =>
    obtain ⟨key, driver, fr, to_, l⟩ := h
    have hk2 : keyB key = false := hk
    have := hireE_stop (key := key) (driver := driver) (fr := fr) (to_ := to_) (l := l) (e := 5) (by rw [hk2]; rfl) (by decide)
    rw [this] at h0; cases h0
theorem prevH_le {l : List Hs} {k : Nat} {b : Hs} (h : keyB b.key = true) : leB b.key (prevH l k) = leH (prevOf l k) b := by
  unfold prevH leH
  cases prevOf l k with
  | none => exact key_low h
  | some q => rfl
def stEnc1 (x : ByteArray) : List Value := [.string x]
theorem stEnc1_len (x : ByteArray) : (stEnc1 x).length = 1 := rfl
/-- When a leg's vehicle is taken. -/
def lastA (g : Lg) : Int := g.out.at_
def lastB (g : Lg) : Int := if g.inn.at_ = -1 then 5761440 else g.inn.at_

set_option maxRecDepth 100000 in
set_option maxHeartbeats 400000 in
theorem lasts_any (gv : ByteArray) (oa : Int) (os : ByteArray) (om of ia : Int) (is_ : ByteArray) (im if_ : Int) (w : World) :
    Calls Tryd.prog 126 #[.agg #[.string gv, .int .i64 oa, .string os, .int .i64 om, .int .i64 of, .int .i64 ia, .string is_, .int .i64 im, .int .i64 if_]] w (fun e w' => e = .returned (.agg #[.int .i64 (lastA ⟨gv, ⟨oa, os, om, of⟩, ⟨ia, is_, im, if_⟩⟩), .int .i64 (lastB ⟨gv, ⟨oa, os, om, of⟩, ⟨ia, is_, im, if_⟩⟩)]) ∧ w.grownBy w' none) := by
  refine gw_enter ⟨18, w, none, []⟩ Tryd.func126 rfl Tryd.ntmps126 rfl (mem0 (X := []) allF_nil allL_nil) ?_
  refine gw_seq ?_
  refine gw_region ?_
  refine wl_box rfl rfl rfl fun g1 => ?_
  refine wl_alloc zc28 rfl fun g2 => ?_
  refine wl_nil ?_
  refine nx_then ?_
  refine gw_seq ?_
  refine gw_seq ?_
  refine gw_region ?_
  refine wl_ov (ov_field fo138_2 rfl rfl) rfl ?_
  refine wl_ov (ov_field fo31_0 rfl rfl) rfl ?_
  refine wl_ov (ov_load sc3 rfl (fun _ hm => hm.blkI 1 rfl) rfl) rfl ?_
  refine wl_ov (ov_eql rfl rfl) rfl ?_
  refine wl_nil ?_
  refine nx_then ?_
  refine gw_cond rfl (fun hh => ?_) (fun hh => ?_)
  · have h : ia = -1 := by simpa using hh
    clear hh
    refine gw_seq ?_
    refine gw_region ?_
    refine wl_ov (ov_field fo138_1 rfl rfl) rfl ?_
    refine wl_ov (ov_field fo31_0 rfl rfl) rfl ?_
    refine wl_ov (ov_load sc3 rfl (fun _ hm => hm.blkI 1 rfl) rfl) rfl ?_
    refine wl_ov (ov_build (cs := [.int .i64 oa, .int .i64 5761440]) rfl (by kernel_rfl)) rfl ?_
    refine wl_stores (cs' := [.int .i64 oa, .int .i64 5761440]) 0 rz28 rfl rfl rfl rfl rfl rfl rfl rfl ?_
    refine wl_nil ?_
    refine nx_then ?_
    refine gw_ret ?_
    refine nx_then_ret ?_
    refine nx_retc 0 rfl rz28 rfl rfl rfl fun wx hm => ?_
    refine ⟨?_, hm.g⟩
    unfold lastA lastB
    rw [if_pos (show ia = -1 from h)]
  · have h : ¬ (ia = -1) := by simpa using hh
    clear hh
    refine gw_skip ?_
    refine nx_then ?_
    refine gw_seq ?_
    refine gw_region ?_
    refine wl_ov (ov_field fo138_1 rfl rfl) rfl ?_
    refine wl_ov (ov_field fo31_0 rfl rfl) rfl ?_
    refine wl_ov (ov_load sc3 rfl (fun _ hm => hm.blkI 1 rfl) rfl) rfl ?_
    refine wl_ov (ov_field fo138_2 rfl rfl) rfl ?_
    refine wl_ov (ov_field fo31_0 rfl rfl) rfl ?_
    refine wl_ov (ov_load sc3 rfl (fun _ hm => hm.blkI 1 rfl) rfl) rfl ?_
    refine wl_ov (ov_build (cs := [.int .i64 oa, .int .i64 ia]) rfl (by kernel_rfl)) rfl ?_
    refine wl_stores (cs' := [.int .i64 oa, .int .i64 ia]) 0 rz28 rfl rfl rfl rfl rfl rfl rfl rfl ?_
    refine wl_nil ?_
    refine nx_then ?_
    refine gw_ret ?_
    refine nx_retc 0 rfl rz28 rfl rfl rfl fun wx hm => ?_
    refine ⟨?_, hm.g⟩
    unfold lastA lastB
    rw [if_neg (show ¬ ia = -1 from h)]

set_option maxRecDepth 100000 in
set_option maxHeartbeats 400000 in
theorem rlasts_any (gv : ByteArray) (oa : Int) (os : ByteArray) (om of ia : Int) (is_ : ByteArray) (im if_ : Int) (w : World) :
    Calls Tryd.prog 128 #[.agg #[.string gv, .int .i64 oa, .string os, .int .i64 om, .int .i64 of, .int .i64 ia, .string is_, .int .i64 im, .int .i64 if_]] w (fun e w' => e = .returned (.agg #[.int .i64 (lastA ⟨gv, ⟨oa, os, om, of⟩, ⟨ia, is_, im, if_⟩⟩), .int .i64 (lastB ⟨gv, ⟨oa, os, om, of⟩, ⟨ia, is_, im, if_⟩⟩)]) ∧ w.grownBy w' none) := by
  refine gw_enter ⟨18, w, none, []⟩ Tryd.func128 rfl Tryd.ntmps128 rfl (mem0 (X := []) allF_nil allL_nil) ?_
  refine gw_seq ?_
  refine gw_region ?_
  refine wl_box rfl rfl rfl fun g1 => ?_
  refine wl_alloc zc28 rfl fun g2 => ?_
  refine wl_nil ?_
  refine nx_then ?_
  refine gw_seq ?_
  refine gw_seq ?_
  refine gw_region ?_
  refine wl_ov (ov_field fo138_2 rfl rfl) rfl ?_
  refine wl_ov (ov_field fo31_0 rfl rfl) rfl ?_
  refine wl_ov (ov_load sc3 rfl (fun _ hm => hm.blkI 1 rfl) rfl) rfl ?_
  refine wl_ov (ov_eql rfl rfl) rfl ?_
  refine wl_nil ?_
  refine nx_then ?_
  refine gw_cond rfl (fun hh => ?_) (fun hh => ?_)
  · have h : ia = -1 := by simpa using hh
    clear hh
    refine gw_seq ?_
    refine gw_region ?_
    refine wl_ov (ov_field fo138_1 rfl rfl) rfl ?_
    refine wl_ov (ov_field fo31_0 rfl rfl) rfl ?_
    refine wl_ov (ov_load sc3 rfl (fun _ hm => hm.blkI 1 rfl) rfl) rfl ?_
    refine wl_ov (ov_build (cs := [.int .i64 oa, .int .i64 5761440]) rfl (by kernel_rfl)) rfl ?_
    refine wl_stores (cs' := [.int .i64 oa, .int .i64 5761440]) 0 rz28 rfl rfl rfl rfl rfl rfl rfl rfl ?_
    refine wl_nil ?_
    refine nx_then ?_
    refine gw_ret ?_
    refine nx_then_ret ?_
    refine nx_retc 0 rfl rz28 rfl rfl rfl fun wx hm => ?_
    refine ⟨?_, hm.g⟩
    unfold lastA lastB
    rw [if_pos (show ia = -1 from h)]
  · have h : ¬ (ia = -1) := by simpa using hh
    clear hh
    refine gw_skip ?_
    refine nx_then ?_
    refine gw_seq ?_
    refine gw_region ?_
    refine wl_ov (ov_field fo138_1 rfl rfl) rfl ?_
    refine wl_ov (ov_field fo31_0 rfl rfl) rfl ?_
    refine wl_ov (ov_load sc3 rfl (fun _ hm => hm.blkI 1 rfl) rfl) rfl ?_
    refine wl_ov (ov_field fo138_2 rfl rfl) rfl ?_
    refine wl_ov (ov_field fo31_0 rfl rfl) rfl ?_
    refine wl_ov (ov_load sc3 rfl (fun _ hm => hm.blkI 1 rfl) rfl) rfl ?_
    refine wl_ov (ov_build (cs := [.int .i64 oa, .int .i64 ia]) rfl (by kernel_rfl)) rfl ?_
    refine wl_stores (cs' := [.int .i64 oa, .int .i64 ia]) 0 rz28 rfl rfl rfl rfl rfl rfl rfl rfl ?_
    refine wl_nil ?_
    refine nx_then ?_
    refine gw_ret ?_
    refine nx_retc 0 rfl rz28 rfl rfl rfl fun wx hm => ?_
    refine ⟨?_, hm.g⟩
    unfold lastA lastB
    rw [if_neg (show ¬ ia = -1 from h)]

set_option maxRecDepth 100000 in
set_option maxHeartbeats 1000000 in
theorem checkAll_any (hs : List Hs) (A : Option Addr) (n c : Nat) (w : World) (hl : SlT hsEnc 5 36 w A n hs) (hg : Legs hs w) (hok : ∀ h ∈ hs, HsOk h) (hn : n ≤ 1000000) :
    Calls Tryd.prog 82 #[.slice A n c] w (GotE w (hiresE hs)) := by
  refine gw_enter ⟨39, w, none, []⟩ Tryd.func82 rfl Tryd.ntmps82 rfl (mem0 (X := [SlOld hsEnc 5 36 w.heap.size none A n hs, LegsOld w.heap.size none hs]) (allF_cons hl.old (allF_cons hg.old allF_nil)) (allL_cons SlOld.lasts (allL_cons LegsOld.lasts allL_nil))) ?_
  refine gw_seq ?_
  refine gw_region ?_
  have hlen := hl.len
  refine wl_ov (ov_assign rfl) rfl ?_
  refine wl_nil ?_
  refine nx_then ?_
  refine gw_seq ?_
  refine gw_seq ?_
  refine gw_region ?_
  refine wl_ov (ov_move rfl) rfl ?_
  refine wl_ov (ov_len es99 rfl) rfl ?_
  refine wl_ov (ov_gtr rfl rfl) rfl ?_
  refine wl_nil ?_
  refine nx_then ?_
  refine gw_cond rfl (fun hh => ?_) (fun hh => ?_)
  · have h1 : 500 < ((n : Nat) : Int) := by simpa using hh
    clear hh
    refine gw_seq ?_
    refine gw_region ?_
    refine wl_ov (ov_assign rfl) rfl ?_
    refine wl_nil ?_
    refine nx_then ?_
    refine gw_ret ?_
    refine nx_then_ret ?_
    refine nx_ret1 rfl rfl fun wx hm => ?_
    exact ⟨ret_int (by unfold hiresE; rw [if_pos (by omega)]), hm.g⟩
  · have h1 : ¬ (500 < ((n : Nat) : Int)) := by simpa using hh
    clear hh
    refine gw_skip ?_
    refine nx_then ?_
    refine gw_seq ?_
    refine gw_seq ?_
    refine gw_region ?_
    refine wl_ov (ov_move rfl) rfl ?_
    refine wl_ov (ov_len es99 rfl) rfl ?_
    refine wl_ov (ov_move rfl) rfl ?_
    refine wl_nil ?_
    refine nx_then ?_
    refine gw_block ?_
    refine gw_loop (γ := Nat) (fun (k : Nat) => k ≤ n ∧ hiresE hs = scanE hsE (prevOf hs k) (hs.drop k)) (fun (k : Nat) => [(0, .slice A n c), (9, .slice A n c), (10, .int .i64 ((n : Nat) : Int)), (11, .int .i64 ((k : Nat) : Int))]) (fun (k : Nat) => fun _ => True) (fun (k : Nat) => []) (fun (k : Nat) => []) (fun (k : Nat) => [SlOld hsEnc 5 36 w.heap.size none A n hs, LegsOld w.heap.size none hs]) (fun (k : Nat) => n - k) 0 ⟨Nat.zero_le _, by unfold hiresE; rw [if_neg (by omega)]; rfl⟩ ⟨rfl, rfl, rfl, rfl, trivial⟩ (fun _ hm => hm.pick [] [] [0, 1] rfl rfl) ?_
    intro k hinv
    replace hinv : k ≤ n ∧ hiresE hs = scanE hsE (prevOf hs k) (hs.drop k) := hinv
    refine gw_seq ?_
    refine gw_region ?_
    refine wl_ov (ov_lss rfl rfl) rfl ?_
    refine wl_nil ?_
    refine nx_then ?_
    refine gw_seq ?_
    refine gw_cond rfl (fun hh => ?_) (fun hh => ?_)
    · have hk : ((k : Nat) : Int) < ((n : Nat) : Int) := by simpa using hh
      clear hh
      refine gw_skip ?_
      refine nx_then ?_
      refine gw_seq ?_
      refine gw_block ?_
      refine gw_seq ?_
      refine gw_region ?_
      obtain ⟨b, off, hA, _, _⟩ := hl.get (by omega)
      subst hA
      obtain ⟨x, hx⟩ : ∃ x, hs[k]? = some x := ⟨_, List.getElem?_eq_getElem (by omega)⟩
      obtain ⟨key, driver, fr, to_, Ah, nh, ch, lh⟩ := x
      have hat := scanE_at hsE hs k _ hx
      obtain ⟨hho, hhn⟩ := hok _ (List.mem_of_getElem? hx)
      have hho : HrOk key driver lh := hho
      have hhn : nh ≤ 1000 := hhn
      obtain ⟨E, hE⟩ : ∃ E, E = hireE ⟨key, driver, fr, to_, lh⟩ := ⟨_, rfl⟩
      by_cases hk0 : k = 0
      · refine wl_ov (ov_move rfl) rfl ?_
        refine wl_ov (ov_index (j := k) es99 rfl rfl (by omega)) rfl ?_
        refine wl_ov (ov_elem rz36 rfl (fun _ hm => (hm.fact 0 rfl).1) hx rfl rfl) rfl ?_
        refine wl_alloc zc36 rfl fun g1 => ?_
        refine wl_ov (ov_assign rfl) rfl ?_
        refine wl_stores (cs' := [.string key, .string driver, .int .i64 fr, .int .i64 to_, .slice Ah nh ch]) 0 rz36 rfl rfl rfl rfl rfl rfl rfl rfl ?_
        refine wl_nil ?_
        refine nx_then ?_
        refine gw_seq ?_
        refine gw_draw (fun wz => Blk wz g1 36 [.string key, .string driver, .int .i64 fr, .int .i64 to_, .slice Ah nh ch] ∧ (SlOld hsEnc 5 36 w.heap.size none (some ⟨b, off, none⟩) n hs) wz ∧ (LegsOld w.heap.size none hs) wz ∧ True) mixed ?_
        refine wa_take 0 rfl (by kernel_rfl) (by kernel_rfl) (by kernel_rfl) (listed' := #[true, false, false, false, false, false, false, false, false, false, false, false, false, false, false, false, false, false, false, false]) rfl (fun _ _ _ h => h) (fun _ hm => ⟨hm.blkI 0 rfl, hm.fact 0 rfl, hm.fact 1 rfl, trivial⟩) (ov_loads rz36 rfl (fun _ hm => hm.1) rfl rfl) rfl ?_
        refine wa_take 2 rfl (by kernel_rfl) (by kernel_rfl) (by kernel_rfl) (listed' := #[true, false, true, false, false, false, false, false, false, false, false, false, false, false, false, false, false, false, false, false]) rfl (fun _ _ _ h => h) (fun _ hm => ⟨hm.blkI 0 rfl, hm.fact 0 rfl, hm.fact 1 rfl, trivial⟩) (ov_move rfl) rfl ?_
        refine wa_take 3 rfl (by kernel_rfl) (by kernel_rfl) (by kernel_rfl) (listed' := #[true, false, true, true, false, false, false, false, false, false, false, false, false, false, false, false, false, false, false, false]) rfl (fun _ _ _ h => h) (fun _ hm => ⟨hm.blkI 0 rfl, hm.fact 0 rfl, hm.fact 1 rfl, trivial⟩) (ov_gtr rfl rfl) rfl ?_
        refine wa_set 19 (v' := .bool false) rfl (congrArg Value.bool (decide_eq_false (by omega))) ?_
        refine wa_all [1] (by kernel_rfl) rfl ⟨⟨_, rfl, ?_⟩, trivial⟩
        refine wl_callv (v := .int .i64 E) rfl cb59 rfl rfl (fun wx hm => (by rw [hE]; exact check_any key driver fr to_ lh Ah nh ch wx ((hm.fact 1 rfl) _ (List.mem_of_getElem? hx)).1 hho (by omega))) ?_
        have hO : leH (prevOf hs k) ⟨key, driver, fr, to_, Ah, nh, ch, lh⟩ = false := by rw [prevOf_zero hk0]; rfl
        refine wl_nil ?_
        refine nx_wa0 (listed' := #[true, true, true, true, false, false, false, false, false, false, false, false, false, false, false, false, false, false, false, false]) rfl (fun _ hm => ⟨hm.blkI 0 rfl, hm.fact 0 rfl, hm.fact 1 rfl, trivial⟩) ?_
        refine wa_take 4 rfl (by kernel_rfl) (by kernel_rfl) (by kernel_rfl) (listed' := #[true, true, true, true, true, false, false, false, false, false, false, false, false, false, false, false, false, false, false, false]) rfl (fun _ _ _ h => h) (fun _ hm => ⟨hm.blkI 0 rfl, hm.fact 0 rfl, hm.fact 1 rfl, trivial⟩) (ov_move rfl) rfl ?_
        refine wa_take_off 5 rfl rfl rfl (by decide) (by kernel_rfl) (by kernel_rfl) (by kernel_rfl) (listed' := #[true, true, true, true, true, true, false, false, false, false, false, false, false, false, false, false, false, false, false, false]) rfl (fun _ _ _ h => h) (fun _ hm => ⟨hm.blkI 0 rfl, hm.fact 0 rfl, hm.fact 1 rfl, trivial⟩) rfl ?_
        refine wa_take_off 6 rfl rfl rfl (by decide) (by kernel_rfl) (by kernel_rfl) (by kernel_rfl) (listed' := #[true, true, true, true, true, true, true, false, false, false, false, false, false, false, false, false, false, false, false, false]) rfl (fun _ _ _ h => h) (fun _ hm => ⟨hm.blkI 0 rfl, hm.fact 0 rfl, hm.fact 1 rfl, trivial⟩) rfl ?_
        refine wa_take_off 7 rfl rfl rfl (by decide) (by kernel_rfl) (by kernel_rfl) (by kernel_rfl) (listed' := #[true, true, true, true, true, true, true, true, false, false, false, false, false, false, false, false, false, false, false, false]) rfl (fun _ _ _ h => h) (fun _ hm => ⟨hm.blkI 0 rfl, hm.fact 0 rfl, hm.fact 1 rfl, trivial⟩) rfl ?_
        refine wa_take_off 8 rfl rfl rfl (by decide) (by kernel_rfl) (by kernel_rfl) (by kernel_rfl) (listed' := #[true, true, true, true, true, true, true, true, true, false, false, false, false, false, false, false, false, false, false, false]) rfl (fun _ _ _ h => h) (fun _ hm => ⟨hm.blkI 0 rfl, hm.fact 0 rfl, hm.fact 1 rfl, trivial⟩) rfl ?_
        refine wa_take_off 9 rfl rfl rfl (by decide) (by kernel_rfl) (by kernel_rfl) (by kernel_rfl) (listed' := #[true, true, true, true, true, true, true, true, true, true, false, false, false, false, false, false, false, false, false, false]) rfl (fun _ _ _ h => h) (fun _ hm => ⟨hm.blkI 0 rfl, hm.fact 0 rfl, hm.fact 1 rfl, trivial⟩) rfl ?_
        refine wa_take_off 10 rfl rfl rfl (by decide) (by kernel_rfl) (by kernel_rfl) (by kernel_rfl) (listed' := #[true, true, true, true, true, true, true, true, true, true, true, false, false, false, false, false, false, false, false, false]) rfl (fun _ _ _ h => h) (fun _ hm => ⟨hm.blkI 0 rfl, hm.fact 0 rfl, hm.fact 1 rfl, trivial⟩) rfl ?_
        refine wa_take_off 11 rfl rfl rfl (by decide) (by kernel_rfl) (by kernel_rfl) (by kernel_rfl) (listed' := #[true, true, true, true, true, true, true, true, true, true, true, true, false, false, false, false, false, false, false, false]) rfl (fun _ _ _ h => h) (fun _ hm => ⟨hm.blkI 0 rfl, hm.fact 0 rfl, hm.fact 1 rfl, trivial⟩) rfl ?_
        refine wa_take_off 12 rfl rfl rfl (by decide) (by kernel_rfl) (by kernel_rfl) (by kernel_rfl) (listed' := #[true, true, true, true, true, true, true, true, true, true, true, true, true, false, false, false, false, false, false, false]) rfl (fun _ _ _ h => h) (fun _ hm => ⟨hm.blkI 0 rfl, hm.fact 0 rfl, hm.fact 1 rfl, trivial⟩) rfl ?_
        refine wa_take_off 13 rfl rfl rfl (by decide) (by kernel_rfl) (by kernel_rfl) (by kernel_rfl) (listed' := #[true, true, true, true, true, true, true, true, true, true, true, true, true, true, false, false, false, false, false, false]) rfl (fun _ _ _ h => h) (fun _ hm => ⟨hm.blkI 0 rfl, hm.fact 0 rfl, hm.fact 1 rfl, trivial⟩) rfl ?_
        refine wa_take_off 14 rfl rfl rfl (by decide) (by kernel_rfl) (by kernel_rfl) (by kernel_rfl) (listed' := #[true, true, true, true, true, true, true, true, true, true, true, true, true, true, true, false, false, false, false, false]) rfl (fun _ _ _ h => h) (fun _ hm => ⟨hm.blkI 0 rfl, hm.fact 0 rfl, hm.fact 1 rfl, trivial⟩) rfl ?_
        refine wa_take 15 rfl (by kernel_rfl) (by kernel_rfl) (by kernel_rfl) (listed' := #[true, true, true, true, true, true, true, true, true, true, true, true, true, true, true, true, false, false, false, false]) rfl (fun _ _ _ h => h) (fun _ hm => ⟨hm.blkI 0 rfl, hm.fact 0 rfl, hm.fact 1 rfl, trivial⟩) (ov_pick_f rfl rfl) rfl ?_
        refine wa_all [16] (by kernel_rfl) rfl ⟨⟨_, rfl, ?_⟩, trivial⟩
        refine wl_callw rfl cb98 rfl rfl (fun wx hm => (when_any _ _ wx)) ?_
        refine wl_nil ?_
        refine nx_wa0 (listed' := #[true, true, true, true, true, true, true, true, true, true, true, true, true, true, true, true, true, false, false, false]) rfl (fun _ hm => ⟨hm.blkI 0 rfl, hm.fact 0 rfl, hm.fact 1 rfl, trivial⟩) ?_
        refine wa_all [17] (by kernel_rfl) rfl ⟨⟨_, rfl, ?_⟩, trivial⟩
        refine wl_buildSlice (e := 37) (cs := [.int .i64 E, .int .i64 (whenE false 7)]) rfl (by kernel_rfl) rfl fun g3 => ?_
        refine wl_nil ?_
        refine nx_wa0 (listed' := #[true, true, true, true, true, true, true, true, true, true, true, true, true, true, true, true, true, true, false, false]) rfl (fun _ hm => ⟨hm.blkI 1 rfl, hm.fact 0 rfl, hm.fact 1 rfl, trivial⟩) ?_
        refine wa_all [18] (by kernel_rfl) rfl ⟨⟨_, rfl, ?_⟩, trivial⟩
        refine wl_callw rfl cb96 rfl rfl (fun wx hm => (first_any [E, whenE false 7] _ _ _ wx (hm.blkI 0 rfl) (by simp))) ?_
        refine wl_nil ?_
        refine nx_wa0 (listed' := #[true, true, true, true, true, true, true, true, true, true, true, true, true, true, true, true, true, true, true, false]) rfl (fun _ hm => ⟨hm.blkI 1 rfl, hm.fact 0 rfl, hm.fact 1 rfl, trivial⟩) ?_
        refine wa_take 19 rfl (by kernel_rfl) (by kernel_rfl) (by kernel_rfl) (listed' := #[true, true, true, true, true, true, true, true, true, true, true, true, true, true, true, true, true, true, true, true]) rfl (fun _ _ _ h => h) (fun _ hm => ⟨hm.blkI 1 rfl, hm.fact 0 rfl, hm.fact 1 rfl, trivial⟩) (ov_assign rfl) rfl ?_
        refine wa_done (by kernel_rfl) ?_
        refine nx_then ?_
        refine gw_seq ?_
        refine gw_region ?_
        refine wl_ov (ov_move rfl) rfl ?_
        refine wl_ov (ov_neq rfl rfl) rfl ?_
        refine wl_nil ?_
        refine nx_then ?_
        refine gw_cond rfl (fun hh => ?_) (fun hh => ?_)
        · have he : ¬ (firstE [E, whenE false 7] = 0) := by simpa using hh
          clear hh
          refine gw_seq ?_
          refine gw_region ?_
          refine wl_ov (ov_move rfl) rfl ?_
          refine wl_ov (ov_assign rfl) rfl ?_
          refine wl_nil ?_
          refine nx_then ?_
          refine gw_ret ?_
          refine nx_blk_ret ?_
          refine nx_then_ret ?_
          refine nx_then_ret ?_
          refine nx_blk_ret ?_
          refine nx_then_ret ?_
          have hF : hsE (prevOf hs k) ⟨key, driver, fr, to_, Ah, nh, ch, lh⟩ = firstE [E, whenE false 7] := by
            unfold hsE
            by_cases h2 : E = 0
            · rw [if_pos (show hireE (Hs.hr ⟨key, driver, fr, to_, Ah, nh, ch, lh⟩) = 0 from hE.symm.trans h2), hO, h2]; cases (false : Bool) <;> rfl
            · rw [if_neg (show ¬ hireE (Hs.hr ⟨key, driver, fr, to_, Ah, nh, ch, lh⟩) = 0 from fun h => h2 (hE.trans h))]; unfold firstE; rw [if_neg h2]; exact hE.symm
          refine nx_ret1 rfl rfl fun wx hm => ?_
          exact ⟨ret_int (by rw [hinv.2, hat, if_neg (by rw [hF]; exact he), hF]), hm.g⟩
        · have he : firstE [E, whenE false 7] = 0 := by simpa using hh
          clear hh
          refine gw_skip ?_
          refine nx_blk_nrm ?_
          refine nx_then ?_
          refine gw_region ?_
          have hF : hsE (prevOf hs k) ⟨key, driver, fr, to_, Ah, nh, ch, lh⟩ = 0 := by
            have h3 := firstE_two he
            unfold hsE
            rw [if_pos (show hireE (Hs.hr ⟨key, driver, fr, to_, Ah, nh, ch, lh⟩) = 0 from hE.symm.trans h3.1), hO, whenE_ok (by decide) h3.2]; rfl
          refine wl_ov (ov_add rfl rfl (by omega) (by omega)) rfl ?_
          refine wl_ov (ov_move rfl) rfl ?_
          refine wl_nil ?_
          exact nx_round (k + 1) ⟨by omega, by rw [hinv.2, hat, if_pos hF]⟩ (by omega) ⟨rfl, rfl, rfl, (some_int (by omega)), trivial⟩ (fun _ hm => hm.pick [] [] [0, 1] rfl rfl)
      · obtain ⟨y, hy⟩ : ∃ x, hs[k - 1]? = some x := ⟨_, List.getElem?_eq_getElem (by omega)⟩
        obtain ⟨p0, p1, p2, p3, p4, p5, p6, p7⟩ := y
        obtain ⟨B, hB⟩ : ∃ B, B = leB key p0 := ⟨_, rfl⟩
        have hO : leH (prevOf hs k) ⟨key, driver, fr, to_, Ah, nh, ch, lh⟩ = B := by rw [prevOf_pos hk0 hy]; exact hB.symm
        refine wl_ov (ov_move rfl) rfl ?_
        refine wl_ov (ov_index (j := k) es99 rfl rfl (by omega)) rfl ?_
        refine wl_ov (ov_elem rz36 rfl (fun _ hm => (hm.fact 0 rfl).1) hx rfl rfl) rfl ?_
        refine wl_alloc zc36 rfl fun g2 => ?_
        refine wl_ov (ov_assign rfl) rfl ?_
        refine wl_stores (cs' := [.string key, .string driver, .int .i64 fr, .int .i64 to_, .slice Ah nh ch]) 0 rz36 rfl rfl rfl rfl rfl rfl rfl rfl ?_
        refine wl_nil ?_
        refine nx_then ?_
        refine gw_seq ?_
        refine gw_draw (fun wz => Blk wz g2 36 [.string key, .string driver, .int .i64 fr, .int .i64 to_, .slice Ah nh ch] ∧ (SlOld hsEnc 5 36 w.heap.size none (some ⟨b, off, none⟩) n hs) wz ∧ (LegsOld w.heap.size none hs) wz ∧ True) mixed ?_
        refine wa_take 0 rfl (by kernel_rfl) (by kernel_rfl) (by kernel_rfl) (listed' := #[true, false, false, false, false, false, false, false, false, false, false, false, false, false, false, false, false, false, false, false]) rfl (fun _ _ _ h => h) (fun _ hm => ⟨hm.blkI 0 rfl, hm.fact 0 rfl, hm.fact 1 rfl, trivial⟩) (ov_loads rz36 rfl (fun _ hm => hm.1) rfl rfl) rfl ?_
        refine wa_take 2 rfl (by kernel_rfl) (by kernel_rfl) (by kernel_rfl) (listed' := #[true, false, true, false, false, false, false, false, false, false, false, false, false, false, false, false, false, false, false, false]) rfl (fun _ _ _ h => h) (fun _ hm => ⟨hm.blkI 0 rfl, hm.fact 0 rfl, hm.fact 1 rfl, trivial⟩) (ov_move rfl) rfl ?_
        refine wa_take 3 rfl (by kernel_rfl) (by kernel_rfl) (by kernel_rfl) (listed' := #[true, false, true, true, false, false, false, false, false, false, false, false, false, false, false, false, false, false, false, false]) rfl (fun _ _ _ h => h) (fun _ hm => ⟨hm.blkI 0 rfl, hm.fact 0 rfl, hm.fact 1 rfl, trivial⟩) (ov_gtr rfl rfl) rfl ?_
        refine wa_set 19 (v' := .bool true) rfl (congrArg Value.bool (decide_eq_true (by omega))) ?_
        refine wa_all [1] (by kernel_rfl) rfl ⟨⟨_, rfl, ?_⟩, trivial⟩
        refine wl_callv (v := .int .i64 E) rfl cb59 rfl rfl (fun wx hm => (by rw [hE]; exact check_any key driver fr to_ lh Ah nh ch wx ((hm.fact 1 rfl) _ (List.mem_of_getElem? hx)).1 hho (by omega))) ?_
        refine wl_nil ?_
        refine nx_wa0 (listed' := #[true, true, true, true, false, false, false, false, false, false, false, false, false, false, false, false, false, false, false, false]) rfl (fun _ hm => ⟨hm.blkI 0 rfl, hm.fact 0 rfl, hm.fact 1 rfl, trivial⟩) ?_
        refine wa_take 4 rfl (by kernel_rfl) (by kernel_rfl) (by kernel_rfl) (listed' := #[true, true, true, true, true, false, false, false, false, false, false, false, false, false, false, false, false, false, false, false]) rfl (fun _ _ _ h => h) (fun _ hm => ⟨hm.blkI 0 rfl, hm.fact 0 rfl, hm.fact 1 rfl, trivial⟩) (ov_move rfl) rfl ?_
        refine wa_take_on 5 rfl rfl rfl (by kernel_rfl) (by kernel_rfl) (by kernel_rfl) (listed' := #[true, true, true, true, true, true, false, false, false, false, false, false, false, false, false, false, false, false, false, false]) rfl (fun _ _ _ h => h) (fun _ hm => ⟨hm.blkI 0 rfl, hm.fact 0 rfl, hm.fact 1 rfl, trivial⟩) (ov_field fo36_0 rfl rfl) rfl ?_
        refine wa_take_on 6 rfl rfl rfl (by kernel_rfl) (by kernel_rfl) (by kernel_rfl) (listed' := #[true, true, true, true, true, true, true, false, false, false, false, false, false, false, false, false, false, false, false, false]) rfl (fun _ _ _ h => h) (fun _ hm => ⟨hm.blkI 0 rfl, hm.fact 0 rfl, hm.fact 1 rfl, trivial⟩) (ov_load sc9 rfl (fun _ hm => hm.1) rfl) rfl ?_
        refine wa_take_on 7 rfl rfl rfl (by kernel_rfl) (by kernel_rfl) (by kernel_rfl) (listed' := #[true, true, true, true, true, true, true, true, false, false, false, false, false, false, false, false, false, false, false, false]) rfl (fun _ _ _ h => h) (fun _ hm => ⟨hm.blkI 0 rfl, hm.fact 0 rfl, hm.fact 1 rfl, trivial⟩) (ov_move rfl) rfl ?_
        refine wa_take_on 8 rfl rfl rfl (by kernel_rfl) (by kernel_rfl) (by kernel_rfl) (listed' := #[true, true, true, true, true, true, true, true, true, false, false, false, false, false, false, false, false, false, false, false]) rfl (fun _ _ _ h => h) (fun _ hm => ⟨hm.blkI 0 rfl, hm.fact 0 rfl, hm.fact 1 rfl, trivial⟩) (ov_move rfl) rfl ?_
        refine wa_take_on 9 rfl rfl rfl (by kernel_rfl) (by kernel_rfl) (by kernel_rfl) (listed' := #[true, true, true, true, true, true, true, true, true, true, false, false, false, false, false, false, false, false, false, false]) rfl (fun _ _ _ h => h) (fun _ hm => ⟨hm.blkI 0 rfl, hm.fact 0 rfl, hm.fact 1 rfl, trivial⟩) (ov_sub rfl rfl (by omega) (by omega)) rfl ?_
        refine wa_take_on 10 rfl rfl rfl (by kernel_rfl) (by kernel_rfl) (by kernel_rfl) (listed' := #[true, true, true, true, true, true, true, true, true, true, true, false, false, false, false, false, false, false, false, false]) rfl (fun _ _ _ h => h) (fun _ hm => ⟨hm.blkI 0 rfl, hm.fact 0 rfl, hm.fact 1 rfl, trivial⟩) (ov_max rfl rfl) rfl ?_
        refine wa_set 26 (v' := .int .i64 ((k - 1 : Nat) : Int)) rfl (congrArg (Value.int .i64) (by omega)) ?_
        refine wa_take_on 11 rfl rfl rfl (by kernel_rfl) (by kernel_rfl) (by kernel_rfl) (listed' := #[true, true, true, true, true, true, true, true, true, true, true, true, false, false, false, false, false, false, false, false]) rfl (fun _ _ _ h => h) (fun _ hm => ⟨hm.blkI 0 rfl, hm.fact 0 rfl, hm.fact 1 rfl, trivial⟩) (ov_index (j := k - 1) es99 rfl rfl (by omega)) rfl ?_
        refine wa_take_on 12 rfl rfl rfl (by kernel_rfl) (by kernel_rfl) (by kernel_rfl) (listed' := #[true, true, true, true, true, true, true, true, true, true, true, true, true, false, false, false, false, false, false, false]) rfl (fun _ _ _ h => h) (fun _ hm => ⟨hm.blkI 0 rfl, hm.fact 0 rfl, hm.fact 1 rfl, trivial⟩) (ov_field fo36_0 rfl rfl) rfl ?_
        refine wa_take_on 13 rfl rfl rfl (by kernel_rfl) (by kernel_rfl) (by kernel_rfl) (listed' := #[true, true, true, true, true, true, true, true, true, true, true, true, true, true, false, false, false, false, false, false]) rfl (fun _ _ _ h => h) (fun _ hm => ⟨hm.blkI 0 rfl, hm.fact 0 rfl, hm.fact 1 rfl, trivial⟩) (ov_elem1 (k := 0) sc9 rfl (fun _ hm => (hm.2.1).1) hy rfl rfl) rfl ?_
        refine wa_take_on 14 rfl rfl rfl (by kernel_rfl) (by kernel_rfl) (by kernel_rfl) (listed' := #[true, true, true, true, true, true, true, true, true, true, true, true, true, true, true, false, false, false, false, false]) rfl (fun _ _ _ h => h) (fun _ hm => ⟨hm.blkI 0 rfl, hm.fact 0 rfl, hm.fact 1 rfl, trivial⟩) (ov_sleq rfl rfl) rfl ?_
        refine wa_set 30 (v' := .bool B) rfl (congrArg Value.bool hB.symm) ?_
        refine wa_take 15 rfl (by kernel_rfl) (by kernel_rfl) (by kernel_rfl) (listed' := #[true, true, true, true, true, true, true, true, true, true, true, true, true, true, true, true, false, false, false, false]) rfl (fun _ _ _ h => h) (fun _ hm => ⟨hm.blkI 0 rfl, hm.fact 0 rfl, hm.fact 1 rfl, trivial⟩) (ov_pick_t rfl rfl) rfl ?_
        refine wa_all [16] (by kernel_rfl) rfl ⟨⟨_, rfl, ?_⟩, trivial⟩
        refine wl_callw rfl cb98 rfl rfl (fun wx hm => (when_any _ _ wx)) ?_
        refine wl_nil ?_
        refine nx_wa0 (listed' := #[true, true, true, true, true, true, true, true, true, true, true, true, true, true, true, true, true, false, false, false]) rfl (fun _ hm => ⟨hm.blkI 0 rfl, hm.fact 0 rfl, hm.fact 1 rfl, trivial⟩) ?_
        refine wa_all [17] (by kernel_rfl) rfl ⟨⟨_, rfl, ?_⟩, trivial⟩
        refine wl_buildSlice (e := 37) (cs := [.int .i64 E, .int .i64 (whenE B 7)]) rfl (by kernel_rfl) rfl fun g4 => ?_
        refine wl_nil ?_
        refine nx_wa0 (listed' := #[true, true, true, true, true, true, true, true, true, true, true, true, true, true, true, true, true, true, false, false]) rfl (fun _ hm => ⟨hm.blkI 1 rfl, hm.fact 0 rfl, hm.fact 1 rfl, trivial⟩) ?_
        refine wa_all [18] (by kernel_rfl) rfl ⟨⟨_, rfl, ?_⟩, trivial⟩
        refine wl_callw rfl cb96 rfl rfl (fun wx hm => (first_any [E, whenE B 7] _ _ _ wx (hm.blkI 0 rfl) (by simp))) ?_
        refine wl_nil ?_
        refine nx_wa0 (listed' := #[true, true, true, true, true, true, true, true, true, true, true, true, true, true, true, true, true, true, true, false]) rfl (fun _ hm => ⟨hm.blkI 1 rfl, hm.fact 0 rfl, hm.fact 1 rfl, trivial⟩) ?_
        refine wa_take 19 rfl (by kernel_rfl) (by kernel_rfl) (by kernel_rfl) (listed' := #[true, true, true, true, true, true, true, true, true, true, true, true, true, true, true, true, true, true, true, true]) rfl (fun _ _ _ h => h) (fun _ hm => ⟨hm.blkI 1 rfl, hm.fact 0 rfl, hm.fact 1 rfl, trivial⟩) (ov_assign rfl) rfl ?_
        refine wa_done (by kernel_rfl) ?_
        refine nx_then ?_
        refine gw_seq ?_
        refine gw_region ?_
        refine wl_ov (ov_move rfl) rfl ?_
        refine wl_ov (ov_neq rfl rfl) rfl ?_
        refine wl_nil ?_
        refine nx_then ?_
        refine gw_cond rfl (fun hh => ?_) (fun hh => ?_)
        · have he : ¬ (firstE [E, whenE B 7] = 0) := by simpa using hh
          clear hh
          refine gw_seq ?_
          refine gw_region ?_
          refine wl_ov (ov_move rfl) rfl ?_
          refine wl_ov (ov_assign rfl) rfl ?_
          refine wl_nil ?_
          refine nx_then ?_
          refine gw_ret ?_
          refine nx_blk_ret ?_
          refine nx_then_ret ?_
          refine nx_then_ret ?_
          refine nx_blk_ret ?_
          refine nx_then_ret ?_
          have hF : hsE (prevOf hs k) ⟨key, driver, fr, to_, Ah, nh, ch, lh⟩ = firstE [E, whenE B 7] := by
            unfold hsE
            by_cases h2 : E = 0
            · rw [if_pos (show hireE (Hs.hr ⟨key, driver, fr, to_, Ah, nh, ch, lh⟩) = 0 from hE.symm.trans h2), hO, h2]; cases B <;> rfl
            · rw [if_neg (show ¬ hireE (Hs.hr ⟨key, driver, fr, to_, Ah, nh, ch, lh⟩) = 0 from fun h => h2 (hE.trans h))]; unfold firstE; rw [if_neg h2]; exact hE.symm
          refine nx_ret1 rfl rfl fun wx hm => ?_
          exact ⟨ret_int (by rw [hinv.2, hat, if_neg (by rw [hF]; exact he), hF]), hm.g⟩
        · have he : firstE [E, whenE B 7] = 0 := by simpa using hh
          clear hh
          refine gw_skip ?_
          refine nx_blk_nrm ?_
          refine nx_then ?_
          refine gw_region ?_
          have hF : hsE (prevOf hs k) ⟨key, driver, fr, to_, Ah, nh, ch, lh⟩ = 0 := by
            have h3 := firstE_two he
            unfold hsE
            rw [if_pos (show hireE (Hs.hr ⟨key, driver, fr, to_, Ah, nh, ch, lh⟩) = 0 from hE.symm.trans h3.1), hO, whenE_ok (by decide) h3.2]; rfl
          refine wl_ov (ov_add rfl rfl (by omega) (by omega)) rfl ?_
          refine wl_ov (ov_move rfl) rfl ?_
          refine wl_nil ?_
          exact nx_round (k + 1) ⟨by omega, by rw [hinv.2, hat, if_pos hF]⟩ (by omega) ⟨rfl, rfl, rfl, (some_int (by omega)), trivial⟩ (fun _ hm => hm.pick [] [] [0, 1] rfl rfl)
    · have hk : ¬ (((k : Nat) : Int) < ((n : Nat) : Int)) := by simpa using hh
      clear hh
      refine gw_exit ?_
      refine nx_then_exit ?_
      refine nx_then_exit ?_
      refine nx_blk_here ?_
      refine nx_then ?_
      refine gw_seq ?_
      refine gw_region ?_
      refine wl_ov (ov_assign rfl) rfl ?_
      refine wl_nil ?_
      refine nx_then ?_
      refine gw_ret ?_
      refine nx_ret1 rfl rfl fun wx hm => ?_
      exact ⟨ret_int (by rw [hinv.2, scanE_end _ _ _ _ (by omega)]), hm.g⟩

set_option maxRecDepth 100000 in
set_option maxHeartbeats 1000000 in
theorem hiresFault_any (hs : List Hs) (A : Option Addr) (n c : Nat) (w : World) (hl : SlT hsEnc 5 36 w A n hs) (hg : Legs hs w) (hok : ∀ h ∈ hs, HsOk h) (hn : n ≤ 1000000) :
    Calls Tryd.prog 71 #[.slice A n c] w (GotE w (hiresE hs)) := by
  refine gw_enter ⟨28, w, none, []⟩ Tryd.func71 rfl Tryd.ntmps71 rfl (mem0 (X := [SlOld hsEnc 5 36 w.heap.size none A n hs, LegsOld w.heap.size none hs]) (allF_cons hl.old (allF_cons hg.old allF_nil)) (allL_cons SlOld.lasts (allL_cons LegsOld.lasts allL_nil))) ?_
  refine gw_seq ?_
  refine gw_region ?_
  have hlen := hl.len
  refine wl_ov (ov_assign rfl) rfl ?_
  refine wl_nil ?_
  refine nx_then ?_
  refine gw_seq ?_
  refine gw_seq ?_
  refine gw_region ?_
  refine wl_ov (ov_move rfl) rfl ?_
  refine wl_ov (ov_len es99 rfl) rfl ?_
  refine wl_ov (ov_gtr rfl rfl) rfl ?_
  refine wl_nil ?_
  refine nx_then ?_
  refine gw_cond rfl (fun hh => ?_) (fun hh => ?_)
  · have h1 : 500 < ((n : Nat) : Int) := by simpa using hh
    clear hh
    refine gw_seq ?_
    refine gw_region ?_
    refine wl_ov (ov_assign rfl) rfl ?_
    refine wl_nil ?_
    refine nx_then ?_
    refine gw_ret ?_
    refine nx_then_ret ?_
    refine nx_ret1 rfl rfl fun wx hm => ?_
    exact ⟨ret_int (by unfold hiresE; rw [if_pos (by omega)]), hm.g⟩
  · have h1 : ¬ (500 < ((n : Nat) : Int)) := by simpa using hh
    clear hh
    refine gw_skip ?_
    refine nx_then ?_
    refine gw_seq ?_
    refine gw_region ?_
    refine wl_ov (ov_assign rfl) rfl ?_
    refine wl_nil ?_
    refine nx_then ?_
    refine gw_seq ?_
    refine gw_seq ?_
    refine gw_region ?_
    refine wl_ov (ov_move rfl) rfl ?_
    refine wl_ov (ov_len es99 rfl) rfl ?_
    refine wl_ov (ov_move rfl) rfl ?_
    refine wl_nil ?_
    refine nx_then ?_
    refine gw_block ?_
    refine gw_loop (γ := Nat) (fun (k : Nat) => k ≤ n ∧ hiresE hs = scanE hsE (prevOf hs k) (hs.drop k)) (fun (k : Nat) => [(3, .string (prevH hs k)), (10, .slice A n c), (11, .int .i64 ((n : Nat) : Int)), (12, .int .i64 ((k : Nat) : Int))]) (fun (k : Nat) => fun _ => True) (fun (k : Nat) => []) (fun (k : Nat) => []) (fun (k : Nat) => [SlOld hsEnc 5 36 w.heap.size none A n hs, LegsOld w.heap.size none hs]) (fun (k : Nat) => n - k) 0 ⟨Nat.zero_le _, by unfold hiresE; rw [if_neg (by omega)]; rfl⟩ ⟨rfl, rfl, rfl, rfl, trivial⟩ (fun _ hm => hm.pick [] [] [0, 1] rfl rfl) ?_
    intro k hinv
    replace hinv : k ≤ n ∧ hiresE hs = scanE hsE (prevOf hs k) (hs.drop k) := hinv
    refine gw_seq ?_
    refine gw_region ?_
    refine wl_ov (ov_lss rfl rfl) rfl ?_
    refine wl_nil ?_
    refine nx_then ?_
    refine gw_seq ?_
    refine gw_cond rfl (fun hh => ?_) (fun hh => ?_)
    · have hk : ((k : Nat) : Int) < ((n : Nat) : Int) := by simpa using hh
      clear hh
      refine gw_skip ?_
      refine nx_then ?_
      refine gw_seq ?_
      refine gw_block ?_
      refine gw_seq ?_
      refine gw_region ?_
      obtain ⟨b, off, hA, _, _⟩ := hl.get (by omega)
      subst hA
      obtain ⟨x, hx⟩ : ∃ x, hs[k]? = some x := ⟨_, List.getElem?_eq_getElem (by omega)⟩
      obtain ⟨key, driver, fr, to_, Ah, nh, ch, lh⟩ := x
      have hat := scanE_at hsE hs k _ hx
      obtain ⟨hho, hhn⟩ := hok _ (List.mem_of_getElem? hx)
      have hho : HrOk key driver lh := hho
      have hhn : nh ≤ 1000 := hhn
      obtain ⟨E, hE⟩ : ∃ E, E = hireE ⟨key, driver, fr, to_, lh⟩ := ⟨_, rfl⟩
      refine wl_ov (ov_index (j := k) es99 rfl rfl (by omega)) rfl ?_
      refine wl_ov (ov_elem rz36 rfl (fun _ hm => (hm.fact 0 rfl).1) hx rfl rfl) rfl ?_
      refine wl_alloc zc36 rfl fun g1 => ?_
      refine wl_stores (cs' := [.string key, .string driver, .int .i64 fr, .int .i64 to_, .slice Ah nh ch]) 0 rz36 rfl rfl rfl rfl rfl rfl rfl rfl ?_
      refine wl_nil ?_
      refine nx_then ?_
      refine gw_seq ?_
      refine gw_seq ?_
      refine gw_region ?_
      refine wl_ov (ov_loads rz36 rfl (fun _ hm => hm.blkI 0 rfl) rfl rfl) rfl ?_
      refine wl_callv (v := .int .i64 E) rfl cb56 rfl rfl (fun wx hm => (by rw [hE]; exact hireFault_any key driver fr to_ lh Ah nh ch wx ((hm.fact 1 rfl) _ (List.mem_of_getElem? hx)).1 hho (by omega))) ?_
      refine wl_ov (ov_assign rfl) rfl ?_
      refine wl_nil ?_
      refine nx_then ?_
      refine gw_seq ?_
      refine gw_region ?_
      refine wl_ov (ov_move rfl) rfl ?_
      refine wl_ov (ov_neq rfl rfl) rfl ?_
      refine wl_nil ?_
      refine nx_then ?_
      refine gw_cond rfl (fun hh => ?_) (fun hh => ?_)
      · have h2 : ¬ (E = 0) := by simpa using hh
        clear hh
        refine gw_seq ?_
        refine gw_region ?_
        refine wl_ov (ov_move rfl) rfl ?_
        refine wl_ov (ov_assign rfl) rfl ?_
        refine wl_nil ?_
        refine nx_then ?_
        refine gw_ret ?_
        refine nx_then_ret ?_
        refine nx_blk_ret ?_
        refine nx_then_ret ?_
        refine nx_then_ret ?_
        refine nx_blk_ret ?_
        refine nx_then_ret ?_
        have hF : hsE (prevOf hs k) ⟨key, driver, fr, to_, Ah, nh, ch, lh⟩ = E := by unfold hsE; rw [if_neg (show ¬ hireE (Hs.hr ⟨key, driver, fr, to_, Ah, nh, ch, lh⟩) = 0 from fun h => h2 (hE.trans h))]; exact hE.symm
        refine nx_ret1 rfl rfl fun wx hm => ?_
        exact ⟨ret_int (by rw [hinv.2, hat, if_neg (by rw [hF]; exact h2), hF]), hm.g⟩
      · have h2 : E = 0 := by simpa using hh
        clear hh
        refine gw_skip ?_
        refine nx_then ?_
        refine gw_seq ?_
        refine gw_seq ?_
        refine gw_region ?_
        refine wl_ov (ov_field fo36_0 rfl rfl) rfl ?_
        refine wl_ov (ov_load sc9 rfl (fun _ hm => hm.blkI 0 rfl) rfl) rfl ?_
        refine wl_ov (ov_move rfl) rfl ?_
        refine wl_ov (ov_sleq rfl rfl) rfl ?_
        refine wl_nil ?_
        refine nx_then ?_
        refine gw_cond rfl (fun hh => ?_) (fun hh => ?_)
        · have h9 : (Op.bytesLess key.toList (prevH hs k).toList || key.toList == (prevH hs k).toList) = true := by simpa using hh
          clear hh
          refine gw_seq ?_
          refine gw_region ?_
          have hO : leH (prevOf hs k) ⟨key, driver, fr, to_, Ah, nh, ch, lh⟩ = true := (prevH_le (b := ⟨key, driver, fr, to_, Ah, nh, ch, lh⟩) (hireE_key (hE.symm.trans h2))).symm.trans h9
          refine wl_ov (ov_assign rfl) rfl ?_
          refine wl_nil ?_
          refine nx_then ?_
          refine gw_ret ?_
          refine nx_then_ret ?_
          refine nx_blk_ret ?_
          refine nx_then_ret ?_
          refine nx_then_ret ?_
          refine nx_blk_ret ?_
          refine nx_then_ret ?_
          have hF : hsE (prevOf hs k) ⟨key, driver, fr, to_, Ah, nh, ch, lh⟩ = 7 := by unfold hsE; rw [if_pos (show hireE (Hs.hr ⟨key, driver, fr, to_, Ah, nh, ch, lh⟩) = 0 from hE.symm.trans h2), hO]; rfl
          refine nx_ret1 rfl rfl fun wx hm => ?_
          exact ⟨ret_int (by rw [hinv.2, hat, if_neg (by rw [hF]; decide), hF]), hm.g⟩
        · have h9 : (Op.bytesLess key.toList (prevH hs k).toList || key.toList == (prevH hs k).toList) = false := by simpa using hh
          clear hh
          refine gw_skip ?_
          refine nx_then ?_
          refine gw_region ?_
          have hO : leH (prevOf hs k) ⟨key, driver, fr, to_, Ah, nh, ch, lh⟩ = false := (prevH_le (b := ⟨key, driver, fr, to_, Ah, nh, ch, lh⟩) (hireE_key (hE.symm.trans h2))).symm.trans h9
          refine wl_ov (ov_field fo36_0 rfl rfl) rfl ?_
          refine wl_ov (ov_load sc9 rfl (fun _ hm => hm.blkI 0 rfl) rfl) rfl ?_
          refine wl_ov (ov_assign rfl) rfl ?_
          refine wl_nil ?_
          refine nx_blk_nrm ?_
          refine nx_then ?_
          refine gw_region ?_
          refine wl_ov (ov_add rfl rfl (by omega) (by omega)) rfl ?_
          refine wl_ov (ov_move rfl) rfl ?_
          refine wl_nil ?_
          have hF : hsE (prevOf hs k) ⟨key, driver, fr, to_, Ah, nh, ch, lh⟩ = 0 := by unfold hsE; rw [if_pos (show hireE (Hs.hr ⟨key, driver, fr, to_, Ah, nh, ch, lh⟩) = 0 from hE.symm.trans h2), hO]; rfl
          exact nx_round (k + 1) ⟨by omega, by rw [hinv.2, hat, if_pos hF]⟩ (by omega) ⟨(congrArg (fun z => some (Value.string z)) (prevH_succ hx).symm), rfl, rfl, (some_int (by omega)), trivial⟩ (fun _ hm => hm.pick [] [] [0, 1] rfl rfl)
    · have hk : ¬ (((k : Nat) : Int) < ((n : Nat) : Int)) := by simpa using hh
      clear hh
      refine gw_exit ?_
      refine nx_then_exit ?_
      refine nx_then_exit ?_
      refine nx_blk_here ?_
      refine nx_then ?_
      refine gw_seq ?_
      refine gw_region ?_
      refine wl_ov (ov_assign rfl) rfl ?_
      refine wl_nil ?_
      refine nx_then ?_
      refine gw_ret ?_
      refine nx_ret1 rfl rfl fun wx hm => ?_
      exact ⟨ret_int (by rw [hinv.2, scanE_end _ _ _ _ (by omega)]), hm.g⟩

end Go.Proofs.YtljnekobfjpfaaaDoor
