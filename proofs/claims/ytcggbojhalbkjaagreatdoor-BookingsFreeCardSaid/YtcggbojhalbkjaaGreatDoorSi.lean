/- The steps of a walk over slots and blocks: a struct is stored into an element of a row of the call's own. -/
import Derived.Test.YtcggbojhalbkjaaGreatDoorSg
namespace Go.Proofs.YtcggbojhalbkjaaGreatDoor
open Go.RowKit

theorem own_splice_left {α : Type} {cs ds : List α} {o : Nat} {vs : List α} (ho : o + vs.length ≤ cs.length) : splice (cs ++ ds) o vs = splice cs o vs ++ ds := by
  unfold splice
  rw [List.take_append_of_le_length (by omega), List.drop_append_of_le_length (by omega)]
  simp [List.append_assoc]
theorem own_splice_right {α : Type} {cs ds : List α} {o : Nat} {vs : List α} : splice (cs ++ ds) (cs.length + o) vs = cs ++ splice ds o vs := by
  unfold splice
  rw [List.take_length_add_append, show cs.length + o + vs.length = cs.length + (o + vs.length) by omega, List.drop_length_add_append]
  simp [List.append_assoc]
theorem own_flat_splice {α : Type} (enc : α → List Value) (k : Nat) (hk : ∀ x, (enc x).length = k) {x' : α} {r : Nat} {vs : List Value} : ∀ {l : List α} {j : Nat} {x : α}, l[j]? = some x → splice (enc x) r vs = enc x' → r + vs.length ≤ k → splice (l.flatMap enc) (j * k + r) vs = (l.set j x').flatMap enc
  | [], j, x, h, _, _ => by simp at h
  | y :: t, 0, x, h, he, hr => by
    simp at h; subst h
    rw [Nat.zero_mul, Nat.zero_add, List.flatMap_cons, List.set_cons_zero, List.flatMap_cons, own_splice_left (by rw [hk]; exact hr), he]
  | y :: t, j + 1, x, h, he, hr => by
    have ih := own_flat_splice enc k hk (l := t) (j := j) (by simpa using h) he hr
    rw [List.flatMap_cons, List.set_cons_succ, List.flatMap_cons, show (j + 1) * k + r = (enc y).length + (j * k + r) by rw [hk, Nat.add_mul]; omega, own_splice_right, ih]
theorem own_take_splice {α : Type} {cs : List α} {o m : Nat} {vs : List α} (hm : m ≤ cs.length) (ho : o + vs.length ≤ m) : (splice cs o vs).take m = splice (cs.take m) o vs := by
  have h : cs = cs.take m ++ cs.drop m := (List.take_append_drop m cs).symm
  have hl : (cs.take m).length = m := by simp; omega
  conv => lhs; rw [h]
  rw [own_splice_left (by omega)]
  have h2 := splice_length (cs.take m) o vs (by omega)
  rw [List.take_append_of_le_length (by omega), List.take_of_length_le (by omega)]
section
variable {P : Program} {c : Cx} {ops : Array Oper} {Q : Exit → Act → World → Prop} {rest : List Oper} {S : List (Nat × Value)} {K : World → Prop} {L : List (Nat × TypeId × List Value)} {O : List Own} {X : List (World → Prop)}
variable {ty : TypeId} {pos : String} {aft : Array Edge}
/-- Some cells of an element of a row of the call's own are written: a struct. -/
theorem wl_storesE {α : Type} {enc : α → List Value} {t : TypeId} {x y : Operand} {g n cap sz o j r m : Nat} {e : TypeId} {vs : List Value} {l : List α} {el el' : α} (i : Nat) (hs : rowSz P t = some m) (hx : rd S x = some (.pointer (some ⟨g, o, none⟩))) (hy : rd S y = some (.agg vs.toArray)) (h1 : vs.all (·.oneCell') = true) (hn : vs.length = m)
    (hO : O[i]? = some ⟨.slice (some ⟨g, 0, none⟩) n cap, e, sz, n, l.flatMap enc⟩)
    (hk : ∀ x, (enc x).length = sz) (ho : 0 + j * sz + r = o) (hj : l[j]? = some el) (hl : l.length = n) (hr : r + m ≤ sz) (he : splice (enc el) r vs = enc el') (hT : c.Tt.contains e = false)
    (h : WL P c ops Q rest S K L (setOwn ⟨.slice (some ⟨g, 0, none⟩) n cap, e, sz, n, (l.set j el').flatMap enc⟩ O i) X) : WL P c ops Q (⟨none, .store t x y, ty, pos, aft, none⟩ :: rest) S K L O X := by
  intro a w ha hm
  have hown := hm.ownI i hO
  have hjl := (List.getElem?_eq_some_iff.1 hj).1
  have hlt : o + m ≤ n * sz := by
    have : (j + 1) * sz ≤ n * sz := Nat.mul_le_mul_right sz (by omega)
    rw [Nat.add_mul] at this
    omega
  obtain ⟨dd, hu, _, hi⟩ := run_row hs
  rcases hown.2 with ⟨h', _⟩ | ⟨g', cap', cur, h', hb, hg, hnc, hcm, hcs, htake⟩
  · simp at h'
  · simp only [Value.slice.injEq, Option.some.injEq, Addr.mk.injEq, and_true, true_and] at h'
    obtain ⟨rfl, rfl⟩ := h'
    have hbk : Blk w g e cur.toList := by unfold Blk; rw [Array.toArray_toList]; exact hg
    have hcl : n * sz ≤ cur.toList.length := by
      have := Nat.mul_le_mul_right sz hnc
      simp [hcs]; exact this
    refine wpList_store_blk rfl t x y rfl g o e cur.toList vs hbk (ha.eval hx) (ha.eval hy) m hi hn (by omega) (by simpa using h1) fun w' hb' hgr => ?_
    have hsl := splice_length cur.toList o vs (by omega)
    have hfl := flat_len enc sz hk (l.set j el')
    rw [List.length_set, hl] at hfl
    refine h _ _ ⟨ha.size, ha.val, ha.df⟩ (hm.append hO hT ⟨hfl, .inr ⟨g, cap, (splice cur.toList o vs).toArray, rfl, hb, hb', hnc, hcm, by simpa [hsl] using hcs, ?_⟩⟩ hgr (.inl rfl))
    rw [List.toList_toArray, own_take_splice hcl (by omega), htake, ← ho, Nat.zero_add, own_flat_splice enc sz hk hj he (by omega)]
section
variable {d nn : Nat} {Z : World → Prop}
/-- A quotient of numbers that are not below nought. -/
theorem ov_quo {t t' : TypeId} {x y : Operand} {m n : Int} (hx : rd S x = some (.int .i64 m)) (hy : rd S y = some (.int .i64 n)) (h0 : 0 ≤ m) (h1 : m ≤ 9223372036854775807) (h2 : 0 < n) : OV P nn S Z ⟨some d, .binOp .quo t x y t', ty, pos, aft, none⟩ (.int .i64 (m / n)) :=
  ov_bin hx hy (fun w => by
    have hq : m.tdiv n = m / n := Int.tdiv_eq_ediv_of_nonneg h0
    have hle : m / n ≤ m := Int.ediv_le_self n h0
    have hge : 0 ≤ m / n := Int.ediv_nonneg h0 (by omega)
    have hw : IntKind.i64.wrap (m / n) = m / n := IntWalk.i64_in _ (by omega)
    have hn : ¬ n = 0 := by omega
    simp [binOp_quo, Op.intDiv, hq, hw, hn, go_sem])
theorem ov_rem {t t' : TypeId} {x y : Operand} {m n : Int} (hx : rd S x = some (.int .i64 m)) (hy : rd S y = some (.int .i64 n)) (h0 : 0 ≤ m) (_h1 : m ≤ 9223372036854775807) (h2 : 0 < n) : OV P nn S Z ⟨some d, .binOp .rem t x y t', ty, pos, aft, none⟩ (.int .i64 (m % n)) :=
  ov_bin hx hy (fun w => by
    have hq : m.tmod n = m % n := Int.tmod_eq_emod_of_nonneg h0
    have hn : ¬ n = 0 := by omega
    simp [binOp_rem, Op.intDiv, hq, hn, go_sem])
theorem wl_guard_undef {o : Oper} {j : Nat} {b : Bool} {t : Nat} {op : Op} (ho : o = ⟨some d, op, ty, pos, aft, some (j, b)⟩) (hj : (ops[j]?).bind (·.dst) = some t) (hb : look S t = some undef) (hd : Nat.ble (d + 1) c.n = true) (h : WL P c ops Q rest ((d, undef) :: S) K L O X) : WL P c ops Q (o :: rest) S K L O X := by
  subst ho
  intro a w ha hm
  unfold wpList
  have hy : yielded ops a.tmps j = none := by
    unfold yielded
    rw [hj]
    simp [ha.val t _ hb, undef]
  rw [if_neg (by simp [Region.wanted, hy])]
  exact h _ _ (ha.put hd _) hm
theorem wa_take_undef {Z : World → Prop} {op : Op} {fuel : Nat} {listed listed' : Array Bool} {j t : Nat} {b : Bool} (i : Nat) (hi : ops[i]? = some ⟨some d, op, ty, pos, aft, some (j, b)⟩) (hj : (ops[j]?).bind (·.dst) = some t) (hb : look S t = some undef) (hs : Region.noSelect ops = true) (hf : Region.free .any ops listed i = true) (hr : (Region.ready .any ops listed).contains i = true) (hl : listed.setIfInBounds i true = listed')
    (hQ : ∀ cc a w, Q (.panic cc) (a.put (some d) undef) w → Q (.panic cc) a w) (hZ : ∀ w, Mem c K L O X w → Z w) (hd : Nat.ble (d + 1) c.n = true) (h : WA P c ops Q Z fuel listed' ((d, undef) :: S) K L O X) : WA P c ops Q Z (fuel + 1) listed S K L O X := by
  intro a w ha hm
  subst hl
  have hy : yielded ops a.tmps j = none := by
    unfold yielded
    rw [hj]
    simp [ha.val t _ hb, undef]
  exact wpAnyH_take hi hs hf hr hQ (.inr ⟨by simp [Region.wanted, hy], rfl⟩) (hZ w hm) (h _ _ (ha.put hd undef) hm)
end
/-- A call whose result holds a row of the call's own. -/
theorem wl_callgo {γ : Type} {f : FuncId} {x : Operand} {ags : List Operand} {ats : Array TypeId} {vs fs cs : List Value} {d : Nat} {val : γ → Value} {φ : γ → Prop} (r : γ → Own) (hx : rd S x = some (.func (.func f) fs.toArray cs.toArray)) (hf : callableB P f = true) (ha : evArgs S ags = some vs) (hd : Nat.ble (d + 1) c.n = true)
    (hC : ∀ w, Mem c K L O X w → Calls P f (fs ++ vs ++ cs).toArray w (fun e w' => ∃ g, e = .returned (val g) ∧ φ g ∧ w'.ownsRow w.heap.size (r g).e (r g).sz (r g).v (r g).n (r g).xs ∧ w.grownBy w' none)) (h : ∀ g, φ g → WL P c ops Q rest ((d, val g) :: S) K L (r g :: O) X) :
    WL P c ops Q (⟨some d, .call ⟨.value x, ags.toArray, ats⟩, ty, pos, aft, none⟩ :: rest) S K L O X :=
  wl_callG (γ := γ) (val := val) (φ := φ) (K' := fun _ => K) (L' := fun _ => L) (O' := fun g => r g :: O) (X' := fun _ => X) hx hf ha hd (fun w hm => (hC w hm).mono fun _ _ ⟨g, he, hφ, ho, hg⟩ => ⟨g, he, hφ, hm.newOwn hg ho⟩) h
end

end Go.Proofs.YtcggbojhalbkjaaGreatDoor
