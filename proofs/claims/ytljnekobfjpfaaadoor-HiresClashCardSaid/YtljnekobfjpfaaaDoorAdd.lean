/- The walks of slices.Clone at lines and of Bill's own function that adds a line. -/
import Derived.Test.YtljnekobfjpfaaaDoorLn
import Derived.Test.YtljnekobfjpfaaaDoorOwn
import Derived.OneCell
namespace Go.Proofs.YtljnekobfjpfaaaDoor
open Go.RowKit

theorem ln_one (x : Ln) : ∀ v ∈ lnEnc x, v.oneCell' = true := by
  intro v hv
  simp [lnEnc] at hv
  rcases hv with rfl | rfl | rfl <;> rfl
theorem line_info : ∃ i z, Tryd.prog.info? 134 = some i ∧ i.zero = some z ∧ i.size = 3 ∧ i.bytes = 32 ∧ z.cells.size = 3 := info_parts (by kernel_rfl)

/-- A variable that holds a row of the call's own, which reads as the list. -/
def VarOwn (w : World) (base gv : Nat) (l : List Ln) : Prop :=
  ∃ v, w.heap[gv]? = some (.cells #[v] 125 (0, 0)) ∧ w.ownsRow base 134 3 v l.length (l.flatMap lnEnc) ∧ v.ownBlock ≠ some gv ∧ base ≤ gv

theorem ownsRow_grow {w w' : World} {base : Nat} {e : TypeId} {size : Nat} {v : Value} {n : Nat} {xs : List Value} (h : w.ownsRow base e size v n xs) (hg : w.grownBy w' none) : w'.ownsRow base e size v n xs := by
  obtain ⟨h1, h2⟩ := h
  refine ⟨h1, ?_⟩
  rcases h2 with h2 | ⟨g, cap, cur, hv, hb, hh, hr⟩
  · exact .inl h2
  · exact .inr ⟨g, cap, cur, hv, hb, (hg.block g (lt_of_block hh) (by simp)).trans hh, hr⟩
theorem VarOwn.grow {w w' : World} {base gv : Nat} {l : List Ln} (h : VarOwn w base gv l) (hg : w.grownBy w' none) : VarOwn w' base gv l := by
  obtain ⟨v, h1, h2, h3, h4⟩ := h
  exact ⟨v, (hg.block gv (lt_of_block h1) (by simp)).trans h1, ownsRow_grow h2 hg, h3, h4⟩
theorem VarOwn.drew {w : World} {base gv : Nat} {l : List Ln} (h : VarOwn w base gv l) : VarOwn w.drew base gv l := h
theorem Blk.below {w w' : World} {g base : Nat} {t : TypeId} {cs : List Value} (h : Blk w g t cs) (hb : Below base w w') (hg : g < base) : Blk w' g t cs := (hb.block g hg).trans h
theorem SlT.below {α : Type} {enc : α → List Value} {k : Nat} {T : TypeId} {w w' : World} {A : Option Addr} {n : Nat} {l : List α} (h : SlT enc k T w A n l) (hb : Below w.heap.size w w') : SlT enc k T w' A n l := h.kept fun b hlt _ => hb.block b hlt

def addLn (l : List Ln) (key : ByteArray) (cents : Int) : List Ln := if cents = 0 then l else l ++ [⟨6, key, cents⟩]

set_option maxRecDepth 100000 in
set_option maxHeartbeats 1000000 in
theorem add_any (key : ByteArray) (cents : Int) (base gv : Nat) (l : List Ln) (w : World) (hv : VarOwn w base gv l) (hl : l.length ≤ 1000000) :
    Calls Tryd.prog 137 #[.string key, .int .i64 cents, .pointer (some ⟨gv, 0, none⟩)] w (fun e w' => (∃ r, e = .returned r) ∧ VarOwn w' base gv (addLn l key cents) ∧ Below base w w') := by
  obtain ⟨v, hvar, hown, hne, hbase⟩ := hv
  obtain ⟨i0, z0, hi, hz, hsz, hby, hzs⟩ := line_info
  by_cases h0 : cents = 0
  · subst h0
    go_enter Tryd.func137, Tryd.ntmps137
    go_wp2_with fail
    go_end0
    exact ⟨⟨_, rfl⟩, ⟨v, hvar, hown, hne, hbase⟩, Below.refl _ _⟩
  · have hq : (cents != 0) = true := by simpa using h0
    have hgl := lt_of_block hvar
    have hc := cell_of_one hvar
    have HL := Lib.hid (show addLn l key cents = l ++ [⟨6, key, cents⟩] by unfold addLn; rw [if_neg h0])
    have hnews : ∀ j u, (lnEnc ⟨6, key, cents⟩)[j]? = some u → (w.alloc (.cells #[.int .i64 6, .string key, .int .i64 cents] 134)).cell? ((⟨w.heap.size, 0, none⟩ : Addr).add j) = some u := fun j u hj => by
      have hb := Blk.at_ w rfl 134 (lnEnc ⟨6, key, cents⟩)
      have := hb.cell_of hj
      have ha : (⟨w.heap.size, 0, none⟩ : Addr).add j = ⟨w.heap.size, j, none⟩ := by
        unfold Addr.add
        split
        · rename_i h; subst h; rfl
        · simp
      rw [ha]; exact this
    have Hnews := Lib.hid hnews
    clear h0 hnews
    go_enter Tryd.func137, Tryd.ntmps137
    go_wp2_with (at_builtin; refine wpList_append_own_at _ rfl _ _ 125 rfl base 134 i0 z0 3 32 Tryd.underlying125 hi hz hsz hby hzs (by decide) v l.length (l.flatMap lnEnc) rfl (hown.alloc _) ⟨w.heap.size, 0, none⟩ 1 1 (lnEnc ⟨6, key, cents⟩) rfl rfl Hnews.out (ln_one _) (by unfold maxLen; omega) (by omega) (by simp; omega) ?_; intro v' w' hown' hgrow hnil hat; have hv' : ∃ g cap, v' = .slice (some ⟨g, 0, none⟩) (l.length + 1) cap := hown'.2.elim (fun h => absurd h.2 (by omega)) (fun ⟨g, cap, _, h, _⟩ => ⟨g, cap, h⟩); obtain ⟨g, cap, rfl⟩ := hv'; have hvar' := (hgrow.block gv (by simp; omega) (fun h => hne h.symm)).trans ((Below.heap_alloc w _ gv hgl).trans hvar); have hc' := cell_of_one hvar'; have hf' := free_of_one hvar')
    have hgne : (Value.slice (some ⟨g, 0, none⟩) (l.length + 1) cap).ownBlock ≠ some gv := by
      rcases hat with h | h
      · rw [h]; exact hne
      · rw [h]; simp; omega
    go_end0
    refine ⟨⟨_, rfl⟩, ?_, ?_⟩
    · rw [HL.out]
      refine ⟨_, one_setCell hvar', ?_, hgne, hbase⟩
      have := ownsRow_setCell_other hown' (a := ⟨gv, 0, none⟩) hgne (.slice (some ⟨g, 0, none⟩) (l.length + 1) cap)
      simpa using this
    · have hr : ∀ k, v.ownBlock = some k → base ≤ k := fun k hk => by
        rcases hown.2 with ⟨h, _⟩ | ⟨g', cap', _, h, hg', _⟩
        · rw [h] at hk; cases hk
        · rw [h] at hk; cases hk; exact hg'
      exact (((Below.refl base w).alloc (by omega) _).grown hgrow (by simp; omega) hr).setCell hbase _

set_option maxRecDepth 100000 in
set_option maxHeartbeats 1000000 in
theorem cloneLines_any (l : List Ln) (A : Option Addr) (n c : Nat) (w : World) (hl : SlT lnEnc 3 134 w A n l) (hn0 : 0 < n) (hn : n ≤ 1000000) :
    Calls Tryd.prog 136 #[.slice A n c] w (fun e w' => ∃ g c', e = .returned (.slice (some ⟨g, 0, none⟩) n c') ∧ OwnT lnEnc 3 134 w' w.heap.size g n c' l ∧ w.grownBy w' none) := by
  obtain ⟨b, off, rfl, hbl, hfl⟩ := hl.flat ln_len hn0
  have hlen := hl.len
  obtain ⟨i0, z0, hi, hz, hsz, hby, hzs⟩ := line_info
  have hnews : ∀ (o : Obj) j u, (l.flatMap lnEnc)[j]? = some u → (w.alloc o).cell? ((⟨b, off, none⟩ : Addr).add j) = some u := fun o j u hj =>
    (World.cell?_of_block (Below.heap_alloc w o _ (by unfold Addr.add; split <;> exact hbl))).trans (hfl j u hj)
  have hone := flat_one lnEnc ln_one l
  have hll := flat_len lnEnc 3 ln_len l
  rw [hlen] at hll
  clear hfl hl
  have Hnews := Lib.hid hnews
  clear hnews
  have he : ∀ w : World, (binOp .eql 125 (.slice (some ⟨b, off, none⟩) n c) (.slice none 0 0)).run Tryd.prog w = .ok (.bool false) w := fun _ => rfl
  go_enter Tryd.func136, Tryd.ntmps136
  go_wp2_with (at_builtin; refine wpList_append_own_at _ rfl _ _ 125 rfl w.heap.size 134 i0 z0 3 32 Tryd.underlying125 hi hz hsz hby hzs (by decide) (.slice (some ⟨w.heap.size, 0, none⟩) 0 0) 0 [] rfl ⟨rfl, .inr ⟨w.heap.size, 0, #[], rfl, Nat.le_refl _, heap_alloc_new w _, Nat.le_refl _, by decide, rfl, rfl⟩⟩ ⟨b, off, none⟩ n c (l.flatMap lnEnc) rfl hll (Hnews.out _) hone (by unfold maxLen; omega) (by omega) (by simp) ?_; intro v' w' hown hgrow hnil hat)
  rw [Nat.zero_add, List.nil_append] at hown
  have hown2 := hown
  obtain ⟨_, ho⟩ := hown2
  rcases ho with ⟨_, h0⟩ | ⟨g, cap, cur, rfl, hg, _⟩
  · omega
  · go_ret
    exact ⟨g, cap, rfl, ⟨hg, hown⟩, grow_own (grow_alloc (World.grownBy.refl _ _) _) hgrow (fun k h => by cases h; exact Nat.le_refl _)⟩

set_option maxRecDepth 100000 in
set_option maxHeartbeats 400000 in
theorem cloneLines_nil (w : World) : Calls Tryd.prog 136 #[.slice none 0 0] w (fun e w' => e = .returned (.slice none 0 0) ∧ w = w') := by
  have he : ∀ w : World, (binOp .eql 125 (.slice none 0 0) (.slice none 0 0)).run Tryd.prog w = .ok (.bool true) w := fun _ => rfl
  go_enter Tryd.func136, Tryd.ntmps136
  go_wp2_with fail
  go_ret
  exact ⟨rfl, rfl⟩

end Go.Proofs.YtljnekobfjpfaaaDoor
