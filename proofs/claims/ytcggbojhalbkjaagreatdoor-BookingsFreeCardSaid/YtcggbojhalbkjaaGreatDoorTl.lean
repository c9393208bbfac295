/- The plain law of codes: the code that takes the most off, sought by keys and by codes. -/
import Derived.Test.YtcggbojhalbkjaaGreatDoorTp
import Derived.Test.YtcggbojhalbkjaaGreatDoorWkey
namespace Go.Proofs.YtcggbojhalbkjaaGreatDoor

structure Cd where
  key : ByteArray
  cls : ByteArray
  fr : Int
  to_ : Int
  days : Int
  mille : Int
def CdOk (x : Cd) : Prop := x.key.size ≤ 1000000 ∧ x.cls.size ≤ 1000000
def emptyS (s : ByteArray) : Bool := s.toList == (⟨#[]⟩ : ByteArray).toList
def leCd (p : Option Cd) (b : Cd) : Bool := match p with
  | none => false
  | some q => leB b.key q.key
def codeE (p : Option Cd) (b : Cd) : Int :=
  if !keyB b.key then 5 else if leCd p b then 7 else if !emptyS b.cls && !keyB b.cls then 5 else if !inB b.fr 0 b.to_ then 1 else if 4001 < b.to_ then 1 else if !inB b.days 1 120 then 1 else if !inB b.mille 1 1000 then 1 else 0
def codesE (l : List Cd) : Int := if 50 < l.length then 2 else scanE codeE none l
def prevCd (l : List Cd) (k : Nat) : ByteArray := match prevOf l k with
  | none => ⟨#[]⟩
  | some q => q.key
theorem prevCd_succ {l : List Cd} {k : Nat} {x : Cd} (h : l[k]? = some x) : prevCd l (k + 1) = x.key := by
  unfold prevCd prevOf; rw [if_neg (by omega), Nat.add_sub_cancel, h]
theorem leB_lt {a b : ByteArray} (h : leB b a = false) : Go.Op.bytesLess a.toList b.toList = true := by
  unfold leB at h
  simp only [Bool.or_eq_false_iff] at h
  cases h2 : Go.Op.bytesLess a.toList b.toList
  · have e := bl_tri h2 h.1
    rw [e] at h; simp at h
  · rfl
theorem codeE_ok {p : Option Cd} {b : Cd} (h : codeE p b = 0) : keyB b.key = true ∧ leCd p b = false ∧ (0 ≤ b.fr ∧ b.fr ≤ b.to_ ∧ b.to_ ≤ 4001) ∧ (1 ≤ b.days ∧ b.days ≤ 120) ∧ (1 ≤ b.mille ∧ b.mille ≤ 1000) := by
  unfold codeE at h
  cases h1 : keyB b.key
  · rw [h1] at h; simp at h
  · cases h2 : leCd p b
    · rw [h1, h2] at h
      simp only [Bool.not_true, Bool.false_eq_true, if_false] at h
      split at h
      · cases h
      · split at h
        · cases h
        · split at h
          · cases h
          · split at h
            · cases h
            · split at h
              · cases h
              · rename_i h3 h4 h5 h6
                have h3 := inB_iff.1 (by simpa using h3)
                have h5 := inB_iff.1 (by simpa using h5)
                have h6 := inB_iff.1 (by simpa using h6)
                exact ⟨rfl, rfl, by omega, h5, h6⟩
    · rw [h1, h2] at h; simp at h
theorem codesE_ok {l : List Cd} (h : codesE l = 0) : l.length ≤ 50 ∧ l.Pairwise (fun q r => Go.Op.bytesLess q.key.toList r.key.toList = true) ∧ ∀ b ∈ l, keyB b.key = true ∧ (0 ≤ b.fr ∧ b.fr ≤ b.to_ ∧ b.to_ ≤ 4001) ∧ (1 ≤ b.days ∧ b.days ≤ 120) ∧ (1 ≤ b.mille ∧ b.mille ≤ 1000) := by
  unfold codesE at h
  split at h
  · cases h
  · refine ⟨by omega, (scan_pair (R := fun q r => Go.Op.bytesLess q.key.toList r.key.toList = true) (fun q x hq => leB_lt (codeE_ok hq).2.1) (fun _ _ _ => bl_trans) h).1, fun b hb => ?_⟩
    obtain ⟨q, hq⟩ := scan_each h b hb
    obtain ⟨h1, _, h2⟩ := codeE_ok hq
    exact ⟨h1, h2⟩
def codeP (k : ByteArray) (x : Cd) : Bool := x.key.toList == k.toList
theorem ix_any {α : Type} {p : α → Bool} {l : List α} : decide (0 ≤ ixP p l 0) = l.any p := by
  rcases ixP_spec (p := p) l 0 with ⟨h, h2⟩ | ⟨j, y, h, hj, hp, _⟩
  · rw [h, decide_eq_false (by omega)]
    exact (List.any_eq_false.2 fun x hx => by simpa using h2 x hx).symm
  · rw [h, decide_eq_true (by omega)]
    exact (List.any_eq_true.2 ⟨y, List.mem_of_getElem? hj, hp⟩).symm
/-- The error of keys that are asked for. -/
def askG (has : ByteArray → Bool) : List ByteArray → List ByteArray → Int
  | _, [] => 0
  | seen, k :: r => if has k = false then 8 else if seen.any (fun y => k.toList == y.toList) = true then 6 else askG has (seen ++ [k]) r
def askE (has : ByteArray → Bool) (keys : List ByteArray) : Int := if 10 < keys.length then 2 else askG has [] keys
theorem askG_at {has : ByteArray → Bool} {keys : List ByteArray} {i : Nat} {k : ByteArray} (h : keys[i]? = some k) : askG has (keys.take i) (keys.drop i) = if has k = false then 8 else if (keys.take i).any (fun y => k.toList == y.toList) = true then 6 else askG has (keys.take (i + 1)) (keys.drop (i + 1)) := by
  obtain ⟨hi, rfl⟩ := List.getElem?_eq_some_iff.1 h
  rw [List.drop_eq_getElem_cons hi]
  simp only [askG]
  rw [List.take_add_one, List.getElem?_eq_getElem hi]
  rfl
theorem askG_ok {has : ByteArray → Bool} : ∀ {keys seen : List ByteArray}, askG has seen keys = 0 → ∀ k ∈ keys, has k = true
  | [], _, _, _, h => by cases h
  | x :: r, seen, h, k, hk => by
    unfold askG at h
    split at h
    · cases h
    · split at h
      · cases h
      · rename_i h1 _
        rcases List.mem_cons.1 hk with rfl | hk
        · simpa using h1
        · exact askG_ok h k hk
theorem askE_ok {has : ByteArray → Bool} {keys : List ByteArray} (h : askE has keys = 0) : keys.length ≤ 10 ∧ ∀ k ∈ keys, has k = true := by
  unfold askE at h
  split at h
  · cases h
  · exact ⟨by omega, askG_ok h⟩
def offV (cents : Int) (c : Cd) : Int := cents * c.mille / 1000
def countsB (c : Cd) (cls : ByteArray) (fr tt : Int) : Bool := (emptyS c.cls || c.cls.toList == cls.toList) && inB (fr / 1440) c.fr (c.to_ - 1) && decide (c.days ≤ daysV fr tt)
/-- One step of the search by keys. -/
def bestS (l : List Cd) (cls : ByteArray) (fr tt cents : Int) (st : ByteArray × Int) (k : ByteArray) : ByteArray × Int :=
  match l[(ixP (codeP k) l 0).toNat]? with
  | none => st
  | some c => if countsB c cls fr tt = true ∧ (emptyS st.1 = true ∨ st.2 < offV cents c ∨ (offV cents c = st.2 ∧ ltS k st.1 = true)) then (k, offV cents c) else st
def bestK (l : List Cd) (keys : List ByteArray) (cls : ByteArray) (fr tt cents : Int) : ByteArray × Int := keys.foldl (bestS l cls fr tt cents) (⟨#[]⟩, 0)
/-- One step of the search by codes. -/
def bestT (keys : List ByteArray) (cls : ByteArray) (fr tt cents : Int) (st : ByteArray × Int) (c : Cd) : ByteArray × Int :=
  if keys.any (fun y => c.key.toList == y.toList) = true ∧ countsB c cls fr tt = true ∧ st.2 < offV cents c then (c.key, offV cents c) else st
def bestC (l : List Cd) (keys : List ByteArray) (cls : ByteArray) (fr tt cents : Int) : ByteArray × Int := l.foldl (bestT keys cls fr tt cents) (⟨#[]⟩, -1)
section
variable {l : List Cd} {keys : List ByteArray} {cls : ByteArray} {fr tt cents : Int}
/-- The best of some codes. -/
def IsTop (cents : Int) (G : Cd → Prop) (z : Int) (st : ByteArray × Int) : Prop :=
  ((∀ c, ¬ G c) ∧ st = (⟨#[]⟩, z)) ∨ ∃ c, G c ∧ st.1.toList = c.key.toList ∧ st.2 = offV cents c ∧ ∀ d, G d → offV cents d < offV cents c ∨ (offV cents d = offV cents c ∧ Go.Op.bytesLess d.key.toList c.key.toList = false)
theorem isTop_one {G : Cd → Prop} {z y : Int} {s t : ByteArray × Int} (h : IsTop cents G z s) (g : IsTop cents G y t) : ((∀ c, ¬ G c) ∧ s = (⟨#[]⟩, z) ∧ t = (⟨#[]⟩, y)) ∨ (s.1.toList = t.1.toList ∧ s.2 = t.2 ∧ ∃ c, G c ∧ s.2 = offV cents c) := by
  rcases h with ⟨h1, h2⟩ | ⟨c, h1, h2, h3, h4⟩ <;> rcases g with ⟨g1, g2⟩ | ⟨d, g1, g2, g3, g4⟩
  · exact .inl ⟨h1, h2, g2⟩
  · exact absurd g1 (h1 d)
  · exact absurd h1 (g1 c)
  · have a := h4 d g1
    have b := g4 c h1
    refine .inr ⟨?_, ?_, c, h1, h3⟩
    · rw [h2, g2]
      rcases a with a | ⟨a, a2⟩ <;> rcases b with b | ⟨b, b2⟩
      · omega
      · omega
      · omega
      · exact bl_tri b2 a2
    · rw [h3, g3]; omega
theorem key_ne {s : ByteArray} (h : keyB s = true) : emptyS s = false := by
  unfold emptyS
  obtain ⟨⟨l⟩⟩ := s
  cases l with
  | nil => cases h
  | cons c r => rw [ByteArray.toList_eq, ByteArray.toList_eq]; rfl
theorem emptyS_eq {s t : ByteArray} (h : s.toList = t.toList) : emptyS s = emptyS t := by unfold emptyS; rw [h]
/-- Codes with the same key are the same. -/
theorem code_same (hp : l.Pairwise (fun q r => Go.Op.bytesLess q.key.toList r.key.toList = true)) {c d : Cd} (hc : c ∈ l) (hd : d ∈ l) (h : c.key.toList = d.key.toList) : c = d := by
  obtain ⟨i, hi, rfl⟩ := List.getElem_of_mem hc
  obtain ⟨j, hj, rfl⟩ := List.getElem_of_mem hd
  rcases Nat.lt_trichotomy i j with hij | rfl | hij
  · exact absurd h (bl_ne (List.pairwise_iff_getElem.1 hp i j hi hj hij))
  · rfl
  · exact absurd h.symm (bl_ne (List.pairwise_iff_getElem.1 hp j i hj hi hij))
/-- The codes that count, among the first keys. -/
def GK (l : List Cd) (ks : List ByteArray) (cls : ByteArray) (fr tt : Int) (c : Cd) : Prop := c ∈ l ∧ countsB c cls fr tt = true ∧ ks.any (fun y => c.key.toList == y.toList) = true
theorem bestK_top (h0 : codesE l = 0) : ∀ (done rest : List ByteArray) (st : ByteArray × Int), (∀ k ∈ rest, l.any (codeP k) = true) → IsTop cents (GK l done cls fr tt) 0 st → IsTop cents (GK l (done ++ rest) cls fr tt) 0 (rest.foldl (bestS l cls fr tt cents) st)
  | done, [], st, _, h => by simpa using h
  | done, k :: r, st, hk, h => by
    obtain ⟨_, hp, hall⟩ := codesE_ok h0
    have hstep : IsTop cents (GK l (done ++ [k]) cls fr tt) 0 (bestS l cls fr tt cents st k) := by
      have hin := hk k (List.mem_cons_self ..)
      rw [← ix_any] at hin
      obtain ⟨c, hc, hcp⟩ := ixP_get (p := codeP k) (l := l) (of_decide_eq_true hin)
      have hcl := List.mem_of_getElem? hc
      have hck : c.key.toList = k.toList := by unfold codeP at hcp; simpa using hcp
      have hG : ∀ d, GK l (done ++ [k]) cls fr tt d ↔ GK l done cls fr tt d ∨ (d = c ∧ countsB c cls fr tt = true) := fun d => by
        unfold GK
        rw [List.any_append, Bool.or_eq_true]
        constructor
        · rintro ⟨h1, h2, h3 | h3⟩
          · exact .inl ⟨h1, h2, h3⟩
          · have e : d = c := code_same hp h1 hcl (by rw [hck]; simpa using h3)
            exact .inr ⟨e, e ▸ h2⟩
        · rintro (⟨h1, h2, h3⟩ | ⟨rfl, h2⟩)
          · exact ⟨h1, h2, .inl h3⟩
          · exact ⟨hcl, h2, .inr (by simp [hck])⟩
      unfold bestS
      rw [hc]
      dsimp only
      by_cases hcb : countsB c cls fr tt = true
      · by_cases hb : emptyS st.1 = true ∨ st.2 < offV cents c ∨ (offV cents c = st.2 ∧ ltS k st.1 = true)
        · rw [if_pos ⟨hcb, hb⟩]
          refine .inr ⟨c, (hG c).2 (.inr ⟨rfl, hcb⟩), hck.symm, rfl, fun d hd => ?_⟩
          rcases (hG d).1 hd with hd | ⟨rfl, _⟩
          · rcases h with ⟨h1, _⟩ | ⟨b, hbG, hb1, hb2, hb3⟩
            · exact absurd hd (h1 d)
            · have hbe : emptyS st.1 = false := by rw [emptyS_eq hb1]; exact key_ne (hall b hbG.1).1
              have h4 := hb3 d hd
              rcases hb with hb | hb | ⟨hb, hlt⟩
              · rw [hbe] at hb; cases hb
              · left; omega
              · rcases h4 with h4 | ⟨h4, h5⟩
                · left; omega
                · right
                  refine ⟨by omega, ?_⟩
                  unfold ltS at hlt
                  rw [hb1] at hlt
                  rw [hck]
                  cases h6 : Go.Op.bytesLess d.key.toList k.toList
                  · rfl
                  · rw [bl_trans h6 hlt] at h5; cases h5
          · right; exact ⟨rfl, bl_irrefl _⟩
        · rw [if_neg (fun e => hb e.2)]
          simp only [not_or, not_and] at hb
          obtain ⟨hb1, hb2, hb3⟩ := hb
          rcases h with ⟨_, h2⟩ | ⟨b, hbG, g1, g2, g3⟩
          · rw [h2] at hb1; exact absurd (by unfold emptyS; exact beq_self_eq_true _) hb1
          · refine .inr ⟨b, (hG b).2 (.inl hbG), g1, g2, fun d hd => ?_⟩
            rcases (hG d).1 hd with hd | ⟨rfl, _⟩
            · exact g3 d hd
            · by_cases he : offV cents d = st.2
              · right
                refine ⟨by omega, ?_⟩
                have := hb3 he
                unfold ltS at this
                rw [g1, ← hck] at this
                simpa using this
              · left; omega
      · rw [if_neg (fun e => hcb e.1)]
        have hG2 : ∀ d, GK l (done ++ [k]) cls fr tt d ↔ GK l done cls fr tt d := fun d => by
          rw [hG]
          exact ⟨fun e => e.elim id (fun e => absurd e.2 hcb), .inl⟩
        rcases h with ⟨h1, h2⟩ | ⟨b, hbG, g1, g2, g3⟩
        · exact .inl ⟨fun d hd => h1 d ((hG2 d).1 hd), h2⟩
        · exact .inr ⟨b, (hG2 b).2 hbG, g1, g2, fun d hd => g3 d ((hG2 d).1 hd)⟩
    have := bestK_top h0 (done ++ [k]) r _ (fun x hx => hk x (List.mem_cons_of_mem _ hx)) hstep
    simpa using this
theorem bestC_top (hc0 : 0 ≤ cents) (h0 : ∀ c ∈ l, 1 ≤ c.mille) (keys : List ByteArray) : ∀ (done rest : List Cd) (st : ByteArray × Int), done ++ rest = l → l.Pairwise (fun q r => Go.Op.bytesLess q.key.toList r.key.toList = true) → IsTop cents (fun c => c ∈ done ∧ countsB c cls fr tt = true ∧ keys.any (fun y => c.key.toList == y.toList) = true) (-1) st → IsTop cents (fun c => c ∈ l ∧ countsB c cls fr tt = true ∧ keys.any (fun y => c.key.toList == y.toList) = true) (-1) (rest.foldl (bestT keys cls fr tt cents) st)
  | done, [], st, e, _, h => by rw [List.append_nil] at e; subst e; exact h
  | done, c :: r, st, e, hp, h => by
    have hoff : 0 ≤ offV cents c := by
      have hm := h0 c (by rw [← e]; simp)
      unfold offV
      exact Int.ediv_nonneg (Int.mul_nonneg hc0 (by omega)) (by omega)
    have hlt : ∀ d ∈ done, Go.Op.bytesLess d.key.toList c.key.toList = true := fun d hd => by
      rw [← e] at hp
      exact (List.pairwise_append.1 hp).2.2 d hd c (List.mem_cons_self ..)
    refine bestC_top hc0 h0 keys (done ++ [c]) r _ (by rw [List.append_assoc]; exact e) hp ?_
    have hG : ∀ d, (d ∈ done ++ [c] ∧ countsB d cls fr tt = true ∧ keys.any (fun y => d.key.toList == y.toList) = true) ↔ (d ∈ done ∧ countsB d cls fr tt = true ∧ keys.any (fun y => d.key.toList == y.toList) = true) ∨ (d = c ∧ countsB c cls fr tt = true ∧ keys.any (fun y => c.key.toList == y.toList) = true) := fun d => by
      rw [List.mem_append, List.mem_singleton]
      constructor
      · rintro ⟨h1 | rfl, h2⟩
        · exact .inl ⟨h1, h2⟩
        · exact .inr ⟨rfl, h2⟩
      · rintro (⟨h1, h2⟩ | ⟨rfl, h2⟩)
        · exact ⟨.inl h1, h2⟩
        · exact ⟨.inr rfl, h2⟩
    unfold bestT
    by_cases hb : keys.any (fun y => c.key.toList == y.toList) = true ∧ countsB c cls fr tt = true ∧ st.2 < offV cents c
    · rw [if_pos hb]
      refine .inr ⟨c, (hG c).2 (.inr ⟨rfl, hb.2.1, hb.1⟩), rfl, rfl, fun d hd => ?_⟩
      rcases (hG d).1 hd with hd | ⟨rfl, _⟩
      · rcases h with ⟨h1, _⟩ | ⟨b, _, _, g2, g3⟩
        · exact absurd hd (h1 d)
        · have := g3 d hd
          have := hb.2.2
          left; omega
      · right; exact ⟨rfl, bl_irrefl _⟩
    · rw [if_neg hb]
      by_cases hc : countsB c cls fr tt = true ∧ keys.any (fun y => c.key.toList == y.toList) = true
      · rcases h with ⟨_, h2⟩ | ⟨b, hbG, g1, g2, g3⟩
        · rw [h2] at hb
          exact absurd ⟨hc.2, hc.1, show (-1 : Int) < offV cents c by omega⟩ hb
        · refine .inr ⟨b, (hG b).2 (.inl hbG), g1, g2, fun d hd => ?_⟩
          rcases (hG d).1 hd with hd | ⟨rfl, _⟩
          · exact g3 d hd
          · by_cases he : offV cents d = offV cents b
            · right; exact ⟨he, bl_asymm (hlt b hbG.1)⟩
            · left
              have : ¬ st.2 < offV cents d := fun e => hb ⟨hc.2, hc.1, e⟩
              omega
      · have hG2 : ∀ d, (d ∈ done ++ [c] ∧ countsB d cls fr tt = true ∧ keys.any (fun y => d.key.toList == y.toList) = true) ↔ (d ∈ done ∧ countsB d cls fr tt = true ∧ keys.any (fun y => d.key.toList == y.toList) = true) := fun d => by
          rw [hG]
          exact ⟨fun e => e.elim id (fun e => absurd e.2 hc), .inl⟩
        rcases h with ⟨h1, h2⟩ | ⟨b, hbG, g1, g2, g3⟩
        · exact .inl ⟨fun d hd => h1 d ((hG2 d).1 hd), h2⟩
        · exact .inr ⟨b, (hG2 b).2 hbG, g1, g2, fun d hd => g3 d ((hG2 d).1 hd)⟩
/-- Both searches find the same. -/
theorem best_same (h0 : codesE l = 0) (hk : ∀ k ∈ keys, l.any (codeP k) = true) (hc0 : 0 ≤ cents) : (bestK l keys cls fr tt cents).1.toList = (bestC l keys cls fr tt cents).1.toList ∧ (bestK l keys cls fr tt cents).2 = max 0 (bestC l keys cls fr tt cents).2 := by
  obtain ⟨_, hp, hall⟩ := codesE_ok h0
  have hm : ∀ c ∈ l, 1 ≤ c.mille := fun c hc => (hall c hc).2.2.2.1
  have h1 := bestK_top (cls := cls) (fr := fr) (tt := tt) (cents := cents) h0 [] keys (⟨#[]⟩, 0) hk (.inl ⟨fun c h => by have := h.2.2; simp at this, rfl⟩)
  have h2 := bestC_top (cls := cls) (fr := fr) (tt := tt) hc0 hm keys [] l (⟨#[]⟩, -1) rfl hp (.inl ⟨fun c h => by simp at h, rfl⟩)
  rw [List.nil_append] at h1
  rcases isTop_one h1 h2 with ⟨_, e1, e2⟩ | ⟨e1, e2, c, hc, e3⟩
  · unfold bestK bestC
    rw [e1, e2]; exact ⟨rfl, by decide⟩
  · have hoff : 0 ≤ offV cents c := by
      unfold offV
      exact Int.ediv_nonneg (Int.mul_nonneg hc0 (by have := hm c hc.1; omega)) (by omega)
    unfold bestK bestC
    refine ⟨e1, ?_⟩
    rw [← e2, e3]; omega
end

end Go.Proofs.YtcggbojhalbkjaaGreatDoor
