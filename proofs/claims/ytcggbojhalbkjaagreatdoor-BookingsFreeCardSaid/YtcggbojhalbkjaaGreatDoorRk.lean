/- The walks of the reference's small checks: only, Key, Moment, TimeFault, readingFault. -/
import Derived.Test.YtcggbojhalbkjaaGreatDoorSh
import Derived.Test.YtcggbojhalbkjaaGreatDoorDl
import Derived.Test.YtcggbojhalbkjaaGreatDoorHc
import Derived.Lib.SlTrimSet
namespace Go.Proofs.YtcggbojhalbkjaaGreatDoor
open Go.RowKit

theorem dropWhile_nil_iff {α : Type} (p : α → Bool) : ∀ l : List α, l.dropWhile p = [] ↔ l.all p = true
  | [] => by simp
  | x :: r => by
    rw [List.dropWhile_cons]
    by_cases h : p x = true
    · rw [if_pos h, dropWhile_nil_iff p r]; simp [h]
    · rw [if_neg h]; simp [h]
theorem dropWhile_head {α : Type} (p : α → Bool) : ∀ {l : List α} {x : α} {r : List α}, l.dropWhile p = x :: r → p x = false
  | [], _, _, h => by cases h
  | y :: l, x, r, h => by
    rw [List.dropWhile_cons] at h
    by_cases hy : p y = true
    · rw [if_pos hy] at h; exact dropWhile_head p h
    · rw [if_neg hy] at h
      injection h with h1 _
      subst h1
      simpa using hy
theorem trimS_nil_iff (l cs : List UInt8) : Lib.trimS l cs = [] ↔ l.all (cs.contains ·) = true := by
  unfold Lib.trimS Lib.trimLeftS Lib.trimRightS
  rw [dropWhile_nil_iff, List.all_reverse]
  have hn : l.reverse.dropWhile (cs.contains ·) = [] ↔ l.all (cs.contains ·) = true := by rw [dropWhile_nil_iff, List.all_reverse]
  constructor
  · intro h
    cases hd : l.reverse.dropWhile (cs.contains ·) with
    | nil => exact hn.1 hd
    | cons x r =>
      rw [hd] at h
      have h4 := dropWhile_head _ hd
      rw [List.all_cons, h4] at h
      cases h
  · intro h
    rw [hn.2 h]; rfl

/-- All bytes of a string are among some. -/
def onlyB (l cs : List UInt8) : Bool := l.all (cs.contains ·)
def smalls : List UInt8 := [97, 98, 99, 100, 101, 102, 103, 104, 105, 106, 107, 108, 109, 110, 111, 112, 113, 114, 115, 116, 117, 118, 119, 120, 121, 122]
def keyBytes : List UInt8 := smalls ++ [48, 49, 50, 51, 52, 53, 54, 55, 56, 57, 45, 95]
theorem smalls_eq (c : UInt8) : smalls.contains c = smallB c := by
  have h : ∀ n : Fin 256, smalls.contains (UInt8.ofNat n.val) = smallB (UInt8.ofNat n.val) := by decide +kernel
  have := h ⟨c.toNat, c.toNat_lt⟩
  simpa using this
theorem keyBytes_eq (c : UInt8) : keyBytes.contains c = keyCharB c := by
  have h : ∀ n : Fin 256, keyBytes.contains (UInt8.ofNat n.val) = keyCharB (UInt8.ofNat n.val) := by decide +kernel
  have := h ⟨c.toNat, c.toNat_lt⟩
  simpa using this
theorem keyB_only (l : List UInt8) : keyLB l = (decide (1 ≤ l.length) && decide (l.length ≤ 40) && onlyB (l.take 1) smalls && onlyB l keyBytes) := by
  cases l with
  | nil => rfl
  | cons c r =>
    have h1 : onlyB ((c :: r).take 1) smalls = smallB c := by
      show (smalls.contains c && true) = _
      rw [smalls_eq, Bool.and_true]
    have h2 : onlyB (c :: r) keyBytes = (keyCharB c && keyRestB r) := by
      show (keyBytes.contains c && r.all (keyBytes.contains ·)) = _
      rw [keyBytes_eq, show (fun x => keyBytes.contains x) = keyCharB from funext keyBytes_eq]
      rfl
    have h3 : smallB c = true → keyCharB c = true := fun h => by simp [keyCharB, h]
    rw [h1, h2]
    unfold keyLB
    by_cases hs : smallB c = true
    · have hk := h3 hs
      simp only [hs, hk, Bool.true_and, Bool.and_true, List.length_cons]
      by_cases hl : r.length < 40
      · simp [hl, show r.length + 1 ≤ 40 by omega]
      · simp [hl, show ¬ r.length + 1 ≤ 40 by omega]
    · have hs' : smallB c = false := by simpa using hs
      simp [hs']

set_option maxHeartbeats 1000000 in
theorem only_any (s cs : ByteArray) (w : World) (hs : s.size ≤ 9223372036854775807) (hcs : cs.size < 4294967281) (ha : ∀ (j : Nat) b, cs.data.toList[j]? = some b → b.toNat < 128) :
    Calls Tryz.prog 114 #[.string s, .string cs] w fun e w' => e = .returned (.bool (onlyB s.data.toList cs.data.toList)) ∧ w.grownBy w' none := by
  have hcon := Any.strings_Trim_laid Tryz.lays160 (by kernel_rfl) s cs w hs hcs ha
  change Calls Tryz.prog 176 _ _ (fun e w' => e = .returned (.string ⟨(Lib.trimS s.data.toList cs.data.toList).toArray⟩) ∧ Below w.heap.size w w') at hcon
  have HR := Lib.hid (show onlyB s.data.toList cs.data.toList = (Lib.trimS s.data.toList cs.data.toList).isEmpty by
    have := trimS_nil_iff s.data.toList cs.data.toList
    cases h : Lib.trimS s.data.toList cs.data.toList with
    | nil => rw [h] at this; exact this.1 rfl
    | cons x r =>
      rw [h] at this
      have h2 : ¬ onlyB s.data.toList cs.data.toList = true := fun e => by have := this.2 e; cases this
      simpa using h2)
  obtain ⟨B, hB⟩ : ∃ B, B = onlyB s.data.toList cs.data.toList := ⟨_, rfl⟩
  rw [← hB] at HR ⊢
  obtain ⟨r, hr⟩ : ∃ r, r = Lib.trimS s.data.toList cs.data.toList := ⟨_, rfl⟩
  rw [← hr] at hcon HR
  clear hB hr
  go_enter Tryz.func114, Tryz.ntmps114
  go_wp2_with fail
  refine hcon.mono ?_
  rintro e w1 ⟨rfl, hb⟩
  go_wp2_with fail
  go_ret
  exact ⟨ret_bool (by rw [HR.out]), grow_of_below hb⟩

theorem only_small (s : ByteArray) (w : World) (hs : s.size ≤ 9223372036854775807) :
    Calls Tryz.prog 114 #[.string s, .string ⟨#[97, 98, 99, 100, 101, 102, 103, 104, 105, 106, 107, 108, 109, 110, 111, 112, 113, 114, 115, 116, 117, 118, 119, 120, 121, 122]⟩] w fun e w' => e = .returned (.bool (onlyB s.data.toList smalls)) ∧ w.grownBy w' none :=
  only_any s ⟨#[97, 98, 99, 100, 101, 102, 103, 104, 105, 106, 107, 108, 109, 110, 111, 112, 113, 114, 115, 116, 117, 118, 119, 120, 121, 122]⟩ w hs (by decide) (ascii_of_all (by decide))
theorem only_key (s : ByteArray) (w : World) (hs : s.size ≤ 9223372036854775807) :
    Calls Tryz.prog 114 #[.string s, .string ⟨#[97, 98, 99, 100, 101, 102, 103, 104, 105, 106, 107, 108, 109, 110, 111, 112, 113, 114, 115, 116, 117, 118, 119, 120, 121, 122, 48, 49, 50, 51, 52, 53, 54, 55, 56, 57, 45, 95]⟩] w fun e w' => e = .returned (.bool (onlyB s.data.toList keyBytes)) ∧ w.grownBy w' none :=
  only_any s ⟨#[97, 98, 99, 100, 101, 102, 103, 104, 105, 106, 107, 108, 109, 110, 111, 112, 113, 114, 115, 116, 117, 118, 119, 120, 121, 122, 48, 49, 50, 51, 52, 53, 54, 55, 56, 57, 45, 95]⟩ w hs (by decide) (ascii_of_all (by decide))
theorem extract_size_le (s : ByteArray) (a b : Nat) : (s.extract a b).size ≤ s.size := by rw [ByteArray.size_extract]; omega

set_option maxRecDepth 100000 in
set_option maxHeartbeats 1000000 in
theorem key_any (s : ByteArray) (w : World) (hs : s.size ≤ 9223372036854775807) :
    Calls Tryz.prog 65 #[.string s] w fun e w' => e = .returned (.bool (keyB s)) ∧ w.grownBy w' none := by
  have HK := Lib.hid (show keyB s = (inB (s.size : Int) 1 40 && onlyB (s.extract 0 1).data.toList smalls && onlyB s.data.toList keyBytes) by
    unfold keyB
    rw [keyB_only, Lib.extract_data]
    have e : s.data.toList.length = s.size := rfl
    rw [e]
    have h1 : inB (s.size : Int) 1 40 = (decide (1 ≤ s.size) && decide (s.size ≤ 40)) := by
      unfold inB
      congr 1 <;> simp <;> omega
    rw [h1]
    simp)
  obtain ⟨K, hK⟩ : ∃ K, K = keyB s := ⟨_, rfl⟩
  rw [← hK] at HK ⊢
  obtain ⟨I, hI⟩ : ∃ I, inB (s.size : Int) 1 40 = I := ⟨_, rfl⟩
  have CI := Lib.hid (fun w => (by rw [← hI]; exact rin_any _ _ _ _ : Calls Tryz.prog 97 #[.int .i64 (s.size : Int), .int .i64 1, .int .i64 40] w fun e w' => e = .returned (.bool I) ∧ w = w'))
  rw [hI] at HK
  have hI2 : I = true → 1 ≤ s.size := fun h => by rw [h] at hI; have := inB_iff.1 hI; omega
  clear hK hI
  obtain ⟨P, hP⟩ : ∃ P, onlyB (s.extract 0 1).data.toList smalls = P := ⟨_, rfl⟩
  obtain ⟨Q, hQ⟩ : ∃ Q, onlyB s.data.toList keyBytes = Q := ⟨_, rfl⟩
  have CP := Lib.hid (fun w => (by rw [← hP]; exact only_small _ _ (by have := extract_size_le s 0 1; omega) : Calls Tryz.prog 114 #[.string (s.extract 0 1), .string ⟨#[97, 98, 99, 100, 101, 102, 103, 104, 105, 106, 107, 108, 109, 110, 111, 112, 113, 114, 115, 116, 117, 118, 119, 120, 121, 122]⟩] w fun e w' => e = .returned (.bool P) ∧ w.grownBy w' none))
  have CQ := Lib.hid (fun w => (by rw [← hQ]; exact only_key _ _ hs : Calls Tryz.prog 114 #[.string s, .string ⟨#[97, 98, 99, 100, 101, 102, 103, 104, 105, 106, 107, 108, 109, 110, 111, 112, 113, 114, 115, 116, 117, 118, 119, 120, 121, 122, 48, 49, 50, 51, 52, 53, 54, 55, 56, 57, 45, 95]⟩] w fun e w' => e = .returned (.bool Q) ∧ w.grownBy w' none))
  rw [hP, hQ] at HK
  clear hP hQ
  go_enter Tryz.func65, Tryz.ntmps65
  go_wp2_with fail
  refine (CI.out _).mono ?_
  rintro e w1 ⟨rfl, rfl⟩
  cases I
  · go_wp2_with fail
    go_ret
    exact ⟨ret_bool (by rw [HK.out]; rfl), World.grownBy.refl _ _⟩
  · have h1 := hI2 rfl
    clear hI2
    go_wp2_with fail
    refine (CP.out _).mono ?_
    rintro e w1 ⟨rfl, hg1⟩
    cases P
    · go_wp2_with fail
      go_ret
      exact ⟨ret_bool (by rw [HK.out]; rfl), hg1⟩
    · go_wp2_with fail
      refine (CQ.out _).mono ?_
      rintro e w2 ⟨rfl, hg2⟩
      go_wp2_with fail
      go_ret
      exact ⟨ret_bool (by rw [HK.out]; rfl), grow_trans hg1 hg2⟩

set_option maxHeartbeats 400000 in
theorem rmoment_any (n : Int) (w : World) : Calls Tryz.prog 108 #[.int .i64 n] w fun e w' => e = .returned (.bool (inB n 0 5761439)) ∧ w = w' := by
  go_enter Tryz.func108, Tryz.ntmps108
  go_wp2_with fail
  refine (rin_any _ _ _ _).mono ?_
  rintro e w1 ⟨rfl, rfl⟩
  go_wp2_with fail
  go_ret
  exact ⟨rfl, rfl⟩

end Go.Proofs.YtcggbojhalbkjaaGreatDoor
