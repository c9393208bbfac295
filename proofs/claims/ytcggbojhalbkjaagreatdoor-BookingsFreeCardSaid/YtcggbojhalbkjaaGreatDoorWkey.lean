/- The walk of word.IsKey: it says whether a string is a key. -/
import Derived.Test.YtcggbojhalbkjaaGreatDoorWa
import Derived.Lib.Strings
namespace Go.Proofs.YtcggbojhalbkjaaGreatDoor
open Go.RowKit

/-- The letter at place j of a key. -/
def okAtB (j : Nat) (c : UInt8) : Bool := smallB c || (decide (j ≠ 0) && keyCharB c)
def okUptoB (l : List UInt8) (k : Nat) : Bool := (l.take k).zipIdx.all fun x => okAtB x.2 x.1

theorem okUpto_succ (l : List UInt8) (k : Nat) (h : k < l.length) : okUptoB l (k + 1) = (okUptoB l k && okAtB k l[k]) := by
  unfold okUptoB
  rw [List.take_succ_eq_append_getElem h, List.zipIdx_append, List.all_append]
  simp [Nat.min_eq_left (Nat.le_of_lt h)]
theorem okUpto_false (l : List UInt8) (k : Nat) (h : k < l.length) (hk : okAtB k l[k] = false) : okUptoB l l.length = false := by
  unfold okUptoB
  rw [List.take_length, List.all_eq_false]
  exact ⟨(l[k], k), by rw [List.mem_zipIdx_iff_getElem?]; simp [List.getElem?_eq_getElem h], by simp [hk]⟩
theorem all_from (r : List UInt8) (j : Nat) (hj : j ≠ 0) : ((r.zipIdx j).all fun x => okAtB x.2 x.1) = keyRestB r := by
  induction r generalizing j with
  | nil => rfl
  | cons c r ih =>
    have : okAtB j c = keyCharB c := by
      have hd : decide (j ≠ 0) = true := by simpa using hj
      simp only [okAtB, keyCharB, hd]
      cases smallB c <;> simp
    simp [List.zipIdx_cons, ih (j + 1) (by omega), keyRestB, this]
theorem keyLB_eq (l : List UInt8) : keyLB l = (okUptoB l l.length && !l.isEmpty && decide (l.length ≤ 40)) := by
  cases l with
  | nil => rfl
  | cons c r =>
    unfold okUptoB
    rw [List.take_length, List.zipIdx_cons]
    have h1 := all_from r 1 (by omega)
    have h2 : okAtB 0 c = smallB c := by simp [okAtB]
    have h3 : decide (r.length < 40) = decide (r.length + 1 ≤ 40) := by congr 1
    simp [keyLB, h1, h2, h3]

theorem okAt_small {k : Nat} {c : UInt8} (h1 : (97 : Int) ≤ (c.toNat : Int)) (h2 : (c.toNat : Int) ≤ 122) : okAtB k c = true := by
  have : smallB c = true := by simp [smallB]; omega
  simp [okAtB, this]
theorem okAt_no0 {k : Nat} {c : UInt8} (hk : k = 0) (h1 : (c.toNat : Int) < 97 ∨ (122 : Int) < (c.toNat : Int)) : okAtB k c = false := by
  subst hk; simp [okAtB, smallB]; omega
theorem okAt_more {k : Nat} {c : UInt8} (hk : k ≠ 0) (h : ((48 : Int) ≤ (c.toNat : Int) ∧ (c.toNat : Int) ≤ 57) ∨ (c.toNat : Int) = 45 ∨ (c.toNat : Int) = 95) : okAtB k c = true := by
  have : keyCharB c = true := by simp [keyCharB]; omega
  simp [okAtB, hk, this]
theorem okAt_no {k : Nat} {c : UInt8} (h1 : (c.toNat : Int) < 97 ∨ (122 : Int) < (c.toNat : Int)) (h2 : (c.toNat : Int) < 48 ∨ (57 : Int) < (c.toNat : Int)) (h3 : (c.toNat : Int) ≠ 45) (h4 : (c.toNat : Int) ≠ 95) : okAtB k c = false := by
  simp [okAtB, smallB, keyCharB]; omega

set_option maxHeartbeats 1000000 in
theorem isKey_any (s : ByteArray) (w : World) (hs : s.size ≤ 9223372036854775807) :
    Calls Tryz.prog 116 #[.string s] w fun e w' => e = .returned (.bool (keyB s)) ∧ w = w' := by
  have hkl : keyB s = (okUptoB s.data.toList s.data.toList.length && !s.data.toList.isEmpty && decide (s.data.toList.length ≤ 40)) := keyLB_eq _
  have HK := Lib.hid hkl; clear hkl
  go_enter Tryz.func116, Tryz.ntmps116
  go_wp2
  go_loop [8] (fun i => ∃ k : Nat, k ≤ s.size ∧ i = .int .i64 k ∧ okUptoB s.data.toList k = true) (fun i => s.size - (intOf i).toNat)
  case atStart => exact ⟨0, Nat.zero_le _, rfl, by simp [okUptoB]⟩
  case round =>
    obtain ⟨k, hk, rfl, hf⟩ := hrel
    have Hf := Lib.hid hf; clear hf
    by_cases hlt : k < s.size
    · have hl : k < s.data.toList.length := by simpa using hlt
      have hsucc := okUpto_succ s.data.toList k hl
      have hno := okUpto_false s.data.toList k hl
      have heq : s.data.toList[k] = s[k] := rfl
      rw [heq] at hsucc hno
      have Hs := Lib.hid hsucc
      have Hn := Lib.hid hno
      clear hsucc hno heq
      have fin : okAtB k s[k] = true → okUptoB s.data.toList (k + 1) = true := fun h => by rw [Hs.out, Hf.out, h]; rfl
      have bad : okAtB k s[k] = false → keyB s = false := fun h => by rw [HK.out, Hn.out h]; rfl
      have Fin := Lib.hid fin
      have Bad := Lib.hid bad
      clear fin bad
      by_cases hc : (97 : Int) ≤ (s[k].toNat : Int) ∧ (s[k].toNat : Int) ≤ 122
      · obtain ⟨c1, c2⟩ := hc
        go_wp2
        go_round
        case rel => exact ⟨k + 1, by omega, by go_num, Fin.out (okAt_small c1 c2)⟩
        case measure => simp [intOf]; omega
      · have hc' : (s[k].toNat : Int) < 97 ∨ (122 : Int) < (s[k].toNat : Int) := by omega
        clear hc
        by_cases h0 : k = 0
        · subst h0
          have hbad : keyB s = false := Bad.out (okAt_no0 rfl hc')
          have Hbad := Lib.hid hbad
          clear hbad
          rcases hc' with hc' | hc'
          · go_wp2
            go_ret
            exact ⟨ret_bool Hbad.out.symm, rfl⟩
          · have hd : decide ((s[0].toNat : Int) ≤ 122) = false := by simp; omega
            go_wp2
            go_ret
            exact ⟨ret_bool Hbad.out.symm, rfl⟩
        · have h0' : ((k : Int) == 0) = false := by simp; omega
          by_cases hd : ((48 : Int) ≤ (s[k].toNat : Int) ∧ (s[k].toNat : Int) ≤ 57) ∨ (s[k].toNat : Int) = 45 ∨ (s[k].toNat : Int) = 95
          · have hok := Lib.hid (Fin.out (okAt_more h0 hd))
            clear h0
            rcases hc' with hc' | hc'
            · rcases hd with ⟨d1, d2⟩ | hd | hd
              · go_wp2
                go_round
                case rel => exact ⟨k + 1, by omega, by go_num, hok.out⟩
                case measure => simp [intOf]; omega
              · have q1 : ((s[k].toNat : Int) == 45) = true := by simpa using hd
                have q2 : (s[k].toNat : Int) < 48 := by omega
                clear hd
                go_wp2
                go_round
                case rel => exact ⟨k + 1, by omega, by go_num, hok.out⟩
                case measure => simp [intOf]; omega
              · have q1 : ((s[k].toNat : Int) == 95) = true := by simpa using hd
                have q2 : (57 : Int) < (s[k].toNat : Int) := by omega
                have q3 : ((s[k].toNat : Int) == 45) = false := by simp; omega
                clear hd
                go_wp2
                go_round
                case rel => exact ⟨k + 1, by omega, by go_num, hok.out⟩
                case measure => simp [intOf]; omega
            · exfalso; omega
          · have hno := Lib.hid (Bad.out (okAt_no (k := k) hc' (by omega) (by omega) (by omega)))
            clear h0
            have q1 : ((s[k].toNat : Int) == 45) = false := by simp; omega
            have q2 : ((s[k].toNat : Int) == 95) = false := by simp; omega
            have q3 : (s[k].toNat : Int) < 48 ∨ (57 : Int) < (s[k].toNat : Int) := by omega
            clear hd
            rcases hc' with hc' | hc'
            · rcases q3 with q3 | q3
              · go_wp2
                go_ret
                exact ⟨ret_bool hno.out.symm, rfl⟩
              · have d57 : decide ((s[k].toNat : Int) ≤ 57) = false := by simp; omega
                go_wp2
                go_ret
                exact ⟨ret_bool hno.out.symm, rfl⟩
            · have q4 : (57 : Int) < (s[k].toNat : Int) := by omega
              have d57 : decide ((s[k].toNat : Int) ≤ 57) = false := by simp; omega
              have d122 : decide ((s[k].toNat : Int) ≤ 122) = false := by simp; omega
              clear q3
              go_wp2
              go_ret
              exact ⟨ret_bool hno.out.symm, rfl⟩
    · have hks : k = s.size := by omega
      have hf := Hf.out
      rw [hks] at hf
      have hK := HK.out
      have hl : s.data.toList.length = s.size := by simp
      rw [hl, hf] at hK
      have hem : s.data.toList.isEmpty = decide (s.size = 0) := by
        rw [← hl]; cases s.data.toList <;> simp
      rw [hem] at hK
      have HK' := Lib.hid hK
      clear hK hl hem hf hks
      by_cases he : s.size = 0
      · have hk0 : keyB s = false := by rw [HK'.out]; simp [he]
        have Hk0 := Lib.hid hk0
        have hemp : s.toList = [] := by rw [Go.Lib.toList_data]; exact List.eq_nil_of_length_eq_zero (by simpa using he)
        clear he hk0
        go_wp2
        go_ret
        exact ⟨ret_bool Hk0.out.symm, rfl⟩
      · have hemp : ¬ s.toList = [] := by
          rw [Go.Lib.toList_data]; intro h; apply he; simpa using congrArg List.length h
        have hemp' : s.toList.isEmpty = false := by simpa using hemp
        by_cases h40 : s.size ≤ 40
        · have hk0 : keyB s = true := by rw [HK'.out]; simp [he, h40]
          have Hk0 := Lib.hid hk0
          clear he hk0
          go_wp2
          go_ret
          exact ⟨ret_bool (by rw [Hk0.out]; simp; omega), rfl⟩
        · have hk0 : keyB s = false := by rw [HK'.out]; simp [h40]
          have Hk0 := Lib.hid hk0
          clear he hk0
          go_wp2
          go_ret
          exact ⟨ret_bool (by rw [Hk0.out]; simp; omega), rfl⟩

end Go.Proofs.YtcggbojhalbkjaaGreatDoor
