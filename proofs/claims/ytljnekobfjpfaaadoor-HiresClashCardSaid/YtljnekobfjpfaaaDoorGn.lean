/- StartOf, ExchangeOf, CloseOf as the generators use them: what comes back is a hire in memory. -/
import Derived.Test.YtljnekobfjpfaaaDoorRd2
import Derived.Test.YtljnekobfjpfaaaDoorKp
namespace Go.Proofs.YtljnekobfjpfaaaDoor
open Go.RowKit

/-- A hire and an error are handed back: some hire, its legs in memory; where there is no error it has m legs. -/
def HireBack (w : World) (m : Nat) (E : Int) (e : Ending) (w' : World) : Prop :=
  ∃ (k d : ByteArray) (f t : Int) (A : Option Addr) (n c : Nat) (l : List Lg), e = .returned (.tuple #[.agg #[.string k, .string d, .int .i64 f, .int .i64 t, .slice A n c], .int .i64 E]) ∧ SlT lgEnc 9 138 w' A n l ∧ HrOk k d l ∧ n ≤ m ∧ (E = 0 → n = m) ∧ w.grownBy w' none

theorem noHire_ok : HrOk ⟨#[]⟩ ⟨#[]⟩ [] := ⟨by decide, by decide, fun _ h => by cases h⟩
theorem hireBack_of {w w' : World} {key driver : ByteArray} {fr to_ : Int} {A : Option Addr} {n c : Nat} {E : Int} {l : List Lg} {e : Ending} (he : e = .returned (.tuple #[madeV key driver fr to_ A n c E, .int .i64 E])) (hs : E = 0 → SlT lgEnc 9 138 w' A n l) (hok : HrOk key driver l) (hg : w.grownBy w' none) : HireBack w n E e w' := by
  by_cases h0 : E = 0
  · exact ⟨key, driver, fr, to_, A, n, c, l, by rw [he, h0]; rfl, hs h0, hok, Nat.le_refl _, fun _ => rfl, hg⟩
  · exact ⟨⟨#[]⟩, ⟨#[]⟩, 0, 0, none, 0, 0, [], by rw [he]; unfold madeV; rw [if_neg h0], SlT.nil_ _ _, noHire_ok, Nat.zero_le _, fun h => absurd h h0, hg⟩

theorem startOf_gen (key driver : ByteArray) (fr to_ : Int) (veh : ByteArray) (r : Rd) (w : World) (hk : key.size ≤ 1000000) (hd : driver.size ≤ 1000000) (hv : veh.size ≤ 1000000) (hr : RdOk r) :
    Calls Tryd.prog 17 #[.string key, .string driver, .agg #[.int .i64 fr, .int .i64 to_], .string veh, .agg (rdCells r).toArray] w (HireBack w 1 (hireE ⟨key, driver, fr, to_, [startLeg veh r]⟩)) :=
  (startOf_any key driver fr to_ veh r w hk hd hv hr).mono fun e w' ⟨A, he, hs, hg⟩ => hireBack_of he (fun _ => hs) ⟨hk, hd, fun g hg => by
    rw [List.mem_singleton.1 hg]
    exact ⟨hv, hr, (by decide : (⟨#[]⟩ : ByteArray).size ≤ 1000000)⟩⟩ hg
theorem closeOf_gen (key driver : ByteArray) (fr to_ : Int) (l : List Lg) (A : Option Addr) (n c : Nat) (w : World) (hl : SlT lgEnc 9 138 w A n l) (hok : HrOk key driver l) (hn : n ≤ 1000) (r : Rd) (hr : RdOk r) :
    Calls Tryd.prog 65 #[.agg #[.string key, .string driver, .int .i64 fr, .int .i64 to_, .slice A n c], .agg (rdCells r).toArray] w (fun e w' => ∃ E, HireBack w n E e w') :=
  (closeOf_any key driver fr to_ l A n c w hl hok hn r hr).mono fun _ _ ⟨hg, _, _, he, hs⟩ => ⟨_, hireBack_of he hs ⟨hok.1, hok.2.1, end_ok hok.2.2 hr⟩ hg⟩
theorem exchangeOf_gen (key driver : ByteArray) (fr to_ : Int) (l : List Lg) (A : Option Addr) (n c : Nat) (w : World) (hl : SlT lgEnc 9 138 w A n l) (hok : HrOk key driver l) (hn : n ≤ 1000) (veh : ByteArray) (r q : Rd) (hv : veh.size ≤ 1000000) (hr : RdOk r) (hq : RdOk q) :
    Calls Tryd.prog 63 #[.agg #[.string key, .string driver, .int .i64 fr, .int .i64 to_, .slice A n c], .agg (rdCells r).toArray, .string veh, .agg (rdCells q).toArray] w (fun e w' => ∃ E, HireBack w (n + 1) E e w') :=
  (exchangeOf_any key driver fr to_ l A n c w hl hok hn veh r q hv hr hq).mono fun _ _ ⟨hg, _, _, he, hs⟩ => ⟨_, hireBack_of he hs ⟨hok.1, hok.2.1, exch_ok hok.2.2 hr hv hq⟩ hg⟩

theorem exchangeOf_lit (key driver : ByteArray) (fr to_ : Int) (l : List Lg) (A : Option Addr) (n c : Nat) (w : World) (hl : SlT lgEnc 9 138 w A n l) (hok : HrOk key driver l) (hn : n ≤ 1000) (veh : ByteArray) (ra rm rf qa qm qf : Int) (rs qs : ByteArray) (hv : veh.size ≤ 1000000) (hr : rs.size ≤ 1000000) (hq : qs.size ≤ 1000000) :
    Calls Tryd.prog 63 #[.agg #[.string key, .string driver, .int .i64 fr, .int .i64 to_, .slice A n c], .agg #[.int .i64 ra, .string rs, .int .i64 rm, .int .i64 rf], .string veh, .agg #[.int .i64 qa, .string qs, .int .i64 qm, .int .i64 qf]] w (fun e w' => ∃ E, HireBack w (n + 1) E e w') :=
  exchangeOf_gen key driver fr to_ l A n c w hl hok hn veh ⟨ra, rs, rm, rf⟩ ⟨qa, qs, qm, qf⟩ hv hr hq
theorem startOf_lit (key driver : ByteArray) (fr to_ : Int) (veh : ByteArray) (ra rm rf : Int) (rs : ByteArray) (w : World) (hk : key.size ≤ 1000000) (hd : driver.size ≤ 1000000) (hv : veh.size ≤ 1000000) (hr : rs.size ≤ 1000000) :
    Calls Tryd.prog 17 #[.string key, .string driver, .agg #[.int .i64 fr, .int .i64 to_], .string veh, .agg #[.int .i64 ra, .string rs, .int .i64 rm, .int .i64 rf]] w (HireBack w 1 (hireE ⟨key, driver, fr, to_, [startLeg veh ⟨ra, rs, rm, rf⟩]⟩)) :=
  startOf_gen key driver fr to_ veh ⟨ra, rs, rm, rf⟩ w hk hd hv hr

theorem fall_keys : keyB ⟨#[97, 110, 110]⟩ = true ∧ keyB ⟨#[118, 49]⟩ = true ∧ keyB ⟨#[115, 49]⟩ = true := ⟨by kernel_rfl, by kernel_rfl, by kernel_rfl⟩
/-- The hire that is taken where no other came out right. -/
theorem fall_right {key : ByteArray} {fr : Int} (hk : keyB key = true) (h0 : 0 ≤ fr) (h1 : fr ≤ 5000000) : hireE ⟨key, ⟨#[97, 110, 110]⟩, fr, fr + 60, [startLeg ⟨#[118, 49]⟩ ⟨fr, ⟨#[115, 49]⟩, 0, 0⟩]⟩ = 0 := by
  have a1 : inB fr 0 5761439 = true := inB_iff.2 ⟨by omega, by omega⟩
  have a2 : inB 0 0 999999 = true := by decide
  have a3 : inB 0 0 8 = true := by decide
  have hr : readingE ⟨fr, ⟨#[115, 49]⟩, 0, 0⟩ = 0 := by simp [readingE, momentE, a1, a2, a3, fall_keys.2.2, whenE, firstE]
  have ht : timeE fr (fr + 60) = 0 := by
    unfold timeE
    rw [if_neg (by omega), decide_eq_false (show ¬ 120 < daysV fr (fr + 60) by unfold daysV; omega)]; rfl
  have hin : legInE true (startLeg ⟨#[118, 49]⟩ ⟨fr, ⟨#[115, 49]⟩, 0, 0⟩) = 0 := by kernel_rfl
  have hp : legPrevE fr none (startLeg ⟨#[118, 49]⟩ ⟨fr, ⟨#[115, 49]⟩, 0, 0⟩) = 0 := by
    show (if fr = fr then (0 : Int) else 7) = 0
    rw [if_pos rfl]
  have hleg : legE fr none true (startLeg ⟨#[118, 49]⟩ ⟨fr, ⟨#[115, 49]⟩, 0, 0⟩) = 0 := by
    unfold legE
    rw [hp, hin]
    simp [startLeg, hr, fall_keys.2.1, whenE, firstE]
  have hlegs : legsE fr [startLeg ⟨#[118, 49]⟩ ⟨fr, ⟨#[115, 49]⟩, 0, 0⟩] 1 = 0 := by
    show (if legE fr none true (startLeg ⟨#[118, 49]⟩ ⟨fr, ⟨#[115, 49]⟩, 0, 0⟩) = 0 then 0 else _) = (0 : Int)
    rw [if_pos hleg]
  unfold hireE
  simp [firstE, whenE, hk, fall_keys.1, ht, hlegs]

end Go.Proofs.YtljnekobfjpfaaaDoor
