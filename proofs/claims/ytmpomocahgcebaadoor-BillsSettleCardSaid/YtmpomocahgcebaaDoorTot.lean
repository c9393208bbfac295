/- The walk of tariff.Total. -/
import Derived.Test.YtmpomocahgcebaaDoorLn
namespace Go.Proofs.YtmpomocahgcebaaDoor
open Go.RowKit

set_option maxRecDepth 100000 in
set_option maxHeartbeats 1000000 in
theorem total_any (l : List Ln) (A : Option Addr) (n c : Nat) (w : World) (hl : SlT lnEnc 3 133 w A n l) (hok : ∀ x ∈ l, LnOk x) (hn : n ≤ 1000000) :
    Calls Tryd.prog 27 #[.slice A n c] w (RetIE w (totalV l) (linesE l)) := by
  obtain ⟨E, hE⟩ : ∃ E, E = linesE l := ⟨_, rfl⟩
  obtain ⟨V, hV⟩ : ∃ V, V = totalV l := ⟨_, rfl⟩
  rw [← hE, ← hV]
  have HE := Lib.hid hE
  have HV := Lib.hid hV
  clear hE hV
  go_enter Tryd.func27, Tryd.ntmps27
  go_wp2_with fail
  refine (checkLines_any l A n c w hl hok hn).mono ?_
  rintro e w1 ⟨rfl, hg1⟩
  rw [← HE.out]
  by_cases h0 : E = 0
  · have hok2 := (linesE_ok (HE.out.symm.trans h0)).2
    have HF := Lib.hid (show V = sumBy centsOf l by rw [HV.out]; unfold totalV; rw [if_pos (HE.out.symm.trans h0)])
    subst h0
    have Hok2 := Lib.hid hok2
    clear hok2
    go_wp2_with fail
    refine (sum_any l A n c w1 (hl.grow0 hg1) (fun x hx => by have := Hok2.out x hx; omega) hn).mono ?_
    rintro e w2 ⟨rfl, hg2⟩
    go_wp2_with fail
    go_ret2
    exact ⟨ret_ie HF.out.symm rfl, grow_trans hg1 hg2⟩
  · have hne : (E != 0) = true := by simpa using h0
    have HF := Lib.hid (show V = 0 by rw [HV.out]; unfold totalV; rw [if_neg (fun h => h0 (HE.out.trans h))])
    clear h0
    go_wp2_with fail
    go_ret2
    exact ⟨ret_ie HF.out.symm rfl, hg1⟩

end Go.Proofs.YtmpomocahgcebaaDoor
