/- BestCode and CodeOf. -/
import Derived.Test.YtmpomocahgcebaaDoorTt
import Derived.Test.YtmpomocahgcebaaDoorTm
namespace Go.Proofs.YtmpomocahgcebaaDoor
open Go.RowKit

def bestCE (l : List Cd) (ks : List ByteArray) (cls : ByteArray) (fr tt cents : Int) : Int := firstE [codesE l, askE (fun k => l.any (codeP k)) ks, whenE (!keyB cls) 5, timeE fr tt, whenE (!inB cents 0 1000000000) 1]
def bestV (l : List Cd) (ks : List ByteArray) (cls : ByteArray) (fr tt cents : Int) : ByteArray × Int := if bestCE l ks cls fr tt cents = 0 then bestK l ks cls fr tt cents else (⟨#[]⟩, 0)
section
variable {l : List Cd} {ks : List ByteArray} {cls k : ByteArray} {fr tt cents : Int} {st : ByteArray × Int} {j : Nat} {c : Cd}
theorem bestS_no (hix : ixP (codeP k) l 0 = (j : Int)) (hc : l[j]? = some c) (h : countsB c cls fr tt = false) : bestS l cls fr tt cents st k = st := by
  unfold bestS; rw [hix, Int.toNat_natCast, hc]; dsimp only; rw [if_neg (fun e => by rw [h] at e; exact absurd e.1 (by decide))]
theorem bestS_yes (hix : ixP (codeP k) l 0 = (j : Int)) (hc : l[j]? = some c) (h : countsB c cls fr tt = true) (hb : emptyS st.1 = true ∨ st.2 < offV cents c ∨ (offV cents c = st.2 ∧ ltS k st.1 = true)) : bestS l cls fr tt cents st k = (k, offV cents c) := by
  unfold bestS; rw [hix, Int.toNat_natCast, hc]; dsimp only; rw [if_pos ⟨h, hb⟩]
theorem bestS_keep (hix : ixP (codeP k) l 0 = (j : Int)) (hc : l[j]? = some c) (hb : ¬ (emptyS st.1 = true ∨ st.2 < offV cents c ∨ (offV cents c = st.2 ∧ ltS k st.1 = true))) : bestS l cls fr tt cents st k = st := by
  unfold bestS; rw [hix, Int.toNat_natCast, hc]; dsimp only; rw [if_neg (fun e => hb e.2)]
theorem fold_take {α β : Type} (f : β → α → β) (z : β) {l : List α} {i : Nat} {x : α} (h : l[i]? = some x) : (l.take (i + 1)).foldl f z = f ((l.take i).foldl f z) x := by
  obtain ⟨hi, rfl⟩ := List.getElem?_eq_some_iff.1 h
  rw [List.take_add_one, List.getElem?_eq_getElem hi, List.foldl_append]; rfl
theorem counts_yes (h1 : emptyS c.cls = true ∨ (c.cls.toList == cls.toList) = true) (h2 : inB (fr / 1440) c.fr (c.to_ - 1) = true) (h3 : c.days ≤ daysV fr tt) : countsB c cls fr tt = true := by
  unfold countsB
  rw [h2, decide_eq_true h3]
  rcases h1 with h1 | h1 <;> rw [h1] <;> simp
theorem counts_cls (h1 : emptyS c.cls = false) (h2 : (c.cls.toList == cls.toList) = false) : countsB c cls fr tt = false := by unfold countsB; rw [h1, h2]; rfl
theorem counts_in (h : inB (fr / 1440) c.fr (c.to_ - 1) = false) : countsB c cls fr tt = false := by unfold countsB; rw [h]; simp
theorem counts_days (h : ¬ c.days ≤ daysV fr tt) : countsB c cls fr tt = false := by unfold countsB; rw [decide_eq_false h]; simp
theorem off_bound {m : Int} (h0 : 0 ≤ cents) (h1 : cents ≤ 1000000000) (h2 : 1 ≤ m) (h3 : m ≤ 1000) : 0 ≤ cents * m ∧ cents * m ≤ 1000000000000 := by
  have a := Int.mul_nonneg h0 (show 0 ≤ m by omega)
  have b := Int.mul_le_mul h1 h3 (by omega) (by omega)
  exact ⟨a, by omega⟩
end

set_option maxRecDepth 100000 in
set_option maxHeartbeats 2000000 in
theorem tBestCode_any (l : List Cd) (A : Option Addr) (n c0 : Nat) (ks : List ByteArray) (A1 : Option Addr) (n1 c1 : Nat) (cls : ByteArray) (fr tt cents : Int) (w : World) (hl : SlT cdEnc 6 188 w A n l) (hok : ∀ b ∈ l, CdOk b) (hn : n ≤ 1000000) (hs : SlT sgEnc 1 9 w A1 n1 ks) (hn1 : n1 ≤ 1000000) (hc1 : n1 ≤ c1) (hcl : cls.size ≤ 1000000) :
    Calls Tryd.prog 60 #[.slice A n c0, .slice A1 n1 c1, .string cls, .agg #[.int .i64 fr, .int .i64 tt], .int .i64 cents] w (fun e w' => e = .returned (.tuple #[.string (bestV l ks cls fr tt cents).1, .int .i64 (bestV l ks cls fr tt cents).2, .int .i64 (bestCE l ks cls fr tt cents)]) ∧ w.grownBy w' none) := by
  refine gw_enter ⟨114, w, none, []⟩ Tryd.func60 rfl Tryd.ntmps60 rfl (mem0 (X := [SlOld cdEnc 6 188 w.heap.size none A n l, SlOld sgEnc 1 9 w.heap.size none A1 n1 ks]) (allF_cons hl.old (allF_cons hs.old allF_nil)) (allL_cons SlOld.lasts (allL_cons SlOld.lasts allL_nil))) ?_
  refine gw_seq ?_
  refine gw_region ?_
  have hlen := hl.len
  have hslen := hs.len
  obtain ⟨XE, hXE⟩ : ∃ E, E = codesE l := ⟨_, rfl⟩
  obtain ⟨AE, hAE⟩ : ∃ E, E = askE (fun k => l.any (codeP k)) ks := ⟨_, rfl⟩
  have hBE : bestCE l ks cls fr tt cents = firstE [XE, AE, whenE (!keyB cls) 5, timeE fr tt, whenE (!inB cents 0 1000000000) 1] := by unfold bestCE; rw [← hXE, ← hAE]
  refine wl_box rfl rfl rfl fun g1 => ?_
  refine wl_box rfl rfl rfl fun g2 => ?_
  refine wl_ov (ov_assign rfl) rfl ?_
  refine wl_ov (ov_assign rfl) rfl ?_
  refine wl_ov (ov_assign rfl) rfl ?_
  refine wl_nil ?_
  refine nx_then ?_
  refine gw_seq ?_
  refine gw_seq ?_
  refine gw_region ?_
  refine wl_ov (ov_load sc103 rfl (fun _ hm => hm.blkI 1 rfl) rfl) rfl ?_
  refine wl_callv (v := .int .i64 XE) rfl cb62 rfl rfl (fun wx hm => (by rw [hXE]; exact checkCodes_any l A n c0 wx (hm.fact 0 rfl).1 hok hn)) ?_
  refine wl_ov (ov_assign rfl) rfl ?_
  refine wl_nil ?_
  refine nx_then ?_
  refine gw_seq ?_
  refine gw_region ?_
  refine wl_ov (ov_move rfl) rfl ?_
  refine wl_ov (ov_neq rfl rfl) rfl ?_
  refine wl_nil ?_
  refine nx_then ?_
  refine gw_cond rfl (fun hh => ?_) (fun hh => ?_)
  · have hx : ¬ (XE = 0) := by simpa using hh
    clear hh
    refine gw_seq ?_
    refine gw_region ?_
    refine wl_ov (ov_move rfl) rfl ?_
    refine wl_ov (ov_assign rfl) rfl ?_
    refine wl_ov (ov_assign rfl) rfl ?_
    refine wl_ov (ov_assign rfl) rfl ?_
    refine wl_nil ?_
    refine nx_then ?_
    refine gw_ret ?_
    refine nx_then_ret ?_
    refine nx_ret3 rfl rfl rfl rfl fun wx hm => ?_
    have he : bestCE l ks cls fr tt cents = XE := by rw [hBE]; unfold firstE; rw [if_neg hx]
    refine ⟨?_, hm.g⟩
    unfold bestV
    rw [he, if_neg hx]
  · have hx : XE = 0 := by simpa using hh
    clear hh
    refine gw_skip ?_
    refine nx_then ?_
    refine gw_seq ?_
    refine gw_seq ?_
    have hBE2 : bestCE l ks cls fr tt cents = firstE [AE, whenE (!keyB cls) 5, timeE fr tt, whenE (!inB cents 0 1000000000) 1] := by rw [hBE]; unfold firstE; rw [if_pos hx]; rfl
    refine gw_draw (fun wz => Blk wz g2 56 [.int .i64 fr, .int .i64 tt] ∧ Blk wz g1 103 [.slice A n c0] ∧ (SlOld cdEnc 6 188 w.heap.size none A n l) wz ∧ (SlOld sgEnc 1 9 w.heap.size none A1 n1 ks) wz ∧ True) mixed ?_
    refine wa_take 0 rfl (by kernel_rfl) (by kernel_rfl) (by kernel_rfl) (listed' := #[true, false, false, false, false, false, false, false, false, false, false, false, false, false, false, false]) rfl (fun _ _ _ h => h) (fun _ hm => ⟨hm.blkI 0 rfl, hm.blkI 1 rfl, hm.fact 0 rfl, hm.fact 1 rfl, trivial⟩) (ov_move rfl) rfl ?_
    refine wa_take 1 rfl (by kernel_rfl) (by kernel_rfl) (by kernel_rfl) (listed' := #[true, true, false, false, false, false, false, false, false, false, false, false, false, false, false, false]) rfl (fun _ _ _ h => h) (fun _ hm => ⟨hm.blkI 0 rfl, hm.blkI 1 rfl, hm.fact 0 rfl, hm.fact 1 rfl, trivial⟩) (ov_makeFunc rfl rfl) rfl ?_
    refine wa_take 3 rfl (by kernel_rfl) (by kernel_rfl) (by kernel_rfl) (listed' := #[true, true, false, true, false, false, false, false, false, false, false, false, false, false, false, false]) rfl (fun _ _ _ h => h) (fun _ hm => ⟨hm.blkI 0 rfl, hm.blkI 1 rfl, hm.fact 0 rfl, hm.fact 1 rfl, trivial⟩) (ov_move rfl) rfl ?_
    refine wa_take 7 rfl (by kernel_rfl) (by kernel_rfl) (by kernel_rfl) (listed' := #[true, true, false, true, false, false, false, true, false, false, false, false, false, false, false, false]) rfl (fun _ _ _ h => h) (fun _ hm => ⟨hm.blkI 0 rfl, hm.blkI 1 rfl, hm.fact 0 rfl, hm.fact 1 rfl, trivial⟩) (ov_loads rz56 rfl (fun _ hm => hm.1) rfl rfl) rfl ?_
    refine wa_take 9 rfl (by kernel_rfl) (by kernel_rfl) (by kernel_rfl) (listed' := #[true, true, false, true, false, false, false, true, false, true, false, false, false, false, false, false]) rfl (fun _ _ _ h => h) (fun _ hm => ⟨hm.blkI 0 rfl, hm.blkI 1 rfl, hm.fact 0 rfl, hm.fact 1 rfl, trivial⟩) (ov_move rfl) rfl ?_
    refine wa_all [2] (by kernel_rfl) rfl ⟨⟨_, rfl, ?_⟩, trivial⟩
    refine wl_callv (v := .int .i64 AE) rfl cb127 rfl rfl (fun wx hm => (by rw [hAE]; exact checkAsked_codes l A n c0 ks A1 n1 c1 _ wx (hm.fact 0 rfl).1 hn (hm.fact 1 rfl).1 hn1 hc1 (hm.blkI 1 rfl))) ?_
    refine wl_nil ?_
    refine nx_wa0 (listed' := #[true, true, true, true, false, false, false, true, false, true, false, false, false, false, false, false]) rfl (fun _ hm => ⟨hm.blkI 0 rfl, hm.blkI 1 rfl, hm.fact 0 rfl, hm.fact 1 rfl, trivial⟩) ?_
    refine wa_all [4] (by kernel_rfl) rfl ⟨⟨_, rfl, ?_⟩, trivial⟩
    refine wl_callw rfl cb106 rfl rfl (fun wx hm => (isKey_any _ wx (by omega))) ?_
    refine wl_nil ?_
    refine nx_wa0 (listed' := #[true, true, true, true, true, false, false, true, false, true, false, false, false, false, false, false]) rfl (fun _ hm => ⟨hm.blkI 0 rfl, hm.blkI 1 rfl, hm.fact 0 rfl, hm.fact 1 rfl, trivial⟩) ?_
    refine wa_take 5 rfl (by kernel_rfl) (by kernel_rfl) (by kernel_rfl) (listed' := #[true, true, true, true, true, true, false, true, false, true, false, false, false, false, false, false]) rfl (fun _ _ _ h => h) (fun _ hm => ⟨hm.blkI 0 rfl, hm.blkI 1 rfl, hm.fact 0 rfl, hm.fact 1 rfl, trivial⟩) (ov_un_not rfl) rfl ?_
    refine wa_all [6] (by kernel_rfl) rfl ⟨⟨_, rfl, ?_⟩, trivial⟩
    refine wl_callw rfl cb98 rfl rfl (fun wx hm => (when_any _ _ wx)) ?_
    refine wl_nil ?_
    refine nx_wa0 (listed' := #[true, true, true, true, true, true, true, true, false, true, false, false, false, false, false, false]) rfl (fun _ hm => ⟨hm.blkI 0 rfl, hm.blkI 1 rfl, hm.fact 0 rfl, hm.fact 1 rfl, trivial⟩) ?_
    refine wa_all [8] (by kernel_rfl) rfl ⟨⟨_, rfl, ?_⟩, trivial⟩
    refine wl_callv rfl cb104 rfl rfl (fun wx hm => (time_any _ _ wx)) ?_
    refine wl_nil ?_
    refine nx_wa0 (listed' := #[true, true, true, true, true, true, true, true, true, true, false, false, false, false, false, false]) rfl (fun _ hm => ⟨hm.blkI 0 rfl, hm.blkI 1 rfl, hm.fact 0 rfl, hm.fact 1 rfl, trivial⟩) ?_
    refine wa_all [10] (by kernel_rfl) rfl ⟨⟨_, rfl, ?_⟩, trivial⟩
    refine wl_callw rfl cb99 rfl rfl (fun wx hm => (in_any _ _ _ wx)) ?_
    refine wl_nil ?_
    refine nx_wa0 (listed' := #[true, true, true, true, true, true, true, true, true, true, true, false, false, false, false, false]) rfl (fun _ hm => ⟨hm.blkI 0 rfl, hm.blkI 1 rfl, hm.fact 0 rfl, hm.fact 1 rfl, trivial⟩) ?_
    refine wa_take 11 rfl (by kernel_rfl) (by kernel_rfl) (by kernel_rfl) (listed' := #[true, true, true, true, true, true, true, true, true, true, true, true, false, false, false, false]) rfl (fun _ _ _ h => h) (fun _ hm => ⟨hm.blkI 0 rfl, hm.blkI 1 rfl, hm.fact 0 rfl, hm.fact 1 rfl, trivial⟩) (ov_un_not rfl) rfl ?_
    refine wa_all [12] (by kernel_rfl) rfl ⟨⟨_, rfl, ?_⟩, trivial⟩
    refine wl_callw rfl cb98 rfl rfl (fun wx hm => (when_any _ _ wx)) ?_
    refine wl_nil ?_
    refine nx_wa0 (listed' := #[true, true, true, true, true, true, true, true, true, true, true, true, true, false, false, false]) rfl (fun _ hm => ⟨hm.blkI 0 rfl, hm.blkI 1 rfl, hm.fact 0 rfl, hm.fact 1 rfl, trivial⟩) ?_
    refine wa_all [13] (by kernel_rfl) rfl ⟨⟨_, rfl, ?_⟩, trivial⟩
    refine wl_buildSlice (e := 29) (cs := [.int .i64 AE, .int .i64 (whenE (!(keyB cls)) 5), .int .i64 (timeE fr tt), .int .i64 (whenE (!(inB cents 0 1000000000)) 1)]) rfl (by kernel_rfl) rfl fun g3 => ?_
    refine wl_nil ?_
    refine nx_wa0 (listed' := #[true, true, true, true, true, true, true, true, true, true, true, true, true, true, false, false]) rfl (fun _ hm => ⟨hm.blkI 1 rfl, hm.blkI 2 rfl, hm.fact 0 rfl, hm.fact 1 rfl, trivial⟩) ?_
    refine wa_all [14] (by kernel_rfl) rfl ⟨⟨_, rfl, ?_⟩, trivial⟩
    refine wl_callw rfl cb97 rfl rfl (fun wx hm => (first_any [AE, whenE (!(keyB cls)) 5, timeE fr tt, whenE (!(inB cents 0 1000000000)) 1] _ _ _ wx (hm.blkI 0 rfl) (by simp))) ?_
    refine wl_nil ?_
    refine nx_wa0 (listed' := #[true, true, true, true, true, true, true, true, true, true, true, true, true, true, true, false]) rfl (fun _ hm => ⟨hm.blkI 1 rfl, hm.blkI 2 rfl, hm.fact 0 rfl, hm.fact 1 rfl, trivial⟩) ?_
    refine wa_take 15 rfl (by kernel_rfl) (by kernel_rfl) (by kernel_rfl) (listed' := #[true, true, true, true, true, true, true, true, true, true, true, true, true, true, true, true]) rfl (fun _ _ _ h => h) (fun _ hm => ⟨hm.blkI 1 rfl, hm.blkI 2 rfl, hm.fact 0 rfl, hm.fact 1 rfl, trivial⟩) (ov_assign rfl) rfl ?_
    refine wa_done (by kernel_rfl) ?_
    refine nx_then ?_
    refine gw_seq ?_
    refine gw_region ?_
    refine wl_ov (ov_move rfl) rfl ?_
    refine wl_ov (ov_neq rfl rfl) rfl ?_
    refine wl_nil ?_
    refine nx_then ?_
    refine gw_cond rfl (fun hh => ?_) (fun hh => ?_)
    · have hz : ¬ (firstE [AE, whenE (!(keyB cls)) 5, timeE fr tt, whenE (!(inB cents 0 1000000000)) 1] = 0) := by simpa using hh
      clear hh
      refine gw_seq ?_
      refine gw_region ?_
      refine wl_ov (ov_move rfl) rfl ?_
      refine wl_ov (ov_assign rfl) rfl ?_
      refine wl_ov (ov_assign rfl) rfl ?_
      refine wl_ov (ov_assign rfl) rfl ?_
      refine wl_nil ?_
      refine nx_then ?_
      refine gw_ret ?_
      refine nx_then_ret ?_
      refine nx_ret3 rfl rfl rfl rfl fun wx hm => ?_
      refine ⟨?_, hm.g⟩
      unfold bestV
      rw [hBE2, if_neg hz]
    · have hz : firstE [AE, whenE (!(keyB cls)) 5, timeE fr tt, whenE (!(inB cents 0 1000000000)) 1] = 0 := by simpa using hh
      clear hh
      refine gw_skip ?_
      refine nx_then ?_
      refine gw_seq ?_
      refine gw_region ?_
      have hzz := fe_all hz
      have hcodes : codesE l = 0 := hXE.symm.trans hx
      have hask : askE (fun k => l.any (codeP k)) ks = 0 := hAE.symm.trans (hzz AE (by simp))
      have hin := (askE_ok hask).2
      obtain ⟨h0, hlt, htt, _⟩ := timeE_ok (hzz (timeE fr tt) (by simp))
      have hct : inB cents 0 1000000000 = true := by simpa using we_ok (by decide) (hzz (whenE (!inB cents 0 1000000000) 1) (by simp))
      have hct := inB_iff.1 hct
      have hct0 := hct.1
      have hct1 := hct.2
      have hB0 : bestCE l ks cls fr tt cents = 0 := hBE2.trans hz
      refine wl_ov (ov_assign rfl) rfl ?_
      refine wl_ov (ov_assign rfl) rfl ?_
      refine wl_nil ?_
      refine nx_then ?_
      refine gw_seq ?_
      refine gw_seq ?_
      refine gw_region ?_
      refine wl_ov (ov_move rfl) rfl ?_
      refine wl_ov (ov_len es105 rfl) rfl ?_
      refine wl_ov (ov_move rfl) rfl ?_
      refine wl_nil ?_
      refine nx_then ?_
      refine gw_block ?_
      refine gw_loop (γ := Nat × ByteArray × Int) (fun (g : Nat × ByteArray × Int) => g.1 ≤ n1 ∧ (g.2.1, g.2.2) = (ks.take g.1).foldl (bestS l cls fr tt cents) (⟨#[]⟩, 0)) (fun (g : Nat × ByteArray × Int) => [(2, .string cls), (4, .int .i64 cents), (5, .pointer (some ⟨g1, 0, none⟩)), (8, .pointer (some ⟨g2, 0, none⟩)), (10, .string ⟨#[]⟩), (11, .int .i64 0), (12, .int .i64 0), (15, .string g.2.1), (16, .int .i64 g.2.2), (45, .slice A1 n1 c1), (46, .int .i64 ((n1 : Nat) : Int)), (47, .int .i64 ((g.1 : Nat) : Int))]) (fun (g : Nat × ByteArray × Int) => fun _ => True) (fun (g : Nat × ByteArray × Int) => [(g3, 29, [.int .i64 AE, .int .i64 (whenE (!(keyB cls)) 5), .int .i64 (timeE fr tt), .int .i64 (whenE (!(inB cents 0 1000000000)) 1)]), (g2, 56, [.int .i64 fr, .int .i64 tt]), (g1, 103, [.slice A n c0])]) (fun (g : Nat × ByteArray × Int) => []) (fun (g : Nat × ByteArray × Int) => [SlOld cdEnc 6 188 w.heap.size none A n l, SlOld sgEnc 1 9 w.heap.size none A1 n1 ks]) (fun (g : Nat × ByteArray × Int) => n1 - g.1) (0, ⟨#[]⟩, 0) ⟨Nat.zero_le _, rfl⟩ ⟨rfl, rfl, rfl, rfl, rfl, rfl, rfl, rfl, rfl, rfl, rfl, rfl, trivial⟩ (fun _ hm => hm.pick [0, 1, 2] [] [0, 1] rfl rfl) ?_
      rintro ⟨i, ky, mo⟩ hinv
      replace hinv : i ≤ n1 ∧ (ky, mo) = (ks.take i).foldl (bestS l cls fr tt cents) (⟨#[]⟩, 0) := hinv
      dsimp only
      refine gw_seq ?_
      refine gw_region ?_
      obtain ⟨hi0, hi1⟩ := hinv
      refine wl_ov (ov_lss rfl rfl) rfl ?_
      refine wl_nil ?_
      refine nx_then ?_
      refine gw_seq ?_
      refine gw_cond rfl (fun hh => ?_) (fun hh => ?_)
      · have hi : ((i : Nat) : Int) < ((n1 : Nat) : Int) := by simpa using hh
        clear hh
        refine gw_skip ?_
        refine nx_then ?_
        refine gw_seq ?_
        refine gw_block ?_
        refine gw_seq ?_
        refine gw_region ?_
        obtain ⟨b1, off1, hA, _, _⟩ := hs.get (by omega)
        subst hA
        obtain ⟨k, hks⟩ : ∃ x, ks[i]? = some x := ⟨_, List.getElem?_eq_getElem (by omega)⟩
        have hik : l.any (codeP k) = true := hin k (List.mem_of_getElem? hks)
        rw [← ix_any] at hik
        obtain ⟨IX, hIX⟩ : ∃ E, E = ixP (codeP k) l 0 := ⟨_, rfl⟩
        obtain ⟨y, hy, _⟩ := ixP_get (p := codeP k) (l := l) (of_decide_eq_true hik)
        rw [← hIX] at hy
        have hIX0 : 0 ≤ IX := by rw [hIX]; exact of_decide_eq_true hik
        obtain ⟨j, hj⟩ := Int.eq_ofNat_of_zero_le hIX0
        subst hj
        rw [Int.toNat_natCast] at hy
        have hjn : j < n := by have := (List.getElem?_eq_some_iff.1 hy).1; omega
        obtain ⟨_, ⟨f1, f2, f3⟩, ⟨f4, f5⟩, f6, f7⟩ := (codesE_ok hcodes).2.2 y (List.mem_of_getElem? hy)
        obtain ⟨ke, cl, cf, ct, dy, mi⟩ := y
        dsimp only at f1 f2 f3 f4 f5 f6 f7
        have hob := off_bound hct0 hct1 f6 f7
        have hob0 := hob.1
        have hob1 := hob.2
        have hstep := fold_take (bestS l cls fr tt cents) (⟨#[]⟩, 0) hks
        rw [← hi1] at hstep
        obtain ⟨b, off, hA, _, _⟩ := hl.get (by omega)
        subst hA
        refine wl_ov (ov_index (j := i) es105 rfl rfl (by omega)) rfl ?_
        refine wl_ov (ov_elem1 (k := 0) (v := .string k) sc9 rfl (fun _ hm => (hm.fact 1 rfl).1) hks rfl rfl) rfl ?_
        refine wl_ov (ov_assign rfl) rfl ?_
        refine wl_nil ?_
        refine nx_then ?_
        refine gw_cut (γ := Nat) (I := (fun (gz : Nat) => True)) (S' := (fun (gz : Nat) => [(2, .string cls), (4, .int .i64 cents), (5, .pointer (some ⟨g1, 0, none⟩)), (8, .pointer (some ⟨g2, 0, none⟩)), (10, .string ⟨#[]⟩), (11, .int .i64 0), (12, .int .i64 0), (15, .string ky), (16, .int .i64 mo), (18, .string k), (19, .pointer (some ⟨gz, 0, none⟩)), (45, .slice (some ⟨b1, off1, none⟩) n1 c1), (46, .int .i64 ((n1 : Nat) : Int)), (47, .int .i64 ((i : Nat) : Int))])) (K' := (fun (gz : Nat) => fun _ => True)) (L' := (fun (gz : Nat) => [(g3, 29, [.int .i64 AE, .int .i64 (whenE (!(keyB cls)) 5), .int .i64 (timeE fr tt), .int .i64 (whenE (!(inB cents 0 1000000000)) 1)]), (g2, 56, [.int .i64 fr, .int .i64 tt]), (g1, 103, [.slice (some ⟨b, off, none⟩) n c0]), (gz, 188, [.string ke, .string cl, .int .i64 cf, .int .i64 ct, .int .i64 dy, .int .i64 mi])])) (O' := (fun (gz : Nat) => [])) (X' := (fun (gz : Nat) => [SlOld cdEnc 6 188 w.heap.size none (some ⟨b, off, none⟩) n l, SlOld sgEnc 1 9 w.heap.size none (some ⟨b1, off1, none⟩) n1 ks])) ?_ ?_
        · refine gw_draw (fun wz => Blk wz g3 29 [.int .i64 AE, .int .i64 (whenE (!(keyB cls)) 5), .int .i64 (timeE fr tt), .int .i64 (whenE (!(inB cents 0 1000000000)) 1)] ∧ Blk wz g2 56 [.int .i64 fr, .int .i64 tt] ∧ Blk wz g1 103 [.slice (some ⟨b, off, none⟩) n c0] ∧ (SlOld cdEnc 6 188 w.heap.size none (some ⟨b, off, none⟩) n l) wz ∧ (SlOld sgEnc 1 9 w.heap.size none (some ⟨b1, off1, none⟩) n1 ks) wz ∧ True) mixed ?_
          refine wa_take 0 rfl (by kernel_rfl) (by kernel_rfl) (by kernel_rfl) (listed' := #[true, false, false, false, false, false, false, false]) rfl (fun _ _ _ h => h) (fun _ hm => ⟨hm.blkI 0 rfl, hm.blkI 1 rfl, hm.blkI 2 rfl, hm.fact 0 rfl, hm.fact 1 rfl, trivial⟩) (ov_load sc103 rfl (fun _ hm => hm.2.2.1) rfl) rfl ?_
          refine wa_take 1 rfl (by kernel_rfl) (by kernel_rfl) (by kernel_rfl) (listed' := #[true, true, false, false, false, false, false, false]) rfl (fun _ _ _ h => h) (fun _ hm => ⟨hm.blkI 0 rfl, hm.blkI 1 rfl, hm.blkI 2 rfl, hm.fact 0 rfl, hm.fact 1 rfl, trivial⟩) (ov_load sc103 rfl (fun _ hm => hm.2.2.1) rfl) rfl ?_
          refine wa_take 2 rfl (by kernel_rfl) (by kernel_rfl) (by kernel_rfl) (listed' := #[true, true, true, false, false, false, false, false]) rfl (fun _ _ _ h => h) (fun _ hm => ⟨hm.blkI 0 rfl, hm.blkI 1 rfl, hm.blkI 2 rfl, hm.fact 0 rfl, hm.fact 1 rfl, trivial⟩) (ov_move rfl) rfl ?_
          refine wa_all [3, 6] (by kernel_rfl) rfl ⟨⟨_, rfl, ?_⟩, ⟨_, rfl, ?_⟩, trivial⟩
          · refine wl_callv (v := .int .i64 ((j : Nat) : Int)) rfl cb129 rfl rfl (fun wx hm => (by rw [hIX]; exact codeAt_any l _ n c0 k wx (hm.fact 0 rfl).1 hn)) ?_
            refine wl_nil ?_
            refine nx_wa0 (listed' := #[true, true, true, true, false, false, false, false]) rfl (fun _ hm => ⟨hm.blkI 0 rfl, hm.blkI 1 rfl, hm.blkI 2 rfl, hm.fact 0 rfl, hm.fact 1 rfl, trivial⟩) ?_
            refine wa_take 4 rfl (by kernel_rfl) (by kernel_rfl) (by kernel_rfl) (listed' := #[true, true, true, true, true, false, false, false]) rfl (fun _ _ _ h => h) (fun _ hm => ⟨hm.blkI 0 rfl, hm.blkI 1 rfl, hm.blkI 2 rfl, hm.fact 0 rfl, hm.fact 1 rfl, trivial⟩) (ov_index (j := j) es103 rfl rfl (by omega)) rfl ?_
            refine wa_take 5 rfl (by kernel_rfl) (by kernel_rfl) (by kernel_rfl) (listed' := #[true, true, true, true, true, true, false, false]) rfl (fun _ _ _ h => h) (fun _ hm => ⟨hm.blkI 0 rfl, hm.blkI 1 rfl, hm.blkI 2 rfl, hm.fact 0 rfl, hm.fact 1 rfl, trivial⟩) (ov_elem (vs := [.string ke, .string cl, .int .i64 cf, .int .i64 ct, .int .i64 dy, .int .i64 mi]) rz188 rfl (fun _ hm => (hm.2.2.2.1).1) hy rfl rfl) rfl ?_
            refine wa_all [6] (by kernel_rfl) rfl ⟨⟨_, rfl, ?_⟩, trivial⟩
            refine wl_alloc zc188 rfl fun g4 => ?_
            refine wl_nil ?_
            refine nx_wa0 (listed' := #[true, true, true, true, true, true, true, false]) rfl (fun _ hm => ⟨hm.blkI 1 rfl, hm.blkI 2 rfl, hm.blkI 3 rfl, hm.fact 0 rfl, hm.fact 1 rfl, trivial⟩) ?_
            refine wa_all [7] (by kernel_rfl) rfl ⟨⟨_, rfl, ?_⟩, trivial⟩
            refine wl_stores (cs' := [.string ke, .string cl, .int .i64 cf, .int .i64 ct, .int .i64 dy, .int .i64 mi]) 0 rz188 rfl rfl rfl rfl rfl rfl rfl rfl ?_
            refine wl_nil ?_
            refine nx_wa0 (listed' := #[true, true, true, true, true, true, true, true]) rfl (fun _ hm => ⟨hm.blkI 1 rfl, hm.blkI 2 rfl, hm.blkI 3 rfl, hm.fact 0 rfl, hm.fact 1 rfl, trivial⟩) ?_
            refine wa_done (by kernel_rfl) ?_
            exact nx_meet g4 trivial ⟨rfl, rfl, rfl, rfl, rfl, rfl, rfl, rfl, rfl, rfl, rfl, rfl, rfl, rfl, trivial⟩ (fun _ hm => hm.pick [1, 2, 3, 0] [] [0, 1] rfl rfl)
          · refine wl_alloc zc188 rfl fun g5 => ?_
            refine wl_nil ?_
            refine nx_wa0 (listed' := #[true, true, true, false, false, false, true, false]) rfl (fun _ hm => ⟨hm.blkI 1 rfl, hm.blkI 2 rfl, hm.blkI 3 rfl, hm.fact 0 rfl, hm.fact 1 rfl, trivial⟩) ?_
            refine wa_all [3] (by kernel_rfl) rfl ⟨⟨_, rfl, ?_⟩, trivial⟩
            refine wl_callv (v := .int .i64 ((j : Nat) : Int)) rfl cb129 rfl rfl (fun wx hm => (by rw [hIX]; exact codeAt_any l _ n c0 k wx (hm.fact 0 rfl).1 hn)) ?_
            refine wl_nil ?_
            refine nx_wa0 (listed' := #[true, true, true, true, false, false, true, false]) rfl (fun _ hm => ⟨hm.blkI 1 rfl, hm.blkI 2 rfl, hm.blkI 3 rfl, hm.fact 0 rfl, hm.fact 1 rfl, trivial⟩) ?_
            refine wa_take 4 rfl (by kernel_rfl) (by kernel_rfl) (by kernel_rfl) (listed' := #[true, true, true, true, true, false, true, false]) rfl (fun _ _ _ h => h) (fun _ hm => ⟨hm.blkI 1 rfl, hm.blkI 2 rfl, hm.blkI 3 rfl, hm.fact 0 rfl, hm.fact 1 rfl, trivial⟩) (ov_index (j := j) es103 rfl rfl (by omega)) rfl ?_
            refine wa_take 5 rfl (by kernel_rfl) (by kernel_rfl) (by kernel_rfl) (listed' := #[true, true, true, true, true, true, true, false]) rfl (fun _ _ _ h => h) (fun _ hm => ⟨hm.blkI 1 rfl, hm.blkI 2 rfl, hm.blkI 3 rfl, hm.fact 0 rfl, hm.fact 1 rfl, trivial⟩) (ov_elem (vs := [.string ke, .string cl, .int .i64 cf, .int .i64 ct, .int .i64 dy, .int .i64 mi]) rz188 rfl (fun _ hm => (hm.2.2.2.1).1) hy rfl rfl) rfl ?_
            refine wa_all [7] (by kernel_rfl) rfl ⟨⟨_, rfl, ?_⟩, trivial⟩
            refine wl_stores (cs' := [.string ke, .string cl, .int .i64 cf, .int .i64 ct, .int .i64 dy, .int .i64 mi]) 0 rz188 rfl rfl rfl rfl rfl rfl rfl rfl ?_
            refine wl_nil ?_
            refine nx_wa0 (listed' := #[true, true, true, true, true, true, true, true]) rfl (fun _ hm => ⟨hm.blkI 1 rfl, hm.blkI 2 rfl, hm.blkI 3 rfl, hm.fact 0 rfl, hm.fact 1 rfl, trivial⟩) ?_
            refine wa_done (by kernel_rfl) ?_
            exact nx_meet g5 trivial ⟨rfl, rfl, rfl, rfl, rfl, rfl, rfl, rfl, rfl, rfl, rfl, rfl, rfl, rfl, trivial⟩ (fun _ hm => hm.pick [1, 2, 3, 0] [] [0, 1] rfl rfl)
        · intro gz hinv
          replace hinv : True := hinv
          refine gw_seq ?_
          clear hinv
          refine gw_draw (fun wz => Blk wz g3 29 [.int .i64 AE, .int .i64 (whenE (!(keyB cls)) 5), .int .i64 (timeE fr tt), .int .i64 (whenE (!(inB cents 0 1000000000)) 1)] ∧ Blk wz g2 56 [.int .i64 fr, .int .i64 tt] ∧ Blk wz g1 103 [.slice (some ⟨b, off, none⟩) n c0] ∧ Blk wz gz 188 [.string ke, .string cl, .int .i64 cf, .int .i64 ct, .int .i64 dy, .int .i64 mi] ∧ (SlOld cdEnc 6 188 w.heap.size none (some ⟨b, off, none⟩) n l) wz ∧ (SlOld sgEnc 1 9 w.heap.size none (some ⟨b1, off1, none⟩) n1 ks) wz ∧ True) mixed ?_
          refine wa_take 0 rfl (by kernel_rfl) (by kernel_rfl) (by kernel_rfl) (listed' := #[true, false, false, false, false, false, false, false, false, false, false, false, false, false, false, false, false, false, false, false, false, false, false, false, false, false, false, false]) rfl (fun _ _ _ h => h) (fun _ hm => ⟨hm.blkI 0 rfl, hm.blkI 1 rfl, hm.blkI 2 rfl, hm.blkI 3 rfl, hm.fact 0 rfl, hm.fact 1 rfl, trivial⟩) (ov_field fo188_1 rfl rfl) rfl ?_
          refine wa_take 1 rfl (by kernel_rfl) (by kernel_rfl) (by kernel_rfl) (listed' := #[true, true, false, false, false, false, false, false, false, false, false, false, false, false, false, false, false, false, false, false, false, false, false, false, false, false, false, false]) rfl (fun _ _ _ h => h) (fun _ hm => ⟨hm.blkI 0 rfl, hm.blkI 1 rfl, hm.blkI 2 rfl, hm.blkI 3 rfl, hm.fact 0 rfl, hm.fact 1 rfl, trivial⟩) (ov_load sc9 rfl (fun _ hm => hm.2.2.2.1) rfl) rfl ?_
          refine wa_take 2 rfl (by kernel_rfl) (by kernel_rfl) (by kernel_rfl) (listed' := #[true, true, true, false, false, false, false, false, false, false, false, false, false, false, false, false, false, false, false, false, false, false, false, false, false, false, false, false]) rfl (fun _ _ _ h => h) (fun _ hm => ⟨hm.blkI 0 rfl, hm.blkI 1 rfl, hm.blkI 2 rfl, hm.blkI 3 rfl, hm.fact 0 rfl, hm.fact 1 rfl, trivial⟩) (ov_seql rfl rfl) rfl ?_
          refine wa_take 3 rfl (by kernel_rfl) (by kernel_rfl) (by kernel_rfl) (listed' := #[true, true, true, true, false, false, false, false, false, false, false, false, false, false, false, false, false, false, false, false, false, false, false, false, false, false, false, false]) rfl (fun _ _ _ h => h) (fun _ hm => ⟨hm.blkI 0 rfl, hm.blkI 1 rfl, hm.blkI 2 rfl, hm.blkI 3 rfl, hm.fact 0 rfl, hm.fact 1 rfl, trivial⟩) (ov_move rfl) rfl ?_
          rcases Bool.eq_false_or_eq_true (cl.toList == (⟨#[]⟩ : ByteArray).toList) with e1 | e1
          · refine wa_set 60 rfl (congrArg Value.bool e1) ?_
            have e1 : emptyS cl = true := e1
            refine wa_take_off 4 rfl rfl rfl (by decide) (by kernel_rfl) (by kernel_rfl) (by kernel_rfl) (listed' := #[true, true, true, true, true, false, false, false, false, false, false, false, false, false, false, false, false, false, false, false, false, false, false, false, false, false, false, false]) rfl (fun _ _ _ h => h) (fun _ hm => ⟨hm.blkI 0 rfl, hm.blkI 1 rfl, hm.blkI 2 rfl, hm.blkI 3 rfl, hm.fact 0 rfl, hm.fact 1 rfl, trivial⟩) rfl ?_
            refine wa_take_off 5 rfl rfl rfl (by decide) (by kernel_rfl) (by kernel_rfl) (by kernel_rfl) (listed' := #[true, true, true, true, true, true, false, false, false, false, false, false, false, false, false, false, false, false, false, false, false, false, false, false, false, false, false, false]) rfl (fun _ _ _ h => h) (fun _ hm => ⟨hm.blkI 0 rfl, hm.blkI 1 rfl, hm.blkI 2 rfl, hm.blkI 3 rfl, hm.fact 0 rfl, hm.fact 1 rfl, trivial⟩) rfl ?_
            refine wa_take_off 6 rfl rfl rfl (by decide) (by kernel_rfl) (by kernel_rfl) (by kernel_rfl) (listed' := #[true, true, true, true, true, true, true, false, false, false, false, false, false, false, false, false, false, false, false, false, false, false, false, false, false, false, false, false]) rfl (fun _ _ _ h => h) (fun _ hm => ⟨hm.blkI 0 rfl, hm.blkI 1 rfl, hm.blkI 2 rfl, hm.blkI 3 rfl, hm.fact 0 rfl, hm.fact 1 rfl, trivial⟩) rfl ?_
            refine wa_take_off 7 rfl rfl rfl (by decide) (by kernel_rfl) (by kernel_rfl) (by kernel_rfl) (listed' := #[true, true, true, true, true, true, true, true, false, false, false, false, false, false, false, false, false, false, false, false, false, false, false, false, false, false, false, false]) rfl (fun _ _ _ h => h) (fun _ hm => ⟨hm.blkI 0 rfl, hm.blkI 1 rfl, hm.blkI 2 rfl, hm.blkI 3 rfl, hm.fact 0 rfl, hm.fact 1 rfl, trivial⟩) rfl ?_
            refine wa_take 8 rfl (by kernel_rfl) (by kernel_rfl) (by kernel_rfl) (listed' := #[true, true, true, true, true, true, true, true, true, false, false, false, false, false, false, false, false, false, false, false, false, false, false, false, false, false, false, false]) rfl (fun _ _ _ h => h) (fun _ hm => ⟨hm.blkI 0 rfl, hm.blkI 1 rfl, hm.blkI 2 rfl, hm.blkI 3 rfl, hm.fact 0 rfl, hm.fact 1 rfl, trivial⟩) (ov_pick_t rfl rfl) rfl ?_
            refine wa_take 9 rfl (by kernel_rfl) (by kernel_rfl) (by kernel_rfl) (listed' := #[true, true, true, true, true, true, true, true, true, true, false, false, false, false, false, false, false, false, false, false, false, false, false, false, false, false, false, false]) rfl (fun _ _ _ h => h) (fun _ hm => ⟨hm.blkI 0 rfl, hm.blkI 1 rfl, hm.blkI 2 rfl, hm.blkI 3 rfl, hm.fact 0 rfl, hm.fact 1 rfl, trivial⟩) (ov_move rfl) rfl ?_
            refine wa_take_on 10 rfl rfl rfl (by kernel_rfl) (by kernel_rfl) (by kernel_rfl) (listed' := #[true, true, true, true, true, true, true, true, true, true, true, false, false, false, false, false, false, false, false, false, false, false, false, false, false, false, false, false]) rfl (fun _ _ _ h => h) (fun _ hm => ⟨hm.blkI 0 rfl, hm.blkI 1 rfl, hm.blkI 2 rfl, hm.blkI 3 rfl, hm.fact 0 rfl, hm.fact 1 rfl, trivial⟩) (ov_field fo56_0 rfl rfl) rfl ?_
            refine wa_take_on 11 rfl rfl rfl (by kernel_rfl) (by kernel_rfl) (by kernel_rfl) (listed' := #[true, true, true, true, true, true, true, true, true, true, true, true, false, false, false, false, false, false, false, false, false, false, false, false, false, false, false, false]) rfl (fun _ _ _ h => h) (fun _ hm => ⟨hm.blkI 0 rfl, hm.blkI 1 rfl, hm.blkI 2 rfl, hm.blkI 3 rfl, hm.fact 0 rfl, hm.fact 1 rfl, trivial⟩) (ov_load sc3 rfl (fun _ hm => hm.2.1) rfl) rfl ?_
            refine wa_take_on 12 rfl rfl rfl (by kernel_rfl) (by kernel_rfl) (by kernel_rfl) (listed' := #[true, true, true, true, true, true, true, true, true, true, true, true, true, false, false, false, false, false, false, false, false, false, false, false, false, false, false, false]) rfl (fun _ _ _ h => h) (fun _ hm => ⟨hm.blkI 0 rfl, hm.blkI 1 rfl, hm.blkI 2 rfl, hm.blkI 3 rfl, hm.fact 0 rfl, hm.fact 1 rfl, trivial⟩) (ov_quo rfl rfl (by omega) (by omega) (by omega)) rfl ?_
            refine wa_take_on 13 rfl rfl rfl (by kernel_rfl) (by kernel_rfl) (by kernel_rfl) (listed' := #[true, true, true, true, true, true, true, true, true, true, true, true, true, true, false, false, false, false, false, false, false, false, false, false, false, false, false, false]) rfl (fun _ _ _ h => h) (fun _ hm => ⟨hm.blkI 0 rfl, hm.blkI 1 rfl, hm.blkI 2 rfl, hm.blkI 3 rfl, hm.fact 0 rfl, hm.fact 1 rfl, trivial⟩) (ov_field fo188_2 rfl rfl) rfl ?_
            refine wa_take_on 14 rfl rfl rfl (by kernel_rfl) (by kernel_rfl) (by kernel_rfl) (listed' := #[true, true, true, true, true, true, true, true, true, true, true, true, true, true, true, false, false, false, false, false, false, false, false, false, false, false, false, false]) rfl (fun _ _ _ h => h) (fun _ hm => ⟨hm.blkI 0 rfl, hm.blkI 1 rfl, hm.blkI 2 rfl, hm.blkI 3 rfl, hm.fact 0 rfl, hm.fact 1 rfl, trivial⟩) (ov_load sc3 rfl (fun _ hm => hm.2.2.2.1) rfl) rfl ?_
            refine wa_take_on 15 rfl rfl rfl (by kernel_rfl) (by kernel_rfl) (by kernel_rfl) (listed' := #[true, true, true, true, true, true, true, true, true, true, true, true, true, true, true, true, false, false, false, false, false, false, false, false, false, false, false, false]) rfl (fun _ _ _ h => h) (fun _ hm => ⟨hm.blkI 0 rfl, hm.blkI 1 rfl, hm.blkI 2 rfl, hm.blkI 3 rfl, hm.fact 0 rfl, hm.fact 1 rfl, trivial⟩) (ov_field fo188_3 rfl rfl) rfl ?_
            refine wa_take_on 16 rfl rfl rfl (by kernel_rfl) (by kernel_rfl) (by kernel_rfl) (listed' := #[true, true, true, true, true, true, true, true, true, true, true, true, true, true, true, true, true, false, false, false, false, false, false, false, false, false, false, false]) rfl (fun _ _ _ h => h) (fun _ hm => ⟨hm.blkI 0 rfl, hm.blkI 1 rfl, hm.blkI 2 rfl, hm.blkI 3 rfl, hm.fact 0 rfl, hm.fact 1 rfl, trivial⟩) (ov_load sc3 rfl (fun _ hm => hm.2.2.2.1) rfl) rfl ?_
            refine wa_take_on 17 rfl rfl rfl (by kernel_rfl) (by kernel_rfl) (by kernel_rfl) (listed' := #[true, true, true, true, true, true, true, true, true, true, true, true, true, true, true, true, true, true, false, false, false, false, false, false, false, false, false, false]) rfl (fun _ _ _ h => h) (fun _ hm => ⟨hm.blkI 0 rfl, hm.blkI 1 rfl, hm.blkI 2 rfl, hm.blkI 3 rfl, hm.fact 0 rfl, hm.fact 1 rfl, trivial⟩) (ov_sub rfl rfl (by omega) (by omega)) rfl ?_
            refine wa_all [18] (by kernel_rfl) rfl ⟨⟨_, rfl, ?_⟩, trivial⟩
            refine wl_guard_on rfl rfl rfl ?_
            refine wl_callw rfl cb99 rfl rfl (fun wx hm => (in_any _ _ _ wx)) ?_
            refine wl_nil ?_
            refine nx_wa0 (listed' := #[true, true, true, true, true, true, true, true, true, true, true, true, true, true, true, true, true, true, true, false, false, false, false, false, false, false, false, false]) rfl (fun _ hm => ⟨hm.blkI 0 rfl, hm.blkI 1 rfl, hm.blkI 2 rfl, hm.blkI 3 rfl, hm.fact 0 rfl, hm.fact 1 rfl, trivial⟩) ?_
            refine wa_take 19 rfl (by kernel_rfl) (by kernel_rfl) (by kernel_rfl) (listed' := #[true, true, true, true, true, true, true, true, true, true, true, true, true, true, true, true, true, true, true, true, false, false, false, false, false, false, false, false]) rfl (fun _ _ _ h => h) (fun _ hm => ⟨hm.blkI 0 rfl, hm.blkI 1 rfl, hm.blkI 2 rfl, hm.blkI 3 rfl, hm.fact 0 rfl, hm.fact 1 rfl, trivial⟩) (ov_pick_t rfl rfl) rfl ?_
            refine wa_take 20 rfl (by kernel_rfl) (by kernel_rfl) (by kernel_rfl) (listed' := #[true, true, true, true, true, true, true, true, true, true, true, true, true, true, true, true, true, true, true, true, true, false, false, false, false, false, false, false]) rfl (fun _ _ _ h => h) (fun _ hm => ⟨hm.blkI 0 rfl, hm.blkI 1 rfl, hm.blkI 2 rfl, hm.blkI 3 rfl, hm.fact 0 rfl, hm.fact 1 rfl, trivial⟩) (ov_move rfl) rfl ?_
            rcases Bool.eq_false_or_eq_true (inB (fr / 1440) cf (ct - 1)) with e3 | e3
            · refine wa_set 77 rfl (congrArg Value.bool e3) ?_
              refine wa_take_on 21 rfl rfl rfl (by kernel_rfl) (by kernel_rfl) (by kernel_rfl) (listed' := #[true, true, true, true, true, true, true, true, true, true, true, true, true, true, true, true, true, true, true, true, true, true, false, false, false, false, false, false]) rfl (fun _ _ _ h => h) (fun _ hm => ⟨hm.blkI 0 rfl, hm.blkI 1 rfl, hm.blkI 2 rfl, hm.blkI 3 rfl, hm.fact 0 rfl, hm.fact 1 rfl, trivial⟩) (ov_loads rz56 rfl (fun _ hm => hm.2.1) rfl rfl) rfl ?_
              refine wa_take_on 23 rfl rfl rfl (by kernel_rfl) (by kernel_rfl) (by kernel_rfl) (listed' := #[true, true, true, true, true, true, true, true, true, true, true, true, true, true, true, true, true, true, true, true, true, true, false, true, false, false, false, false]) rfl (fun _ _ _ h => h) (fun _ hm => ⟨hm.blkI 0 rfl, hm.blkI 1 rfl, hm.blkI 2 rfl, hm.blkI 3 rfl, hm.fact 0 rfl, hm.fact 1 rfl, trivial⟩) (ov_field fo188_4 rfl rfl) rfl ?_
              refine wa_take_on 24 rfl rfl rfl (by kernel_rfl) (by kernel_rfl) (by kernel_rfl) (listed' := #[true, true, true, true, true, true, true, true, true, true, true, true, true, true, true, true, true, true, true, true, true, true, false, true, true, false, false, false]) rfl (fun _ _ _ h => h) (fun _ hm => ⟨hm.blkI 0 rfl, hm.blkI 1 rfl, hm.blkI 2 rfl, hm.blkI 3 rfl, hm.fact 0 rfl, hm.fact 1 rfl, trivial⟩) (ov_load sc3 rfl (fun _ hm => hm.2.2.2.1) rfl) rfl ?_
              refine wa_all [22] (by kernel_rfl) rfl ⟨⟨_, rfl, ?_⟩, trivial⟩
              refine wl_guard_on rfl rfl rfl ?_
              refine wl_callv rfl cb105 rfl rfl (fun wx hm => (days_any _ _ wx (by omega) (by omega) (by omega))) ?_
              refine wl_nil ?_
              refine nx_wa0 (listed' := #[true, true, true, true, true, true, true, true, true, true, true, true, true, true, true, true, true, true, true, true, true, true, true, true, true, false, false, false]) rfl (fun _ hm => ⟨hm.blkI 0 rfl, hm.blkI 1 rfl, hm.blkI 2 rfl, hm.blkI 3 rfl, hm.fact 0 rfl, hm.fact 1 rfl, trivial⟩) ?_
              refine wa_take_on 25 rfl rfl rfl (by kernel_rfl) (by kernel_rfl) (by kernel_rfl) (listed' := #[true, true, true, true, true, true, true, true, true, true, true, true, true, true, true, true, true, true, true, true, true, true, true, true, true, true, false, false]) rfl (fun _ _ _ h => h) (fun _ hm => ⟨hm.blkI 0 rfl, hm.blkI 1 rfl, hm.blkI 2 rfl, hm.blkI 3 rfl, hm.fact 0 rfl, hm.fact 1 rfl, trivial⟩) (ov_geq rfl rfl) rfl ?_
              refine wa_take 26 rfl (by kernel_rfl) (by kernel_rfl) (by kernel_rfl) (listed' := #[true, true, true, true, true, true, true, true, true, true, true, true, true, true, true, true, true, true, true, true, true, true, true, true, true, true, true, false]) rfl (fun _ _ _ h => h) (fun _ hm => ⟨hm.blkI 0 rfl, hm.blkI 1 rfl, hm.blkI 2 rfl, hm.blkI 3 rfl, hm.fact 0 rfl, hm.fact 1 rfl, trivial⟩) (ov_pick_t rfl rfl) rfl ?_
              refine wa_take 27 rfl (by kernel_rfl) (by kernel_rfl) (by kernel_rfl) (listed' := #[true, true, true, true, true, true, true, true, true, true, true, true, true, true, true, true, true, true, true, true, true, true, true, true, true, true, true, true]) rfl (fun _ _ _ h => h) (fun _ hm => ⟨hm.blkI 0 rfl, hm.blkI 1 rfl, hm.blkI 2 rfl, hm.blkI 3 rfl, hm.fact 0 rfl, hm.fact 1 rfl, trivial⟩) (ov_assign rfl) rfl ?_
              refine wa_done (by kernel_rfl) ?_
              refine nx_then ?_
              refine gw_seq ?_
              refine gw_region ?_
              refine wl_ov (ov_move rfl) rfl ?_
              refine wl_ov (ov_field fo188_5 rfl rfl) rfl ?_
              refine wl_ov (ov_load sc3 rfl (fun _ hm => hm.blkI 3 rfl) rfl) rfl ?_
              refine wl_ov (ov_mul rfl rfl (by omega) (by omega)) rfl ?_
              refine wl_ov (ov_quo rfl rfl (by omega) (by omega) (by omega)) rfl ?_
              refine wl_ov (ov_assign rfl) rfl ?_
              refine wl_nil ?_
              refine nx_then ?_
              refine gw_seq ?_
              refine gw_region ?_
              refine wl_ov (ov_move rfl) rfl ?_
              refine wl_ov (ov_move rfl) rfl ?_
              rcases Bool.eq_false_or_eq_true (decide (dy ≤ daysV fr tt)) with e4 | e4
              · refine wl_set 90 rfl (congrArg Value.bool e4) ?_
                have hcb : countsB ⟨ke, cl, cf, ct, dy, mi⟩ cls fr tt = true := counts_yes (.inl e1) e3 (of_decide_eq_true e4)
                refine wl_guard_on rfl rfl rfl ?_
                refine wl_ov (ov_move rfl) rfl ?_
                refine wl_guard_on rfl rfl rfl ?_
                refine wl_ov (ov_seql rfl rfl) rfl ?_
                refine wl_guard_on rfl rfl rfl ?_
                refine wl_ov (ov_move rfl) rfl ?_
                rcases Bool.eq_false_or_eq_true (ky.toList == (⟨#[]⟩ : ByteArray).toList) with c1 | c1
                · refine wl_set 93 rfl (congrArg Value.bool c1) ?_
                  have hs2 := bestS_yes (st := (ky, mo)) (cents := cents) hIX.symm hy hcb (.inl c1)
                  refine wl_guard_off rfl rfl rfl (by decide) rfl ?_
                  refine wl_guard_off rfl rfl rfl (by decide) rfl ?_
                  refine wl_guard_off rfl rfl rfl (by decide) rfl ?_
                  refine wl_guard_on rfl rfl rfl ?_
                  refine wl_ov (ov_pick_t rfl rfl) rfl ?_
                  refine wl_guard_on rfl rfl rfl ?_
                  refine wl_ov (ov_move rfl) rfl ?_
                  refine wl_guard_off rfl rfl rfl (by decide) rfl ?_
                  refine wl_guard_off rfl rfl rfl (by decide) rfl ?_
                  refine wl_guard_off rfl rfl rfl (by decide) rfl ?_
                  refine wl_guard_off rfl rfl rfl (by decide) rfl ?_
                  refine wl_guard_undef rfl rfl rfl rfl ?_
                  refine wl_guard_undef rfl rfl rfl rfl ?_
                  refine wl_guard_undef rfl rfl rfl rfl ?_
                  refine wl_guard_off rfl rfl rfl (by decide) rfl ?_
                  refine wl_guard_on rfl rfl rfl ?_
                  refine wl_ov (ov_pick_t rfl rfl) rfl ?_
                  refine wl_ov (ov_pick_t rfl rfl) rfl ?_
                  refine wl_nil ?_
                  refine nx_then ?_
                  refine gw_cond rfl (fun _ => ?_) (fun hh => by cases hh)
                  refine gw_region ?_
                  refine wl_ov (ov_move rfl) rfl ?_
                  refine wl_ov (ov_move rfl) rfl ?_
                  refine wl_ov (ov_assign rfl) rfl ?_
                  refine wl_ov (ov_assign rfl) rfl ?_
                  refine wl_nil ?_
                  refine nx_blk_nrm ?_
                  refine nx_then ?_
                  refine gw_region ?_
                  refine wl_ov (ov_add rfl rfl (by omega) (by omega)) rfl ?_
                  refine wl_ov (ov_move rfl) rfl ?_
                  refine wl_nil ?_
                  exact nx_round (i + 1, k, cents * mi / 1000) ⟨by dsimp only; omega, by rw [hstep]; exact hs2.symm⟩ (by dsimp only; omega) ⟨rfl, rfl, rfl, rfl, rfl, rfl, rfl, rfl, rfl, rfl, rfl, (some_int (by omega)), trivial⟩ (fun _ hm => hm.pick [0, 1, 2] [] [0, 1] rfl rfl)
                · refine wl_set 93 rfl (congrArg Value.bool c1) ?_
                  refine wl_guard_on rfl rfl rfl ?_
                  refine wl_ov (ov_move rfl) rfl ?_
                  refine wl_guard_on rfl rfl rfl ?_
                  refine wl_ov (ov_move rfl) rfl ?_
                  refine wl_guard_on rfl rfl rfl ?_
                  refine wl_ov (ov_gtr rfl rfl) rfl ?_
                  refine wl_guard_on rfl rfl rfl ?_
                  refine wl_ov (ov_pick_f rfl rfl) rfl ?_
                  refine wl_guard_on rfl rfl rfl ?_
                  refine wl_ov (ov_move rfl) rfl ?_
                  rcases Bool.eq_false_or_eq_true (decide (mo < (cents * mi) / 1000)) with c2 | c2
                  · refine wl_set 98 rfl (congrArg Value.bool c2) ?_
                    have hs2 := bestS_yes (st := (ky, mo)) (cents := cents) hIX.symm hy hcb (.inr (.inl (of_decide_eq_true c2)))
                    refine wl_guard_off rfl rfl rfl (by decide) rfl ?_
                    refine wl_guard_off rfl rfl rfl (by decide) rfl ?_
                    refine wl_guard_off rfl rfl rfl (by decide) rfl ?_
                    refine wl_guard_off rfl rfl rfl (by decide) rfl ?_
                    refine wl_guard_undef rfl rfl rfl rfl ?_
                    refine wl_guard_undef rfl rfl rfl rfl ?_
                    refine wl_guard_undef rfl rfl rfl rfl ?_
                    refine wl_guard_off rfl rfl rfl (by decide) rfl ?_
                    refine wl_guard_on rfl rfl rfl ?_
                    refine wl_ov (ov_pick_t rfl rfl) rfl ?_
                    refine wl_ov (ov_pick_t rfl rfl) rfl ?_
                    refine wl_nil ?_
                    refine nx_then ?_
                    refine gw_cond rfl (fun _ => ?_) (fun hh => by cases hh)
                    refine gw_region ?_
                    refine wl_ov (ov_move rfl) rfl ?_
                    refine wl_ov (ov_move rfl) rfl ?_
                    refine wl_ov (ov_assign rfl) rfl ?_
                    refine wl_ov (ov_assign rfl) rfl ?_
                    refine wl_nil ?_
                    refine nx_blk_nrm ?_
                    refine nx_then ?_
                    refine gw_region ?_
                    refine wl_ov (ov_add rfl rfl (by omega) (by omega)) rfl ?_
                    refine wl_ov (ov_move rfl) rfl ?_
                    refine wl_nil ?_
                    exact nx_round (i + 1, k, cents * mi / 1000) ⟨by dsimp only; omega, by rw [hstep]; exact hs2.symm⟩ (by dsimp only; omega) ⟨rfl, rfl, rfl, rfl, rfl, rfl, rfl, rfl, rfl, rfl, rfl, (some_int (by omega)), trivial⟩ (fun _ hm => hm.pick [0, 1, 2] [] [0, 1] rfl rfl)
                  · refine wl_set 98 rfl (congrArg Value.bool c2) ?_
                    refine wl_guard_on rfl rfl rfl ?_
                    refine wl_ov (ov_move rfl) rfl ?_
                    refine wl_guard_on rfl rfl rfl ?_
                    refine wl_ov (ov_move rfl) rfl ?_
                    refine wl_guard_on rfl rfl rfl ?_
                    refine wl_ov (ov_eql rfl rfl) rfl ?_
                    refine wl_guard_on rfl rfl rfl ?_
                    refine wl_ov (ov_move rfl) rfl ?_
                    rcases Bool.eq_false_or_eq_true (decide ((cents * mi) / 1000 = mo)) with c3 | c3
                    · refine wl_set 102 rfl (congrArg Value.bool c3) ?_
                      refine wl_guard_on rfl rfl rfl ?_
                      refine wl_ov (ov_move rfl) rfl ?_
                      refine wl_guard_on rfl rfl rfl ?_
                      refine wl_ov (ov_move rfl) rfl ?_
                      refine wl_guard_on rfl rfl rfl ?_
                      refine wl_ov (ov_slss rfl rfl) rfl ?_
                      refine wl_guard_on rfl rfl rfl ?_
                      refine wl_ov (ov_pick_t rfl rfl) rfl ?_
                      refine wl_guard_on rfl rfl rfl ?_
                      refine wl_ov (ov_pick_f rfl rfl) rfl ?_
                      refine wl_ov (ov_pick_t rfl rfl) rfl ?_
                      refine wl_nil ?_
                      refine nx_then ?_
                      refine gw_cond rfl (fun hh => ?_) (fun hh => ?_)
                      · have c4 : (Op.bytesLess k.toList ky.toList) = true := by simpa using hh
                        clear hh
                        refine gw_region ?_
                        have hs2 := bestS_yes (st := (ky, mo)) (cents := cents) hIX.symm hy hcb (.inr (.inr ⟨of_decide_eq_true c3, c4⟩))
                        refine wl_ov (ov_move rfl) rfl ?_
                        refine wl_ov (ov_move rfl) rfl ?_
                        refine wl_ov (ov_assign rfl) rfl ?_
                        refine wl_ov (ov_assign rfl) rfl ?_
                        refine wl_nil ?_
                        refine nx_blk_nrm ?_
                        refine nx_then ?_
                        refine gw_region ?_
                        refine wl_ov (ov_add rfl rfl (by omega) (by omega)) rfl ?_
                        refine wl_ov (ov_move rfl) rfl ?_
                        refine wl_nil ?_
                        exact nx_round (i + 1, k, cents * mi / 1000) ⟨by dsimp only; omega, by rw [hstep]; exact hs2.symm⟩ (by dsimp only; omega) ⟨rfl, rfl, rfl, rfl, rfl, rfl, rfl, rfl, rfl, rfl, rfl, (some_int (by omega)), trivial⟩ (fun _ hm => hm.pick [0, 1, 2] [] [0, 1] rfl rfl)
                      · have c4 : (Op.bytesLess k.toList ky.toList) = false := by simpa using hh
                        clear hh
                        refine gw_skip ?_
                        refine nx_blk_nrm ?_
                        refine nx_then ?_
                        refine gw_region ?_
                        have hno : ¬ (emptyS (ky, mo).1 = true ∨ (ky, mo).2 < offV cents ⟨ke, cl, cf, ct, dy, mi⟩ ∨ (offV cents ⟨ke, cl, cf, ct, dy, mi⟩ = (ky, mo).2 ∧ ltS k (ky, mo).1 = true)) := by
                          rintro (h | h | ⟨_, h⟩)
                          · exact absurd (h.symm.trans c1) (by decide)
                          · exact of_decide_eq_false c2 h
                          · exact absurd (h.symm.trans c4) (by decide)
                        have hs2 := bestS_keep (cls := cls) (fr := fr) (tt := tt) (st := (ky, mo)) (cents := cents) hIX.symm hy (hno)
                        refine wl_ov (ov_add rfl rfl (by omega) (by omega)) rfl ?_
                        refine wl_ov (ov_move rfl) rfl ?_
                        refine wl_nil ?_
                        exact nx_round (i + 1, ky, mo) ⟨by dsimp only; omega, by rw [hstep]; exact hs2.symm⟩ (by dsimp only; omega) ⟨rfl, rfl, rfl, rfl, rfl, rfl, rfl, rfl, rfl, rfl, rfl, (some_int (by omega)), trivial⟩ (fun _ hm => hm.pick [0, 1, 2] [] [0, 1] rfl rfl)
                    · refine wl_set 102 rfl (congrArg Value.bool c3) ?_
                      have hno : ¬ (emptyS (ky, mo).1 = true ∨ (ky, mo).2 < offV cents ⟨ke, cl, cf, ct, dy, mi⟩ ∨ (offV cents ⟨ke, cl, cf, ct, dy, mi⟩ = (ky, mo).2 ∧ ltS k (ky, mo).1 = true)) := by
                        rintro (h | h | ⟨h, _⟩)
                        · exact absurd (h.symm.trans c1) (by decide)
                        · exact of_decide_eq_false c2 h
                        · exact of_decide_eq_false c3 h
                      have hs2 := bestS_keep (cls := cls) (fr := fr) (tt := tt) (st := (ky, mo)) (cents := cents) hIX.symm hy (hno)
                      refine wl_guard_off rfl rfl rfl (by decide) rfl ?_
                      refine wl_guard_off rfl rfl rfl (by decide) rfl ?_
                      refine wl_guard_off rfl rfl rfl (by decide) rfl ?_
                      refine wl_guard_on rfl rfl rfl ?_
                      refine wl_ov (ov_pick_f rfl rfl) rfl ?_
                      refine wl_guard_on rfl rfl rfl ?_
                      refine wl_ov (ov_pick_f rfl rfl) rfl ?_
                      refine wl_ov (ov_pick_t rfl rfl) rfl ?_
                      refine wl_nil ?_
                      refine nx_then ?_
                      refine gw_cond rfl (fun hh => by cases hh) (fun _ => ?_)
                      refine gw_skip ?_
                      refine nx_blk_nrm ?_
                      refine nx_then ?_
                      refine gw_region ?_
                      refine wl_ov (ov_add rfl rfl (by omega) (by omega)) rfl ?_
                      refine wl_ov (ov_move rfl) rfl ?_
                      refine wl_nil ?_
                      exact nx_round (i + 1, ky, mo) ⟨by dsimp only; omega, by rw [hstep]; exact hs2.symm⟩ (by dsimp only; omega) ⟨rfl, rfl, rfl, rfl, rfl, rfl, rfl, rfl, rfl, rfl, rfl, (some_int (by omega)), trivial⟩ (fun _ hm => hm.pick [0, 1, 2] [] [0, 1] rfl rfl)
              · refine wl_set 90 rfl (congrArg Value.bool e4) ?_
                have hcb : countsB ⟨ke, cl, cf, ct, dy, mi⟩ cls fr tt = false := counts_days (of_decide_eq_false e4)
                have hs2 := bestS_no (st := (ky, mo)) (cents := cents) hIX.symm hy hcb
                refine wl_guard_off rfl rfl rfl (by decide) rfl ?_
                refine wl_guard_off rfl rfl rfl (by decide) rfl ?_
                refine wl_guard_off rfl rfl rfl (by decide) rfl ?_
                refine wl_guard_undef rfl rfl rfl rfl ?_
                refine wl_guard_undef rfl rfl rfl rfl ?_
                refine wl_guard_undef rfl rfl rfl rfl ?_
                refine wl_guard_off rfl rfl rfl (by decide) rfl ?_
                refine wl_guard_off rfl rfl rfl (by decide) rfl ?_
                refine wl_guard_undef rfl rfl rfl rfl ?_
                refine wl_guard_undef rfl rfl rfl rfl ?_
                refine wl_guard_undef rfl rfl rfl rfl ?_
                refine wl_guard_undef rfl rfl rfl rfl ?_
                refine wl_guard_undef rfl rfl rfl rfl ?_
                refine wl_guard_undef rfl rfl rfl rfl ?_
                refine wl_guard_undef rfl rfl rfl rfl ?_
                refine wl_guard_undef rfl rfl rfl rfl ?_
                refine wl_guard_off rfl rfl rfl (by decide) rfl ?_
                refine wl_ov (ov_pick_f rfl rfl) rfl ?_
                refine wl_nil ?_
                refine nx_then ?_
                refine gw_cond rfl (fun hh => by cases hh) (fun _ => ?_)
                refine gw_skip ?_
                refine nx_blk_nrm ?_
                refine nx_then ?_
                refine gw_region ?_
                refine wl_ov (ov_add rfl rfl (by omega) (by omega)) rfl ?_
                refine wl_ov (ov_move rfl) rfl ?_
                refine wl_nil ?_
                exact nx_round (i + 1, ky, mo) ⟨by dsimp only; omega, by rw [hstep]; exact hs2.symm⟩ (by dsimp only; omega) ⟨rfl, rfl, rfl, rfl, rfl, rfl, rfl, rfl, rfl, rfl, rfl, (some_int (by omega)), trivial⟩ (fun _ hm => hm.pick [0, 1, 2] [] [0, 1] rfl rfl)
            · refine wa_set 77 rfl (congrArg Value.bool e3) ?_
              have hcb : countsB ⟨ke, cl, cf, ct, dy, mi⟩ cls fr tt = false := counts_in e3
              have hs2 := bestS_no (st := (ky, mo)) (cents := cents) hIX.symm hy hcb
              refine wa_take_off 21 rfl rfl rfl (by decide) (by kernel_rfl) (by kernel_rfl) (by kernel_rfl) (listed' := #[true, true, true, true, true, true, true, true, true, true, true, true, true, true, true, true, true, true, true, true, true, true, false, false, false, false, false, false]) rfl (fun _ _ _ h => h) (fun _ hm => ⟨hm.blkI 0 rfl, hm.blkI 1 rfl, hm.blkI 2 rfl, hm.blkI 3 rfl, hm.fact 0 rfl, hm.fact 1 rfl, trivial⟩) rfl ?_
              refine wa_take_off 22 rfl rfl rfl (by decide) (by kernel_rfl) (by kernel_rfl) (by kernel_rfl) (listed' := #[true, true, true, true, true, true, true, true, true, true, true, true, true, true, true, true, true, true, true, true, true, true, true, false, false, false, false, false]) rfl (fun _ _ _ h => h) (fun _ hm => ⟨hm.blkI 0 rfl, hm.blkI 1 rfl, hm.blkI 2 rfl, hm.blkI 3 rfl, hm.fact 0 rfl, hm.fact 1 rfl, trivial⟩) rfl ?_
              refine wa_take_off 23 rfl rfl rfl (by decide) (by kernel_rfl) (by kernel_rfl) (by kernel_rfl) (listed' := #[true, true, true, true, true, true, true, true, true, true, true, true, true, true, true, true, true, true, true, true, true, true, true, true, false, false, false, false]) rfl (fun _ _ _ h => h) (fun _ hm => ⟨hm.blkI 0 rfl, hm.blkI 1 rfl, hm.blkI 2 rfl, hm.blkI 3 rfl, hm.fact 0 rfl, hm.fact 1 rfl, trivial⟩) rfl ?_
              refine wa_take_off 24 rfl rfl rfl (by decide) (by kernel_rfl) (by kernel_rfl) (by kernel_rfl) (listed' := #[true, true, true, true, true, true, true, true, true, true, true, true, true, true, true, true, true, true, true, true, true, true, true, true, true, false, false, false]) rfl (fun _ _ _ h => h) (fun _ hm => ⟨hm.blkI 0 rfl, hm.blkI 1 rfl, hm.blkI 2 rfl, hm.blkI 3 rfl, hm.fact 0 rfl, hm.fact 1 rfl, trivial⟩) rfl ?_
              refine wa_take_off 25 rfl rfl rfl (by decide) (by kernel_rfl) (by kernel_rfl) (by kernel_rfl) (listed' := #[true, true, true, true, true, true, true, true, true, true, true, true, true, true, true, true, true, true, true, true, true, true, true, true, true, true, false, false]) rfl (fun _ _ _ h => h) (fun _ hm => ⟨hm.blkI 0 rfl, hm.blkI 1 rfl, hm.blkI 2 rfl, hm.blkI 3 rfl, hm.fact 0 rfl, hm.fact 1 rfl, trivial⟩) rfl ?_
              refine wa_take 26 rfl (by kernel_rfl) (by kernel_rfl) (by kernel_rfl) (listed' := #[true, true, true, true, true, true, true, true, true, true, true, true, true, true, true, true, true, true, true, true, true, true, true, true, true, true, true, false]) rfl (fun _ _ _ h => h) (fun _ hm => ⟨hm.blkI 0 rfl, hm.blkI 1 rfl, hm.blkI 2 rfl, hm.blkI 3 rfl, hm.fact 0 rfl, hm.fact 1 rfl, trivial⟩) (ov_pick_f rfl rfl) rfl ?_
              refine wa_take 27 rfl (by kernel_rfl) (by kernel_rfl) (by kernel_rfl) (listed' := #[true, true, true, true, true, true, true, true, true, true, true, true, true, true, true, true, true, true, true, true, true, true, true, true, true, true, true, true]) rfl (fun _ _ _ h => h) (fun _ hm => ⟨hm.blkI 0 rfl, hm.blkI 1 rfl, hm.blkI 2 rfl, hm.blkI 3 rfl, hm.fact 0 rfl, hm.fact 1 rfl, trivial⟩) (ov_assign rfl) rfl ?_
              refine wa_done (by kernel_rfl) ?_
              refine nx_then ?_
              refine gw_seq ?_
              refine gw_region ?_
              refine wl_ov (ov_move rfl) rfl ?_
              refine wl_ov (ov_field fo188_5 rfl rfl) rfl ?_
              refine wl_ov (ov_load sc3 rfl (fun _ hm => hm.blkI 3 rfl) rfl) rfl ?_
              refine wl_ov (ov_mul rfl rfl (by omega) (by omega)) rfl ?_
              refine wl_ov (ov_quo rfl rfl (by omega) (by omega) (by omega)) rfl ?_
              refine wl_ov (ov_assign rfl) rfl ?_
              refine wl_nil ?_
              refine nx_then ?_
              refine gw_seq ?_
              refine gw_region ?_
              refine wl_ov (ov_move rfl) rfl ?_
              refine wl_ov (ov_move rfl) rfl ?_
              refine wl_guard_off rfl rfl rfl (by decide) rfl ?_
              refine wl_guard_off rfl rfl rfl (by decide) rfl ?_
              refine wl_guard_off rfl rfl rfl (by decide) rfl ?_
              refine wl_guard_undef rfl rfl rfl rfl ?_
              refine wl_guard_undef rfl rfl rfl rfl ?_
              refine wl_guard_undef rfl rfl rfl rfl ?_
              refine wl_guard_off rfl rfl rfl (by decide) rfl ?_
              refine wl_guard_off rfl rfl rfl (by decide) rfl ?_
              refine wl_guard_undef rfl rfl rfl rfl ?_
              refine wl_guard_undef rfl rfl rfl rfl ?_
              refine wl_guard_undef rfl rfl rfl rfl ?_
              refine wl_guard_undef rfl rfl rfl rfl ?_
              refine wl_guard_undef rfl rfl rfl rfl ?_
              refine wl_guard_undef rfl rfl rfl rfl ?_
              refine wl_guard_undef rfl rfl rfl rfl ?_
              refine wl_guard_undef rfl rfl rfl rfl ?_
              refine wl_guard_off rfl rfl rfl (by decide) rfl ?_
              refine wl_ov (ov_pick_f rfl rfl) rfl ?_
              refine wl_nil ?_
              refine nx_then ?_
              refine gw_cond rfl (fun hh => by cases hh) (fun _ => ?_)
              refine gw_skip ?_
              refine nx_blk_nrm ?_
              refine nx_then ?_
              refine gw_region ?_
              refine wl_ov (ov_add rfl rfl (by omega) (by omega)) rfl ?_
              refine wl_ov (ov_move rfl) rfl ?_
              refine wl_nil ?_
              exact nx_round (i + 1, ky, mo) ⟨by dsimp only; omega, by rw [hstep]; exact hs2.symm⟩ (by dsimp only; omega) ⟨rfl, rfl, rfl, rfl, rfl, rfl, rfl, rfl, rfl, rfl, rfl, (some_int (by omega)), trivial⟩ (fun _ hm => hm.pick [0, 1, 2] [] [0, 1] rfl rfl)
          · refine wa_set 60 rfl (congrArg Value.bool e1) ?_
            have e1 : emptyS cl = false := e1
            refine wa_take_on 4 rfl rfl rfl (by kernel_rfl) (by kernel_rfl) (by kernel_rfl) (listed' := #[true, true, true, true, true, false, false, false, false, false, false, false, false, false, false, false, false, false, false, false, false, false, false, false, false, false, false, false]) rfl (fun _ _ _ h => h) (fun _ hm => ⟨hm.blkI 0 rfl, hm.blkI 1 rfl, hm.blkI 2 rfl, hm.blkI 3 rfl, hm.fact 0 rfl, hm.fact 1 rfl, trivial⟩) (ov_field fo188_1 rfl rfl) rfl ?_
            refine wa_take_on 5 rfl rfl rfl (by kernel_rfl) (by kernel_rfl) (by kernel_rfl) (listed' := #[true, true, true, true, true, true, false, false, false, false, false, false, false, false, false, false, false, false, false, false, false, false, false, false, false, false, false, false]) rfl (fun _ _ _ h => h) (fun _ hm => ⟨hm.blkI 0 rfl, hm.blkI 1 rfl, hm.blkI 2 rfl, hm.blkI 3 rfl, hm.fact 0 rfl, hm.fact 1 rfl, trivial⟩) (ov_load sc9 rfl (fun _ hm => hm.2.2.2.1) rfl) rfl ?_
            refine wa_take_on 6 rfl rfl rfl (by kernel_rfl) (by kernel_rfl) (by kernel_rfl) (listed' := #[true, true, true, true, true, true, true, false, false, false, false, false, false, false, false, false, false, false, false, false, false, false, false, false, false, false, false, false]) rfl (fun _ _ _ h => h) (fun _ hm => ⟨hm.blkI 0 rfl, hm.blkI 1 rfl, hm.blkI 2 rfl, hm.blkI 3 rfl, hm.fact 0 rfl, hm.fact 1 rfl, trivial⟩) (ov_move rfl) rfl ?_
            refine wa_take_on 7 rfl rfl rfl (by kernel_rfl) (by kernel_rfl) (by kernel_rfl) (listed' := #[true, true, true, true, true, true, true, true, false, false, false, false, false, false, false, false, false, false, false, false, false, false, false, false, false, false, false, false]) rfl (fun _ _ _ h => h) (fun _ hm => ⟨hm.blkI 0 rfl, hm.blkI 1 rfl, hm.blkI 2 rfl, hm.blkI 3 rfl, hm.fact 0 rfl, hm.fact 1 rfl, trivial⟩) (ov_seql rfl rfl) rfl ?_
            refine wa_take 8 rfl (by kernel_rfl) (by kernel_rfl) (by kernel_rfl) (listed' := #[true, true, true, true, true, true, true, true, true, false, false, false, false, false, false, false, false, false, false, false, false, false, false, false, false, false, false, false]) rfl (fun _ _ _ h => h) (fun _ hm => ⟨hm.blkI 0 rfl, hm.blkI 1 rfl, hm.blkI 2 rfl, hm.blkI 3 rfl, hm.fact 0 rfl, hm.fact 1 rfl, trivial⟩) (ov_pick_f rfl rfl) rfl ?_
            refine wa_take 9 rfl (by kernel_rfl) (by kernel_rfl) (by kernel_rfl) (listed' := #[true, true, true, true, true, true, true, true, true, true, false, false, false, false, false, false, false, false, false, false, false, false, false, false, false, false, false, false]) rfl (fun _ _ _ h => h) (fun _ hm => ⟨hm.blkI 0 rfl, hm.blkI 1 rfl, hm.blkI 2 rfl, hm.blkI 3 rfl, hm.fact 0 rfl, hm.fact 1 rfl, trivial⟩) (ov_move rfl) rfl ?_
            rcases Bool.eq_false_or_eq_true (cl.toList == cls.toList) with e2 | e2
            · refine wa_set 66 rfl (congrArg Value.bool e2) ?_
              refine wa_take_on 10 rfl rfl rfl (by kernel_rfl) (by kernel_rfl) (by kernel_rfl) (listed' := #[true, true, true, true, true, true, true, true, true, true, true, false, false, false, false, false, false, false, false, false, false, false, false, false, false, false, false, false]) rfl (fun _ _ _ h => h) (fun _ hm => ⟨hm.blkI 0 rfl, hm.blkI 1 rfl, hm.blkI 2 rfl, hm.blkI 3 rfl, hm.fact 0 rfl, hm.fact 1 rfl, trivial⟩) (ov_field fo56_0 rfl rfl) rfl ?_
              refine wa_take_on 11 rfl rfl rfl (by kernel_rfl) (by kernel_rfl) (by kernel_rfl) (listed' := #[true, true, true, true, true, true, true, true, true, true, true, true, false, false, false, false, false, false, false, false, false, false, false, false, false, false, false, false]) rfl (fun _ _ _ h => h) (fun _ hm => ⟨hm.blkI 0 rfl, hm.blkI 1 rfl, hm.blkI 2 rfl, hm.blkI 3 rfl, hm.fact 0 rfl, hm.fact 1 rfl, trivial⟩) (ov_load sc3 rfl (fun _ hm => hm.2.1) rfl) rfl ?_
              refine wa_take_on 12 rfl rfl rfl (by kernel_rfl) (by kernel_rfl) (by kernel_rfl) (listed' := #[true, true, true, true, true, true, true, true, true, true, true, true, true, false, false, false, false, false, false, false, false, false, false, false, false, false, false, false]) rfl (fun _ _ _ h => h) (fun _ hm => ⟨hm.blkI 0 rfl, hm.blkI 1 rfl, hm.blkI 2 rfl, hm.blkI 3 rfl, hm.fact 0 rfl, hm.fact 1 rfl, trivial⟩) (ov_quo rfl rfl (by omega) (by omega) (by omega)) rfl ?_
              refine wa_take_on 13 rfl rfl rfl (by kernel_rfl) (by kernel_rfl) (by kernel_rfl) (listed' := #[true, true, true, true, true, true, true, true, true, true, true, true, true, true, false, false, false, false, false, false, false, false, false, false, false, false, false, false]) rfl (fun _ _ _ h => h) (fun _ hm => ⟨hm.blkI 0 rfl, hm.blkI 1 rfl, hm.blkI 2 rfl, hm.blkI 3 rfl, hm.fact 0 rfl, hm.fact 1 rfl, trivial⟩) (ov_field fo188_2 rfl rfl) rfl ?_
              refine wa_take_on 14 rfl rfl rfl (by kernel_rfl) (by kernel_rfl) (by kernel_rfl) (listed' := #[true, true, true, true, true, true, true, true, true, true, true, true, true, true, true, false, false, false, false, false, false, false, false, false, false, false, false, false]) rfl (fun _ _ _ h => h) (fun _ hm => ⟨hm.blkI 0 rfl, hm.blkI 1 rfl, hm.blkI 2 rfl, hm.blkI 3 rfl, hm.fact 0 rfl, hm.fact 1 rfl, trivial⟩) (ov_load sc3 rfl (fun _ hm => hm.2.2.2.1) rfl) rfl ?_
              refine wa_take_on 15 rfl rfl rfl (by kernel_rfl) (by kernel_rfl) (by kernel_rfl) (listed' := #[true, true, true, true, true, true, true, true, true, true, true, true, true, true, true, true, false, false, false, false, false, false, false, false, false, false, false, false]) rfl (fun _ _ _ h => h) (fun _ hm => ⟨hm.blkI 0 rfl, hm.blkI 1 rfl, hm.blkI 2 rfl, hm.blkI 3 rfl, hm.fact 0 rfl, hm.fact 1 rfl, trivial⟩) (ov_field fo188_3 rfl rfl) rfl ?_
              refine wa_take_on 16 rfl rfl rfl (by kernel_rfl) (by kernel_rfl) (by kernel_rfl) (listed' := #[true, true, true, true, true, true, true, true, true, true, true, true, true, true, true, true, true, false, false, false, false, false, false, false, false, false, false, false]) rfl (fun _ _ _ h => h) (fun _ hm => ⟨hm.blkI 0 rfl, hm.blkI 1 rfl, hm.blkI 2 rfl, hm.blkI 3 rfl, hm.fact 0 rfl, hm.fact 1 rfl, trivial⟩) (ov_load sc3 rfl (fun _ hm => hm.2.2.2.1) rfl) rfl ?_
              refine wa_take_on 17 rfl rfl rfl (by kernel_rfl) (by kernel_rfl) (by kernel_rfl) (listed' := #[true, true, true, true, true, true, true, true, true, true, true, true, true, true, true, true, true, true, false, false, false, false, false, false, false, false, false, false]) rfl (fun _ _ _ h => h) (fun _ hm => ⟨hm.blkI 0 rfl, hm.blkI 1 rfl, hm.blkI 2 rfl, hm.blkI 3 rfl, hm.fact 0 rfl, hm.fact 1 rfl, trivial⟩) (ov_sub rfl rfl (by omega) (by omega)) rfl ?_
              refine wa_all [18] (by kernel_rfl) rfl ⟨⟨_, rfl, ?_⟩, trivial⟩
              refine wl_guard_on rfl rfl rfl ?_
              refine wl_callw rfl cb99 rfl rfl (fun wx hm => (in_any _ _ _ wx)) ?_
              refine wl_nil ?_
              refine nx_wa0 (listed' := #[true, true, true, true, true, true, true, true, true, true, true, true, true, true, true, true, true, true, true, false, false, false, false, false, false, false, false, false]) rfl (fun _ hm => ⟨hm.blkI 0 rfl, hm.blkI 1 rfl, hm.blkI 2 rfl, hm.blkI 3 rfl, hm.fact 0 rfl, hm.fact 1 rfl, trivial⟩) ?_
              refine wa_take 19 rfl (by kernel_rfl) (by kernel_rfl) (by kernel_rfl) (listed' := #[true, true, true, true, true, true, true, true, true, true, true, true, true, true, true, true, true, true, true, true, false, false, false, false, false, false, false, false]) rfl (fun _ _ _ h => h) (fun _ hm => ⟨hm.blkI 0 rfl, hm.blkI 1 rfl, hm.blkI 2 rfl, hm.blkI 3 rfl, hm.fact 0 rfl, hm.fact 1 rfl, trivial⟩) (ov_pick_t rfl rfl) rfl ?_
              refine wa_take 20 rfl (by kernel_rfl) (by kernel_rfl) (by kernel_rfl) (listed' := #[true, true, true, true, true, true, true, true, true, true, true, true, true, true, true, true, true, true, true, true, true, false, false, false, false, false, false, false]) rfl (fun _ _ _ h => h) (fun _ hm => ⟨hm.blkI 0 rfl, hm.blkI 1 rfl, hm.blkI 2 rfl, hm.blkI 3 rfl, hm.fact 0 rfl, hm.fact 1 rfl, trivial⟩) (ov_move rfl) rfl ?_
              rcases Bool.eq_false_or_eq_true (inB (fr / 1440) cf (ct - 1)) with e3 | e3
              · refine wa_set 77 rfl (congrArg Value.bool e3) ?_
                refine wa_take_on 21 rfl rfl rfl (by kernel_rfl) (by kernel_rfl) (by kernel_rfl) (listed' := #[true, true, true, true, true, true, true, true, true, true, true, true, true, true, true, true, true, true, true, true, true, true, false, false, false, false, false, false]) rfl (fun _ _ _ h => h) (fun _ hm => ⟨hm.blkI 0 rfl, hm.blkI 1 rfl, hm.blkI 2 rfl, hm.blkI 3 rfl, hm.fact 0 rfl, hm.fact 1 rfl, trivial⟩) (ov_loads rz56 rfl (fun _ hm => hm.2.1) rfl rfl) rfl ?_
                refine wa_take_on 23 rfl rfl rfl (by kernel_rfl) (by kernel_rfl) (by kernel_rfl) (listed' := #[true, true, true, true, true, true, true, true, true, true, true, true, true, true, true, true, true, true, true, true, true, true, false, true, false, false, false, false]) rfl (fun _ _ _ h => h) (fun _ hm => ⟨hm.blkI 0 rfl, hm.blkI 1 rfl, hm.blkI 2 rfl, hm.blkI 3 rfl, hm.fact 0 rfl, hm.fact 1 rfl, trivial⟩) (ov_field fo188_4 rfl rfl) rfl ?_
                refine wa_take_on 24 rfl rfl rfl (by kernel_rfl) (by kernel_rfl) (by kernel_rfl) (listed' := #[true, true, true, true, true, true, true, true, true, true, true, true, true, true, true, true, true, true, true, true, true, true, false, true, true, false, false, false]) rfl (fun _ _ _ h => h) (fun _ hm => ⟨hm.blkI 0 rfl, hm.blkI 1 rfl, hm.blkI 2 rfl, hm.blkI 3 rfl, hm.fact 0 rfl, hm.fact 1 rfl, trivial⟩) (ov_load sc3 rfl (fun _ hm => hm.2.2.2.1) rfl) rfl ?_
                refine wa_all [22] (by kernel_rfl) rfl ⟨⟨_, rfl, ?_⟩, trivial⟩
                refine wl_guard_on rfl rfl rfl ?_
                refine wl_callv rfl cb105 rfl rfl (fun wx hm => (days_any _ _ wx (by omega) (by omega) (by omega))) ?_
                refine wl_nil ?_
                refine nx_wa0 (listed' := #[true, true, true, true, true, true, true, true, true, true, true, true, true, true, true, true, true, true, true, true, true, true, true, true, true, false, false, false]) rfl (fun _ hm => ⟨hm.blkI 0 rfl, hm.blkI 1 rfl, hm.blkI 2 rfl, hm.blkI 3 rfl, hm.fact 0 rfl, hm.fact 1 rfl, trivial⟩) ?_
                refine wa_take_on 25 rfl rfl rfl (by kernel_rfl) (by kernel_rfl) (by kernel_rfl) (listed' := #[true, true, true, true, true, true, true, true, true, true, true, true, true, true, true, true, true, true, true, true, true, true, true, true, true, true, false, false]) rfl (fun _ _ _ h => h) (fun _ hm => ⟨hm.blkI 0 rfl, hm.blkI 1 rfl, hm.blkI 2 rfl, hm.blkI 3 rfl, hm.fact 0 rfl, hm.fact 1 rfl, trivial⟩) (ov_geq rfl rfl) rfl ?_
                refine wa_take 26 rfl (by kernel_rfl) (by kernel_rfl) (by kernel_rfl) (listed' := #[true, true, true, true, true, true, true, true, true, true, true, true, true, true, true, true, true, true, true, true, true, true, true, true, true, true, true, false]) rfl (fun _ _ _ h => h) (fun _ hm => ⟨hm.blkI 0 rfl, hm.blkI 1 rfl, hm.blkI 2 rfl, hm.blkI 3 rfl, hm.fact 0 rfl, hm.fact 1 rfl, trivial⟩) (ov_pick_t rfl rfl) rfl ?_
                refine wa_take 27 rfl (by kernel_rfl) (by kernel_rfl) (by kernel_rfl) (listed' := #[true, true, true, true, true, true, true, true, true, true, true, true, true, true, true, true, true, true, true, true, true, true, true, true, true, true, true, true]) rfl (fun _ _ _ h => h) (fun _ hm => ⟨hm.blkI 0 rfl, hm.blkI 1 rfl, hm.blkI 2 rfl, hm.blkI 3 rfl, hm.fact 0 rfl, hm.fact 1 rfl, trivial⟩) (ov_assign rfl) rfl ?_
                refine wa_done (by kernel_rfl) ?_
                refine nx_then ?_
                refine gw_seq ?_
                refine gw_region ?_
                refine wl_ov (ov_move rfl) rfl ?_
                refine wl_ov (ov_field fo188_5 rfl rfl) rfl ?_
                refine wl_ov (ov_load sc3 rfl (fun _ hm => hm.blkI 3 rfl) rfl) rfl ?_
                refine wl_ov (ov_mul rfl rfl (by omega) (by omega)) rfl ?_
                refine wl_ov (ov_quo rfl rfl (by omega) (by omega) (by omega)) rfl ?_
                refine wl_ov (ov_assign rfl) rfl ?_
                refine wl_nil ?_
                refine nx_then ?_
                refine gw_seq ?_
                refine gw_region ?_
                refine wl_ov (ov_move rfl) rfl ?_
                refine wl_ov (ov_move rfl) rfl ?_
                rcases Bool.eq_false_or_eq_true (decide (dy ≤ daysV fr tt)) with e4 | e4
                · refine wl_set 90 rfl (congrArg Value.bool e4) ?_
                  have hcb : countsB ⟨ke, cl, cf, ct, dy, mi⟩ cls fr tt = true := counts_yes (.inr e2) e3 (of_decide_eq_true e4)
                  refine wl_guard_on rfl rfl rfl ?_
                  refine wl_ov (ov_move rfl) rfl ?_
                  refine wl_guard_on rfl rfl rfl ?_
                  refine wl_ov (ov_seql rfl rfl) rfl ?_
                  refine wl_guard_on rfl rfl rfl ?_
                  refine wl_ov (ov_move rfl) rfl ?_
                  rcases Bool.eq_false_or_eq_true (ky.toList == (⟨#[]⟩ : ByteArray).toList) with c1 | c1
                  · refine wl_set 93 rfl (congrArg Value.bool c1) ?_
                    have hs2 := bestS_yes (st := (ky, mo)) (cents := cents) hIX.symm hy hcb (.inl c1)
                    refine wl_guard_off rfl rfl rfl (by decide) rfl ?_
                    refine wl_guard_off rfl rfl rfl (by decide) rfl ?_
                    refine wl_guard_off rfl rfl rfl (by decide) rfl ?_
                    refine wl_guard_on rfl rfl rfl ?_
                    refine wl_ov (ov_pick_t rfl rfl) rfl ?_
                    refine wl_guard_on rfl rfl rfl ?_
                    refine wl_ov (ov_move rfl) rfl ?_
                    refine wl_guard_off rfl rfl rfl (by decide) rfl ?_
                    refine wl_guard_off rfl rfl rfl (by decide) rfl ?_
                    refine wl_guard_off rfl rfl rfl (by decide) rfl ?_
                    refine wl_guard_off rfl rfl rfl (by decide) rfl ?_
                    refine wl_guard_undef rfl rfl rfl rfl ?_
                    refine wl_guard_undef rfl rfl rfl rfl ?_
                    refine wl_guard_undef rfl rfl rfl rfl ?_
                    refine wl_guard_off rfl rfl rfl (by decide) rfl ?_
                    refine wl_guard_on rfl rfl rfl ?_
                    refine wl_ov (ov_pick_t rfl rfl) rfl ?_
                    refine wl_ov (ov_pick_t rfl rfl) rfl ?_
                    refine wl_nil ?_
                    refine nx_then ?_
                    refine gw_cond rfl (fun _ => ?_) (fun hh => by cases hh)
                    refine gw_region ?_
                    refine wl_ov (ov_move rfl) rfl ?_
                    refine wl_ov (ov_move rfl) rfl ?_
                    refine wl_ov (ov_assign rfl) rfl ?_
                    refine wl_ov (ov_assign rfl) rfl ?_
                    refine wl_nil ?_
                    refine nx_blk_nrm ?_
                    refine nx_then ?_
                    refine gw_region ?_
                    refine wl_ov (ov_add rfl rfl (by omega) (by omega)) rfl ?_
                    refine wl_ov (ov_move rfl) rfl ?_
                    refine wl_nil ?_
                    exact nx_round (i + 1, k, cents * mi / 1000) ⟨by dsimp only; omega, by rw [hstep]; exact hs2.symm⟩ (by dsimp only; omega) ⟨rfl, rfl, rfl, rfl, rfl, rfl, rfl, rfl, rfl, rfl, rfl, (some_int (by omega)), trivial⟩ (fun _ hm => hm.pick [0, 1, 2] [] [0, 1] rfl rfl)
                  · refine wl_set 93 rfl (congrArg Value.bool c1) ?_
                    refine wl_guard_on rfl rfl rfl ?_
                    refine wl_ov (ov_move rfl) rfl ?_
                    refine wl_guard_on rfl rfl rfl ?_
                    refine wl_ov (ov_move rfl) rfl ?_
                    refine wl_guard_on rfl rfl rfl ?_
                    refine wl_ov (ov_gtr rfl rfl) rfl ?_
                    refine wl_guard_on rfl rfl rfl ?_
                    refine wl_ov (ov_pick_f rfl rfl) rfl ?_
                    refine wl_guard_on rfl rfl rfl ?_
                    refine wl_ov (ov_move rfl) rfl ?_
                    rcases Bool.eq_false_or_eq_true (decide (mo < (cents * mi) / 1000)) with c2 | c2
                    · refine wl_set 98 rfl (congrArg Value.bool c2) ?_
                      have hs2 := bestS_yes (st := (ky, mo)) (cents := cents) hIX.symm hy hcb (.inr (.inl (of_decide_eq_true c2)))
                      refine wl_guard_off rfl rfl rfl (by decide) rfl ?_
                      refine wl_guard_off rfl rfl rfl (by decide) rfl ?_
                      refine wl_guard_off rfl rfl rfl (by decide) rfl ?_
                      refine wl_guard_off rfl rfl rfl (by decide) rfl ?_
                      refine wl_guard_undef rfl rfl rfl rfl ?_
                      refine wl_guard_undef rfl rfl rfl rfl ?_
                      refine wl_guard_undef rfl rfl rfl rfl ?_
                      refine wl_guard_off rfl rfl rfl (by decide) rfl ?_
                      refine wl_guard_on rfl rfl rfl ?_
                      refine wl_ov (ov_pick_t rfl rfl) rfl ?_
                      refine wl_ov (ov_pick_t rfl rfl) rfl ?_
                      refine wl_nil ?_
                      refine nx_then ?_
                      refine gw_cond rfl (fun _ => ?_) (fun hh => by cases hh)
                      refine gw_region ?_
                      refine wl_ov (ov_move rfl) rfl ?_
                      refine wl_ov (ov_move rfl) rfl ?_
                      refine wl_ov (ov_assign rfl) rfl ?_
                      refine wl_ov (ov_assign rfl) rfl ?_
                      refine wl_nil ?_
                      refine nx_blk_nrm ?_
                      refine nx_then ?_
                      refine gw_region ?_
                      refine wl_ov (ov_add rfl rfl (by omega) (by omega)) rfl ?_
                      refine wl_ov (ov_move rfl) rfl ?_
                      refine wl_nil ?_
                      exact nx_round (i + 1, k, cents * mi / 1000) ⟨by dsimp only; omega, by rw [hstep]; exact hs2.symm⟩ (by dsimp only; omega) ⟨rfl, rfl, rfl, rfl, rfl, rfl, rfl, rfl, rfl, rfl, rfl, (some_int (by omega)), trivial⟩ (fun _ hm => hm.pick [0, 1, 2] [] [0, 1] rfl rfl)
                    · refine wl_set 98 rfl (congrArg Value.bool c2) ?_
                      refine wl_guard_on rfl rfl rfl ?_
                      refine wl_ov (ov_move rfl) rfl ?_
                      refine wl_guard_on rfl rfl rfl ?_
                      refine wl_ov (ov_move rfl) rfl ?_
                      refine wl_guard_on rfl rfl rfl ?_
                      refine wl_ov (ov_eql rfl rfl) rfl ?_
                      refine wl_guard_on rfl rfl rfl ?_
                      refine wl_ov (ov_move rfl) rfl ?_
                      rcases Bool.eq_false_or_eq_true (decide ((cents * mi) / 1000 = mo)) with c3 | c3
                      · refine wl_set 102 rfl (congrArg Value.bool c3) ?_
                        refine wl_guard_on rfl rfl rfl ?_
                        refine wl_ov (ov_move rfl) rfl ?_
                        refine wl_guard_on rfl rfl rfl ?_
                        refine wl_ov (ov_move rfl) rfl ?_
                        refine wl_guard_on rfl rfl rfl ?_
                        refine wl_ov (ov_slss rfl rfl) rfl ?_
                        refine wl_guard_on rfl rfl rfl ?_
                        refine wl_ov (ov_pick_t rfl rfl) rfl ?_
                        refine wl_guard_on rfl rfl rfl ?_
                        refine wl_ov (ov_pick_f rfl rfl) rfl ?_
                        refine wl_ov (ov_pick_t rfl rfl) rfl ?_
                        refine wl_nil ?_
                        refine nx_then ?_
                        refine gw_cond rfl (fun hh => ?_) (fun hh => ?_)
                        · have c4 : (Op.bytesLess k.toList ky.toList) = true := by simpa using hh
                          clear hh
                          refine gw_region ?_
                          have hs2 := bestS_yes (st := (ky, mo)) (cents := cents) hIX.symm hy hcb (.inr (.inr ⟨of_decide_eq_true c3, c4⟩))
                          refine wl_ov (ov_move rfl) rfl ?_
                          refine wl_ov (ov_move rfl) rfl ?_
                          refine wl_ov (ov_assign rfl) rfl ?_
                          refine wl_ov (ov_assign rfl) rfl ?_
                          refine wl_nil ?_
                          refine nx_blk_nrm ?_
                          refine nx_then ?_
                          refine gw_region ?_
                          refine wl_ov (ov_add rfl rfl (by omega) (by omega)) rfl ?_
                          refine wl_ov (ov_move rfl) rfl ?_
                          refine wl_nil ?_
                          exact nx_round (i + 1, k, cents * mi / 1000) ⟨by dsimp only; omega, by rw [hstep]; exact hs2.symm⟩ (by dsimp only; omega) ⟨rfl, rfl, rfl, rfl, rfl, rfl, rfl, rfl, rfl, rfl, rfl, (some_int (by omega)), trivial⟩ (fun _ hm => hm.pick [0, 1, 2] [] [0, 1] rfl rfl)
                        · have c4 : (Op.bytesLess k.toList ky.toList) = false := by simpa using hh
                          clear hh
                          refine gw_skip ?_
                          refine nx_blk_nrm ?_
                          refine nx_then ?_
                          refine gw_region ?_
                          have hno : ¬ (emptyS (ky, mo).1 = true ∨ (ky, mo).2 < offV cents ⟨ke, cl, cf, ct, dy, mi⟩ ∨ (offV cents ⟨ke, cl, cf, ct, dy, mi⟩ = (ky, mo).2 ∧ ltS k (ky, mo).1 = true)) := by
                            rintro (h | h | ⟨_, h⟩)
                            · exact absurd (h.symm.trans c1) (by decide)
                            · exact of_decide_eq_false c2 h
                            · exact absurd (h.symm.trans c4) (by decide)
                          have hs2 := bestS_keep (cls := cls) (fr := fr) (tt := tt) (st := (ky, mo)) (cents := cents) hIX.symm hy (hno)
                          refine wl_ov (ov_add rfl rfl (by omega) (by omega)) rfl ?_
                          refine wl_ov (ov_move rfl) rfl ?_
                          refine wl_nil ?_
                          exact nx_round (i + 1, ky, mo) ⟨by dsimp only; omega, by rw [hstep]; exact hs2.symm⟩ (by dsimp only; omega) ⟨rfl, rfl, rfl, rfl, rfl, rfl, rfl, rfl, rfl, rfl, rfl, (some_int (by omega)), trivial⟩ (fun _ hm => hm.pick [0, 1, 2] [] [0, 1] rfl rfl)
                      · refine wl_set 102 rfl (congrArg Value.bool c3) ?_
                        have hno : ¬ (emptyS (ky, mo).1 = true ∨ (ky, mo).2 < offV cents ⟨ke, cl, cf, ct, dy, mi⟩ ∨ (offV cents ⟨ke, cl, cf, ct, dy, mi⟩ = (ky, mo).2 ∧ ltS k (ky, mo).1 = true)) := by
                          rintro (h | h | ⟨h, _⟩)
                          · exact absurd (h.symm.trans c1) (by decide)
                          · exact of_decide_eq_false c2 h
                          · exact of_decide_eq_false c3 h
                        have hs2 := bestS_keep (cls := cls) (fr := fr) (tt := tt) (st := (ky, mo)) (cents := cents) hIX.symm hy (hno)
                        refine wl_guard_off rfl rfl rfl (by decide) rfl ?_
                        refine wl_guard_off rfl rfl rfl (by decide) rfl ?_
                        refine wl_guard_off rfl rfl rfl (by decide) rfl ?_
                        refine wl_guard_on rfl rfl rfl ?_
                        refine wl_ov (ov_pick_f rfl rfl) rfl ?_
                        refine wl_guard_on rfl rfl rfl ?_
                        refine wl_ov (ov_pick_f rfl rfl) rfl ?_
                        refine wl_ov (ov_pick_t rfl rfl) rfl ?_
                        refine wl_nil ?_
                        refine nx_then ?_
                        refine gw_cond rfl (fun hh => by cases hh) (fun _ => ?_)
                        refine gw_skip ?_
                        refine nx_blk_nrm ?_
                        refine nx_then ?_
                        refine gw_region ?_
                        refine wl_ov (ov_add rfl rfl (by omega) (by omega)) rfl ?_
                        refine wl_ov (ov_move rfl) rfl ?_
                        refine wl_nil ?_
                        exact nx_round (i + 1, ky, mo) ⟨by dsimp only; omega, by rw [hstep]; exact hs2.symm⟩ (by dsimp only; omega) ⟨rfl, rfl, rfl, rfl, rfl, rfl, rfl, rfl, rfl, rfl, rfl, (some_int (by omega)), trivial⟩ (fun _ hm => hm.pick [0, 1, 2] [] [0, 1] rfl rfl)
                · refine wl_set 90 rfl (congrArg Value.bool e4) ?_
                  have hcb : countsB ⟨ke, cl, cf, ct, dy, mi⟩ cls fr tt = false := counts_days (of_decide_eq_false e4)
                  have hs2 := bestS_no (st := (ky, mo)) (cents := cents) hIX.symm hy hcb
                  refine wl_guard_off rfl rfl rfl (by decide) rfl ?_
                  refine wl_guard_off rfl rfl rfl (by decide) rfl ?_
                  refine wl_guard_off rfl rfl rfl (by decide) rfl ?_
                  refine wl_guard_undef rfl rfl rfl rfl ?_
                  refine wl_guard_undef rfl rfl rfl rfl ?_
                  refine wl_guard_undef rfl rfl rfl rfl ?_
                  refine wl_guard_off rfl rfl rfl (by decide) rfl ?_
                  refine wl_guard_off rfl rfl rfl (by decide) rfl ?_
                  refine wl_guard_undef rfl rfl rfl rfl ?_
                  refine wl_guard_undef rfl rfl rfl rfl ?_
                  refine wl_guard_undef rfl rfl rfl rfl ?_
                  refine wl_guard_undef rfl rfl rfl rfl ?_
                  refine wl_guard_undef rfl rfl rfl rfl ?_
                  refine wl_guard_undef rfl rfl rfl rfl ?_
                  refine wl_guard_undef rfl rfl rfl rfl ?_
                  refine wl_guard_undef rfl rfl rfl rfl ?_
                  refine wl_guard_off rfl rfl rfl (by decide) rfl ?_
                  refine wl_ov (ov_pick_f rfl rfl) rfl ?_
                  refine wl_nil ?_
                  refine nx_then ?_
                  refine gw_cond rfl (fun hh => by cases hh) (fun _ => ?_)
                  refine gw_skip ?_
                  refine nx_blk_nrm ?_
                  refine nx_then ?_
                  refine gw_region ?_
                  refine wl_ov (ov_add rfl rfl (by omega) (by omega)) rfl ?_
                  refine wl_ov (ov_move rfl) rfl ?_
                  refine wl_nil ?_
                  exact nx_round (i + 1, ky, mo) ⟨by dsimp only; omega, by rw [hstep]; exact hs2.symm⟩ (by dsimp only; omega) ⟨rfl, rfl, rfl, rfl, rfl, rfl, rfl, rfl, rfl, rfl, rfl, (some_int (by omega)), trivial⟩ (fun _ hm => hm.pick [0, 1, 2] [] [0, 1] rfl rfl)
              · refine wa_set 77 rfl (congrArg Value.bool e3) ?_
                have hcb : countsB ⟨ke, cl, cf, ct, dy, mi⟩ cls fr tt = false := counts_in e3
                have hs2 := bestS_no (st := (ky, mo)) (cents := cents) hIX.symm hy hcb
                refine wa_take_off 21 rfl rfl rfl (by decide) (by kernel_rfl) (by kernel_rfl) (by kernel_rfl) (listed' := #[true, true, true, true, true, true, true, true, true, true, true, true, true, true, true, true, true, true, true, true, true, true, false, false, false, false, false, false]) rfl (fun _ _ _ h => h) (fun _ hm => ⟨hm.blkI 0 rfl, hm.blkI 1 rfl, hm.blkI 2 rfl, hm.blkI 3 rfl, hm.fact 0 rfl, hm.fact 1 rfl, trivial⟩) rfl ?_
                refine wa_take_off 22 rfl rfl rfl (by decide) (by kernel_rfl) (by kernel_rfl) (by kernel_rfl) (listed' := #[true, true, true, true, true, true, true, true, true, true, true, true, true, true, true, true, true, true, true, true, true, true, true, false, false, false, false, false]) rfl (fun _ _ _ h => h) (fun _ hm => ⟨hm.blkI 0 rfl, hm.blkI 1 rfl, hm.blkI 2 rfl, hm.blkI 3 rfl, hm.fact 0 rfl, hm.fact 1 rfl, trivial⟩) rfl ?_
                refine wa_take_off 23 rfl rfl rfl (by decide) (by kernel_rfl) (by kernel_rfl) (by kernel_rfl) (listed' := #[true, true, true, true, true, true, true, true, true, true, true, true, true, true, true, true, true, true, true, true, true, true, true, true, false, false, false, false]) rfl (fun _ _ _ h => h) (fun _ hm => ⟨hm.blkI 0 rfl, hm.blkI 1 rfl, hm.blkI 2 rfl, hm.blkI 3 rfl, hm.fact 0 rfl, hm.fact 1 rfl, trivial⟩) rfl ?_
                refine wa_take_off 24 rfl rfl rfl (by decide) (by kernel_rfl) (by kernel_rfl) (by kernel_rfl) (listed' := #[true, true, true, true, true, true, true, true, true, true, true, true, true, true, true, true, true, true, true, true, true, true, true, true, true, false, false, false]) rfl (fun _ _ _ h => h) (fun _ hm => ⟨hm.blkI 0 rfl, hm.blkI 1 rfl, hm.blkI 2 rfl, hm.blkI 3 rfl, hm.fact 0 rfl, hm.fact 1 rfl, trivial⟩) rfl ?_
                refine wa_take_off 25 rfl rfl rfl (by decide) (by kernel_rfl) (by kernel_rfl) (by kernel_rfl) (listed' := #[true, true, true, true, true, true, true, true, true, true, true, true, true, true, true, true, true, true, true, true, true, true, true, true, true, true, false, false]) rfl (fun _ _ _ h => h) (fun _ hm => ⟨hm.blkI 0 rfl, hm.blkI 1 rfl, hm.blkI 2 rfl, hm.blkI 3 rfl, hm.fact 0 rfl, hm.fact 1 rfl, trivial⟩) rfl ?_
                refine wa_take 26 rfl (by kernel_rfl) (by kernel_rfl) (by kernel_rfl) (listed' := #[true, true, true, true, true, true, true, true, true, true, true, true, true, true, true, true, true, true, true, true, true, true, true, true, true, true, true, false]) rfl (fun _ _ _ h => h) (fun _ hm => ⟨hm.blkI 0 rfl, hm.blkI 1 rfl, hm.blkI 2 rfl, hm.blkI 3 rfl, hm.fact 0 rfl, hm.fact 1 rfl, trivial⟩) (ov_pick_f rfl rfl) rfl ?_
                refine wa_take 27 rfl (by kernel_rfl) (by kernel_rfl) (by kernel_rfl) (listed' := #[true, true, true, true, true, true, true, true, true, true, true, true, true, true, true, true, true, true, true, true, true, true, true, true, true, true, true, true]) rfl (fun _ _ _ h => h) (fun _ hm => ⟨hm.blkI 0 rfl, hm.blkI 1 rfl, hm.blkI 2 rfl, hm.blkI 3 rfl, hm.fact 0 rfl, hm.fact 1 rfl, trivial⟩) (ov_assign rfl) rfl ?_
                refine wa_done (by kernel_rfl) ?_
                refine nx_then ?_
                refine gw_seq ?_
                refine gw_region ?_
                refine wl_ov (ov_move rfl) rfl ?_
                refine wl_ov (ov_field fo188_5 rfl rfl) rfl ?_
                refine wl_ov (ov_load sc3 rfl (fun _ hm => hm.blkI 3 rfl) rfl) rfl ?_
                refine wl_ov (ov_mul rfl rfl (by omega) (by omega)) rfl ?_
                refine wl_ov (ov_quo rfl rfl (by omega) (by omega) (by omega)) rfl ?_
                refine wl_ov (ov_assign rfl) rfl ?_
                refine wl_nil ?_
                refine nx_then ?_
                refine gw_seq ?_
                refine gw_region ?_
                refine wl_ov (ov_move rfl) rfl ?_
                refine wl_ov (ov_move rfl) rfl ?_
                refine wl_guard_off rfl rfl rfl (by decide) rfl ?_
                refine wl_guard_off rfl rfl rfl (by decide) rfl ?_
                refine wl_guard_off rfl rfl rfl (by decide) rfl ?_
                refine wl_guard_undef rfl rfl rfl rfl ?_
                refine wl_guard_undef rfl rfl rfl rfl ?_
                refine wl_guard_undef rfl rfl rfl rfl ?_
                refine wl_guard_off rfl rfl rfl (by decide) rfl ?_
                refine wl_guard_off rfl rfl rfl (by decide) rfl ?_
                refine wl_guard_undef rfl rfl rfl rfl ?_
                refine wl_guard_undef rfl rfl rfl rfl ?_
                refine wl_guard_undef rfl rfl rfl rfl ?_
                refine wl_guard_undef rfl rfl rfl rfl ?_
                refine wl_guard_undef rfl rfl rfl rfl ?_
                refine wl_guard_undef rfl rfl rfl rfl ?_
                refine wl_guard_undef rfl rfl rfl rfl ?_
                refine wl_guard_undef rfl rfl rfl rfl ?_
                refine wl_guard_off rfl rfl rfl (by decide) rfl ?_
                refine wl_ov (ov_pick_f rfl rfl) rfl ?_
                refine wl_nil ?_
                refine nx_then ?_
                refine gw_cond rfl (fun hh => by cases hh) (fun _ => ?_)
                refine gw_skip ?_
                refine nx_blk_nrm ?_
                refine nx_then ?_
                refine gw_region ?_
                refine wl_ov (ov_add rfl rfl (by omega) (by omega)) rfl ?_
                refine wl_ov (ov_move rfl) rfl ?_
                refine wl_nil ?_
                exact nx_round (i + 1, ky, mo) ⟨by dsimp only; omega, by rw [hstep]; exact hs2.symm⟩ (by dsimp only; omega) ⟨rfl, rfl, rfl, rfl, rfl, rfl, rfl, rfl, rfl, rfl, rfl, (some_int (by omega)), trivial⟩ (fun _ hm => hm.pick [0, 1, 2] [] [0, 1] rfl rfl)
            · refine wa_set 66 rfl (congrArg Value.bool e2) ?_
              have hcb : countsB ⟨ke, cl, cf, ct, dy, mi⟩ cls fr tt = false := counts_cls e1 e2
              have hs2 := bestS_no (st := (ky, mo)) (cents := cents) hIX.symm hy hcb
              refine wa_take_off 10 rfl rfl rfl (by decide) (by kernel_rfl) (by kernel_rfl) (by kernel_rfl) (listed' := #[true, true, true, true, true, true, true, true, true, true, true, false, false, false, false, false, false, false, false, false, false, false, false, false, false, false, false, false]) rfl (fun _ _ _ h => h) (fun _ hm => ⟨hm.blkI 0 rfl, hm.blkI 1 rfl, hm.blkI 2 rfl, hm.blkI 3 rfl, hm.fact 0 rfl, hm.fact 1 rfl, trivial⟩) rfl ?_
              refine wa_take_off 11 rfl rfl rfl (by decide) (by kernel_rfl) (by kernel_rfl) (by kernel_rfl) (listed' := #[true, true, true, true, true, true, true, true, true, true, true, true, false, false, false, false, false, false, false, false, false, false, false, false, false, false, false, false]) rfl (fun _ _ _ h => h) (fun _ hm => ⟨hm.blkI 0 rfl, hm.blkI 1 rfl, hm.blkI 2 rfl, hm.blkI 3 rfl, hm.fact 0 rfl, hm.fact 1 rfl, trivial⟩) rfl ?_
              refine wa_take_off 12 rfl rfl rfl (by decide) (by kernel_rfl) (by kernel_rfl) (by kernel_rfl) (listed' := #[true, true, true, true, true, true, true, true, true, true, true, true, true, false, false, false, false, false, false, false, false, false, false, false, false, false, false, false]) rfl (fun _ _ _ h => h) (fun _ hm => ⟨hm.blkI 0 rfl, hm.blkI 1 rfl, hm.blkI 2 rfl, hm.blkI 3 rfl, hm.fact 0 rfl, hm.fact 1 rfl, trivial⟩) rfl ?_
              refine wa_take_off 13 rfl rfl rfl (by decide) (by kernel_rfl) (by kernel_rfl) (by kernel_rfl) (listed' := #[true, true, true, true, true, true, true, true, true, true, true, true, true, true, false, false, false, false, false, false, false, false, false, false, false, false, false, false]) rfl (fun _ _ _ h => h) (fun _ hm => ⟨hm.blkI 0 rfl, hm.blkI 1 rfl, hm.blkI 2 rfl, hm.blkI 3 rfl, hm.fact 0 rfl, hm.fact 1 rfl, trivial⟩) rfl ?_
              refine wa_take_off 14 rfl rfl rfl (by decide) (by kernel_rfl) (by kernel_rfl) (by kernel_rfl) (listed' := #[true, true, true, true, true, true, true, true, true, true, true, true, true, true, true, false, false, false, false, false, false, false, false, false, false, false, false, false]) rfl (fun _ _ _ h => h) (fun _ hm => ⟨hm.blkI 0 rfl, hm.blkI 1 rfl, hm.blkI 2 rfl, hm.blkI 3 rfl, hm.fact 0 rfl, hm.fact 1 rfl, trivial⟩) rfl ?_
              refine wa_take_off 15 rfl rfl rfl (by decide) (by kernel_rfl) (by kernel_rfl) (by kernel_rfl) (listed' := #[true, true, true, true, true, true, true, true, true, true, true, true, true, true, true, true, false, false, false, false, false, false, false, false, false, false, false, false]) rfl (fun _ _ _ h => h) (fun _ hm => ⟨hm.blkI 0 rfl, hm.blkI 1 rfl, hm.blkI 2 rfl, hm.blkI 3 rfl, hm.fact 0 rfl, hm.fact 1 rfl, trivial⟩) rfl ?_
              refine wa_take_off 16 rfl rfl rfl (by decide) (by kernel_rfl) (by kernel_rfl) (by kernel_rfl) (listed' := #[true, true, true, true, true, true, true, true, true, true, true, true, true, true, true, true, true, false, false, false, false, false, false, false, false, false, false, false]) rfl (fun _ _ _ h => h) (fun _ hm => ⟨hm.blkI 0 rfl, hm.blkI 1 rfl, hm.blkI 2 rfl, hm.blkI 3 rfl, hm.fact 0 rfl, hm.fact 1 rfl, trivial⟩) rfl ?_
              refine wa_take_off 17 rfl rfl rfl (by decide) (by kernel_rfl) (by kernel_rfl) (by kernel_rfl) (listed' := #[true, true, true, true, true, true, true, true, true, true, true, true, true, true, true, true, true, true, false, false, false, false, false, false, false, false, false, false]) rfl (fun _ _ _ h => h) (fun _ hm => ⟨hm.blkI 0 rfl, hm.blkI 1 rfl, hm.blkI 2 rfl, hm.blkI 3 rfl, hm.fact 0 rfl, hm.fact 1 rfl, trivial⟩) rfl ?_
              refine wa_take_off 18 rfl rfl rfl (by decide) (by kernel_rfl) (by kernel_rfl) (by kernel_rfl) (listed' := #[true, true, true, true, true, true, true, true, true, true, true, true, true, true, true, true, true, true, true, false, false, false, false, false, false, false, false, false]) rfl (fun _ _ _ h => h) (fun _ hm => ⟨hm.blkI 0 rfl, hm.blkI 1 rfl, hm.blkI 2 rfl, hm.blkI 3 rfl, hm.fact 0 rfl, hm.fact 1 rfl, trivial⟩) rfl ?_
              refine wa_take 19 rfl (by kernel_rfl) (by kernel_rfl) (by kernel_rfl) (listed' := #[true, true, true, true, true, true, true, true, true, true, true, true, true, true, true, true, true, true, true, true, false, false, false, false, false, false, false, false]) rfl (fun _ _ _ h => h) (fun _ hm => ⟨hm.blkI 0 rfl, hm.blkI 1 rfl, hm.blkI 2 rfl, hm.blkI 3 rfl, hm.fact 0 rfl, hm.fact 1 rfl, trivial⟩) (ov_pick_f rfl rfl) rfl ?_
              refine wa_take 20 rfl (by kernel_rfl) (by kernel_rfl) (by kernel_rfl) (listed' := #[true, true, true, true, true, true, true, true, true, true, true, true, true, true, true, true, true, true, true, true, true, false, false, false, false, false, false, false]) rfl (fun _ _ _ h => h) (fun _ hm => ⟨hm.blkI 0 rfl, hm.blkI 1 rfl, hm.blkI 2 rfl, hm.blkI 3 rfl, hm.fact 0 rfl, hm.fact 1 rfl, trivial⟩) (ov_move rfl) rfl ?_
              refine wa_take_off 21 rfl rfl rfl (by decide) (by kernel_rfl) (by kernel_rfl) (by kernel_rfl) (listed' := #[true, true, true, true, true, true, true, true, true, true, true, true, true, true, true, true, true, true, true, true, true, true, false, false, false, false, false, false]) rfl (fun _ _ _ h => h) (fun _ hm => ⟨hm.blkI 0 rfl, hm.blkI 1 rfl, hm.blkI 2 rfl, hm.blkI 3 rfl, hm.fact 0 rfl, hm.fact 1 rfl, trivial⟩) rfl ?_
              refine wa_take_off 22 rfl rfl rfl (by decide) (by kernel_rfl) (by kernel_rfl) (by kernel_rfl) (listed' := #[true, true, true, true, true, true, true, true, true, true, true, true, true, true, true, true, true, true, true, true, true, true, true, false, false, false, false, false]) rfl (fun _ _ _ h => h) (fun _ hm => ⟨hm.blkI 0 rfl, hm.blkI 1 rfl, hm.blkI 2 rfl, hm.blkI 3 rfl, hm.fact 0 rfl, hm.fact 1 rfl, trivial⟩) rfl ?_
              refine wa_take_off 23 rfl rfl rfl (by decide) (by kernel_rfl) (by kernel_rfl) (by kernel_rfl) (listed' := #[true, true, true, true, true, true, true, true, true, true, true, true, true, true, true, true, true, true, true, true, true, true, true, true, false, false, false, false]) rfl (fun _ _ _ h => h) (fun _ hm => ⟨hm.blkI 0 rfl, hm.blkI 1 rfl, hm.blkI 2 rfl, hm.blkI 3 rfl, hm.fact 0 rfl, hm.fact 1 rfl, trivial⟩) rfl ?_
              refine wa_take_off 24 rfl rfl rfl (by decide) (by kernel_rfl) (by kernel_rfl) (by kernel_rfl) (listed' := #[true, true, true, true, true, true, true, true, true, true, true, true, true, true, true, true, true, true, true, true, true, true, true, true, true, false, false, false]) rfl (fun _ _ _ h => h) (fun _ hm => ⟨hm.blkI 0 rfl, hm.blkI 1 rfl, hm.blkI 2 rfl, hm.blkI 3 rfl, hm.fact 0 rfl, hm.fact 1 rfl, trivial⟩) rfl ?_
              refine wa_take_off 25 rfl rfl rfl (by decide) (by kernel_rfl) (by kernel_rfl) (by kernel_rfl) (listed' := #[true, true, true, true, true, true, true, true, true, true, true, true, true, true, true, true, true, true, true, true, true, true, true, true, true, true, false, false]) rfl (fun _ _ _ h => h) (fun _ hm => ⟨hm.blkI 0 rfl, hm.blkI 1 rfl, hm.blkI 2 rfl, hm.blkI 3 rfl, hm.fact 0 rfl, hm.fact 1 rfl, trivial⟩) rfl ?_
              refine wa_take 26 rfl (by kernel_rfl) (by kernel_rfl) (by kernel_rfl) (listed' := #[true, true, true, true, true, true, true, true, true, true, true, true, true, true, true, true, true, true, true, true, true, true, true, true, true, true, true, false]) rfl (fun _ _ _ h => h) (fun _ hm => ⟨hm.blkI 0 rfl, hm.blkI 1 rfl, hm.blkI 2 rfl, hm.blkI 3 rfl, hm.fact 0 rfl, hm.fact 1 rfl, trivial⟩) (ov_pick_f rfl rfl) rfl ?_
              refine wa_take 27 rfl (by kernel_rfl) (by kernel_rfl) (by kernel_rfl) (listed' := #[true, true, true, true, true, true, true, true, true, true, true, true, true, true, true, true, true, true, true, true, true, true, true, true, true, true, true, true]) rfl (fun _ _ _ h => h) (fun _ hm => ⟨hm.blkI 0 rfl, hm.blkI 1 rfl, hm.blkI 2 rfl, hm.blkI 3 rfl, hm.fact 0 rfl, hm.fact 1 rfl, trivial⟩) (ov_assign rfl) rfl ?_
              refine wa_done (by kernel_rfl) ?_
              refine nx_then ?_
              refine gw_seq ?_
              refine gw_region ?_
              refine wl_ov (ov_move rfl) rfl ?_
              refine wl_ov (ov_field fo188_5 rfl rfl) rfl ?_
              refine wl_ov (ov_load sc3 rfl (fun _ hm => hm.blkI 3 rfl) rfl) rfl ?_
              refine wl_ov (ov_mul rfl rfl (by omega) (by omega)) rfl ?_
              refine wl_ov (ov_quo rfl rfl (by omega) (by omega) (by omega)) rfl ?_
              refine wl_ov (ov_assign rfl) rfl ?_
              refine wl_nil ?_
              refine nx_then ?_
              refine gw_seq ?_
              refine gw_region ?_
              refine wl_ov (ov_move rfl) rfl ?_
              refine wl_ov (ov_move rfl) rfl ?_
              refine wl_guard_off rfl rfl rfl (by decide) rfl ?_
              refine wl_guard_off rfl rfl rfl (by decide) rfl ?_
              refine wl_guard_off rfl rfl rfl (by decide) rfl ?_
              refine wl_guard_undef rfl rfl rfl rfl ?_
              refine wl_guard_undef rfl rfl rfl rfl ?_
              refine wl_guard_undef rfl rfl rfl rfl ?_
              refine wl_guard_off rfl rfl rfl (by decide) rfl ?_
              refine wl_guard_off rfl rfl rfl (by decide) rfl ?_
              refine wl_guard_undef rfl rfl rfl rfl ?_
              refine wl_guard_undef rfl rfl rfl rfl ?_
              refine wl_guard_undef rfl rfl rfl rfl ?_
              refine wl_guard_undef rfl rfl rfl rfl ?_
              refine wl_guard_undef rfl rfl rfl rfl ?_
              refine wl_guard_undef rfl rfl rfl rfl ?_
              refine wl_guard_undef rfl rfl rfl rfl ?_
              refine wl_guard_undef rfl rfl rfl rfl ?_
              refine wl_guard_off rfl rfl rfl (by decide) rfl ?_
              refine wl_ov (ov_pick_f rfl rfl) rfl ?_
              refine wl_nil ?_
              refine nx_then ?_
              refine gw_cond rfl (fun hh => by cases hh) (fun _ => ?_)
              refine gw_skip ?_
              refine nx_blk_nrm ?_
              refine nx_then ?_
              refine gw_region ?_
              refine wl_ov (ov_add rfl rfl (by omega) (by omega)) rfl ?_
              refine wl_ov (ov_move rfl) rfl ?_
              refine wl_nil ?_
              exact nx_round (i + 1, ky, mo) ⟨by dsimp only; omega, by rw [hstep]; exact hs2.symm⟩ (by dsimp only; omega) ⟨rfl, rfl, rfl, rfl, rfl, rfl, rfl, rfl, rfl, rfl, rfl, (some_int (by omega)), trivial⟩ (fun _ hm => hm.pick [0, 1, 2] [] [0, 1] rfl rfl)
      · have hi : ¬ (((i : Nat) : Int) < ((n1 : Nat) : Int)) := by simpa using hh
        clear hh
        refine gw_exit ?_
        refine nx_then_exit ?_
        refine nx_then_exit ?_
        refine nx_blk_here ?_
        refine nx_then ?_
        refine gw_seq ?_
        refine gw_region ?_
        have hin1 : i = n1 := by omega
        subst hin1
        rw [List.take_of_length_le (by omega)] at hi1
        have hv : bestV l ks cls fr tt cents = (ky, mo) := by unfold bestV; rw [if_pos hB0, hi1]; rfl
        refine wl_ov (ov_move rfl) rfl ?_
        refine wl_ov (ov_move rfl) rfl ?_
        refine wl_ov (ov_assign rfl) rfl ?_
        refine wl_ov (ov_assign rfl) rfl ?_
        refine wl_ov (ov_assign rfl) rfl ?_
        refine wl_nil ?_
        refine nx_then ?_
        refine gw_ret ?_
        refine nx_ret3 rfl rfl rfl rfl fun wx hm => ?_
        exact ⟨by rw [hv, hB0], hm.g⟩

set_option maxRecDepth 100000 in
set_option maxHeartbeats 2000000 in
theorem codeOf_any (l : List Cd) (A : Option Addr) (n c0 : Nat) (ks : List ByteArray) (A1 : Option Addr) (n1 c1 : Nat) (cls : ByteArray) (fr tt cents : Int) (w : World) (hl : SlT cdEnc 6 188 w A n l) (hn : n ≤ 1000000) (hs : SlT sgEnc 1 9 w A1 n1 ks) (hn1 : n1 ≤ 1000000) (hcodes : codesE l = 0) (h0 : 0 ≤ fr) (hlt : fr < tt) (htt : tt ≤ 5761439) (hct0 : 0 ≤ cents) (hct1 : cents ≤ 1000000000) :
    Calls Tryd.prog 64 #[.slice A n c0, .slice A1 n1 c1, .string cls, .agg #[.int .i64 fr, .int .i64 tt], .int .i64 cents] w (fun e w' => e = .returned (.tuple #[.string (bestC l ks cls fr tt cents).1, .int .i64 (max 0 (bestC l ks cls fr tt cents).2)]) ∧ w.grownBy w' none) := by
  refine gw_enter ⟨73, w, none, []⟩ Tryd.func64 rfl Tryd.ntmps64 rfl (mem0 (X := [SlOld cdEnc 6 188 w.heap.size none A n l, SlOld sgEnc 1 9 w.heap.size none A1 n1 ks]) (allF_cons hl.old (allF_cons hs.old allF_nil)) (allL_cons SlOld.lasts (allL_cons SlOld.lasts allL_nil))) ?_
  refine gw_seq ?_
  refine gw_region ?_
  have hlen := hl.len
  have hslen := hs.len
  refine wl_box rfl rfl rfl fun g1 => ?_
  refine wl_ov (ov_assign rfl) rfl ?_
  refine wl_ov (ov_assign rfl) rfl ?_
  refine wl_nil ?_
  refine nx_then ?_
  refine gw_seq ?_
  refine gw_region ?_
  refine wl_ov (ov_assign rfl) rfl ?_
  refine wl_ov (ov_assign rfl) rfl ?_
  refine wl_set 13 (v' := .int .i64 (-1)) rfl rfl ?_
  refine wl_nil ?_
  refine nx_then ?_
  refine gw_seq ?_
  refine gw_seq ?_
  refine gw_region ?_
  refine wl_ov (ov_move rfl) rfl ?_
  refine wl_ov (ov_len es103 rfl) rfl ?_
  refine wl_ov (ov_move rfl) rfl ?_
  refine wl_nil ?_
  refine nx_then ?_
  refine gw_block ?_
  refine gw_loop (γ := Nat × ByteArray × Int) (fun (g : Nat × ByteArray × Int) => g.1 ≤ n ∧ (g.2.1, g.2.2) = (l.take g.1).foldl (bestT ks cls fr tt cents) (⟨#[]⟩, -1)) (fun (g : Nat × ByteArray × Int) => [(1, .slice A1 n1 c1), (2, .string cls), (4, .int .i64 cents), (8, .pointer (some ⟨g1, 0, none⟩)), (10, .string ⟨#[]⟩), (11, .int .i64 0), (12, .string g.2.1), (13, .int .i64 g.2.2), (17, .slice A n c0), (18, .int .i64 ((n : Nat) : Int)), (19, .int .i64 ((g.1 : Nat) : Int))]) (fun (g : Nat × ByteArray × Int) => fun _ => True) (fun (g : Nat × ByteArray × Int) => [(g1, 56, [.int .i64 fr, .int .i64 tt])]) (fun (g : Nat × ByteArray × Int) => []) (fun (g : Nat × ByteArray × Int) => [SlOld cdEnc 6 188 w.heap.size none A n l, SlOld sgEnc 1 9 w.heap.size none A1 n1 ks]) (fun (g : Nat × ByteArray × Int) => n - g.1) (0, ⟨#[]⟩, -1) ⟨Nat.zero_le _, rfl⟩ ⟨rfl, rfl, rfl, rfl, rfl, rfl, rfl, rfl, rfl, rfl, rfl, trivial⟩ (fun _ hm => hm.pick [0] [] [0, 1] rfl rfl) ?_
  rintro ⟨i, ky, mo⟩ hinv
  replace hinv : i ≤ n ∧ (ky, mo) = (l.take i).foldl (bestT ks cls fr tt cents) (⟨#[]⟩, -1) := hinv
  dsimp only
  refine gw_seq ?_
  refine gw_region ?_
  obtain ⟨hi0, hi1⟩ := hinv
  refine wl_ov (ov_lss rfl rfl) rfl ?_
  refine wl_nil ?_
  refine nx_then ?_
  refine gw_seq ?_
  refine gw_cond rfl (fun hh => ?_) (fun hh => ?_)
  · have hi : ((i : Nat) : Int) < ((n : Nat) : Int) := by simpa using hh
    clear hh
    refine gw_skip ?_
    refine nx_then ?_
    refine gw_seq ?_
    refine gw_block ?_
    refine gw_seq ?_
    refine gw_region ?_
    obtain ⟨b, off, hA, _, _⟩ := hl.get (by omega)
    subst hA
    obtain ⟨y, hy⟩ : ∃ x, l[i]? = some x := ⟨_, List.getElem?_eq_getElem (by omega)⟩
    obtain ⟨ke, cl, cf, ct, dy, mi⟩ := y
    obtain ⟨_, ⟨f1, f2, f3⟩, ⟨f4, f5⟩, f6, f7⟩ := (codesE_ok hcodes).2.2 _ (List.mem_of_getElem? hy)
    dsimp only at f1 f2 f3 f4 f5 f6 f7
    have hob := off_bound hct0 hct1 f6 f7
    have hob0 := hob.1
    have hob1 := hob.2
    have hstep := fold_take (bestT ks cls fr tt cents) (⟨#[]⟩, -1) hy
    rw [← hi1] at hstep
    refine wl_ov (ov_index (j := i) es103 rfl rfl (by omega)) rfl ?_
    refine wl_ov (ov_elem (vs := [.string ke, .string cl, .int .i64 cf, .int .i64 ct, .int .i64 dy, .int .i64 mi]) rz188 rfl (fun _ hm => (hm.fact 0 rfl).1) hy rfl rfl) rfl ?_
    refine wl_alloc zc188 rfl fun g2 => ?_
    refine wl_stores (cs' := [.string ke, .string cl, .int .i64 cf, .int .i64 ct, .int .i64 dy, .int .i64 mi]) 0 rz188 rfl rfl rfl rfl rfl rfl rfl rfl ?_
    refine wl_nil ?_
    refine nx_then ?_
    refine gw_seq ?_
    refine gw_region ?_
    refine wl_ov (ov_move rfl) rfl ?_
    refine wl_ov (ov_field fo188_5 rfl rfl) rfl ?_
    refine wl_ov (ov_load sc3 rfl (fun _ hm => hm.blkI 0 rfl) rfl) rfl ?_
    refine wl_ov (ov_mul rfl rfl (by omega) (by omega)) rfl ?_
    refine wl_ov (ov_quo rfl rfl (by omega) (by omega) (by omega)) rfl ?_
    refine wl_ov (ov_assign rfl) rfl ?_
    refine wl_nil ?_
    refine nx_then ?_
    refine gw_seq ?_
    refine gw_draw (fun wz => Blk wz g2 188 [.string ke, .string cl, .int .i64 cf, .int .i64 ct, .int .i64 dy, .int .i64 mi] ∧ Blk wz g1 56 [.int .i64 fr, .int .i64 tt] ∧ (SlOld cdEnc 6 188 w.heap.size none (some ⟨b, off, none⟩) n l) wz ∧ (SlOld sgEnc 1 9 w.heap.size none A1 n1 ks) wz ∧ True) mixed ?_
    refine wa_take 0 rfl (by kernel_rfl) (by kernel_rfl) (by kernel_rfl) (listed' := #[true, false, false, false, false, false, false, false, false, false, false, false, false, false, false, false, false, false, false, false, false, false, false, false, false, false, false, false, false, false, false, false, false, false, false, false, false, false]) rfl (fun _ _ _ h => h) (fun _ hm => ⟨hm.blkI 0 rfl, hm.blkI 1 rfl, hm.fact 0 rfl, hm.fact 1 rfl, trivial⟩) (ov_move rfl) rfl ?_
    refine wa_take 1 rfl (by kernel_rfl) (by kernel_rfl) (by kernel_rfl) (listed' := #[true, true, false, false, false, false, false, false, false, false, false, false, false, false, false, false, false, false, false, false, false, false, false, false, false, false, false, false, false, false, false, false, false, false, false, false, false, false]) rfl (fun _ _ _ h => h) (fun _ hm => ⟨hm.blkI 0 rfl, hm.blkI 1 rfl, hm.fact 0 rfl, hm.fact 1 rfl, trivial⟩) (ov_field fo188_0 rfl rfl) rfl ?_
    refine wa_take 2 rfl (by kernel_rfl) (by kernel_rfl) (by kernel_rfl) (listed' := #[true, true, true, false, false, false, false, false, false, false, false, false, false, false, false, false, false, false, false, false, false, false, false, false, false, false, false, false, false, false, false, false, false, false, false, false, false, false]) rfl (fun _ _ _ h => h) (fun _ hm => ⟨hm.blkI 0 rfl, hm.blkI 1 rfl, hm.fact 0 rfl, hm.fact 1 rfl, trivial⟩) (ov_load sc9 rfl (fun _ hm => hm.1) rfl) rfl ?_
    refine wa_all [3] (by kernel_rfl) rfl ⟨⟨_, rfl, ?_⟩, trivial⟩
    refine wl_callv rfl cb132 rfl rfl (fun wx hm => (contains_str ks A1 n1 c1 ke wx (hm.fact 1 rfl).1 hn1)) ?_
    refine wl_nil ?_
    refine nx_wa0 (listed' := #[true, true, true, true, false, false, false, false, false, false, false, false, false, false, false, false, false, false, false, false, false, false, false, false, false, false, false, false, false, false, false, false, false, false, false, false, false, false]) rfl (fun _ hm => ⟨hm.blkI 0 rfl, hm.blkI 1 rfl, hm.fact 0 rfl, hm.fact 1 rfl, trivial⟩) ?_
    refine wa_take 4 rfl (by kernel_rfl) (by kernel_rfl) (by kernel_rfl) (listed' := #[true, true, true, true, true, false, false, false, false, false, false, false, false, false, false, false, false, false, false, false, false, false, false, false, false, false, false, false, false, false, false, false, false, false, false, false, false, false]) rfl (fun _ _ _ h => h) (fun _ hm => ⟨hm.blkI 0 rfl, hm.blkI 1 rfl, hm.fact 0 rfl, hm.fact 1 rfl, trivial⟩) (ov_move rfl) rfl ?_
    rcases Bool.eq_false_or_eq_true (ks.any (fun y => ke.toList == y.toList)) with d1 | d1
    · refine wa_set 32 rfl (congrArg Value.bool d1) ?_
      refine wa_take_on 5 rfl rfl rfl (by kernel_rfl) (by kernel_rfl) (by kernel_rfl) (listed' := #[true, true, true, true, true, true, false, false, false, false, false, false, false, false, false, false, false, false, false, false, false, false, false, false, false, false, false, false, false, false, false, false, false, false, false, false, false, false]) rfl (fun _ _ _ h => h) (fun _ hm => ⟨hm.blkI 0 rfl, hm.blkI 1 rfl, hm.fact 0 rfl, hm.fact 1 rfl, trivial⟩) (ov_field fo188_1 rfl rfl) rfl ?_
      refine wa_take_on 6 rfl rfl rfl (by kernel_rfl) (by kernel_rfl) (by kernel_rfl) (listed' := #[true, true, true, true, true, true, true, false, false, false, false, false, false, false, false, false, false, false, false, false, false, false, false, false, false, false, false, false, false, false, false, false, false, false, false, false, false, false]) rfl (fun _ _ _ h => h) (fun _ hm => ⟨hm.blkI 0 rfl, hm.blkI 1 rfl, hm.fact 0 rfl, hm.fact 1 rfl, trivial⟩) (ov_load sc9 rfl (fun _ hm => hm.1) rfl) rfl ?_
      refine wa_take_on 7 rfl rfl rfl (by kernel_rfl) (by kernel_rfl) (by kernel_rfl) (listed' := #[true, true, true, true, true, true, true, true, false, false, false, false, false, false, false, false, false, false, false, false, false, false, false, false, false, false, false, false, false, false, false, false, false, false, false, false, false, false]) rfl (fun _ _ _ h => h) (fun _ hm => ⟨hm.blkI 0 rfl, hm.blkI 1 rfl, hm.fact 0 rfl, hm.fact 1 rfl, trivial⟩) (ov_seql rfl rfl) rfl ?_
      refine wa_take_on 8 rfl rfl rfl (by kernel_rfl) (by kernel_rfl) (by kernel_rfl) (listed' := #[true, true, true, true, true, true, true, true, true, false, false, false, false, false, false, false, false, false, false, false, false, false, false, false, false, false, false, false, false, false, false, false, false, false, false, false, false, false]) rfl (fun _ _ _ h => h) (fun _ hm => ⟨hm.blkI 0 rfl, hm.blkI 1 rfl, hm.fact 0 rfl, hm.fact 1 rfl, trivial⟩) (ov_move rfl) rfl ?_
      rcases Bool.eq_false_or_eq_true (cl.toList == (⟨#[]⟩ : ByteArray).toList) with e1 | e1
      · refine wa_set 36 rfl (congrArg Value.bool e1) ?_
        have e1 : emptyS cl = true := e1
        refine wa_take_off 9 rfl rfl rfl (by decide) (by kernel_rfl) (by kernel_rfl) (by kernel_rfl) (listed' := #[true, true, true, true, true, true, true, true, true, true, false, false, false, false, false, false, false, false, false, false, false, false, false, false, false, false, false, false, false, false, false, false, false, false, false, false, false, false]) rfl (fun _ _ _ h => h) (fun _ hm => ⟨hm.blkI 0 rfl, hm.blkI 1 rfl, hm.fact 0 rfl, hm.fact 1 rfl, trivial⟩) rfl ?_
        refine wa_take_off 10 rfl rfl rfl (by decide) (by kernel_rfl) (by kernel_rfl) (by kernel_rfl) (listed' := #[true, true, true, true, true, true, true, true, true, true, true, false, false, false, false, false, false, false, false, false, false, false, false, false, false, false, false, false, false, false, false, false, false, false, false, false, false, false]) rfl (fun _ _ _ h => h) (fun _ hm => ⟨hm.blkI 0 rfl, hm.blkI 1 rfl, hm.fact 0 rfl, hm.fact 1 rfl, trivial⟩) rfl ?_
        refine wa_take_off 11 rfl rfl rfl (by decide) (by kernel_rfl) (by kernel_rfl) (by kernel_rfl) (listed' := #[true, true, true, true, true, true, true, true, true, true, true, true, false, false, false, false, false, false, false, false, false, false, false, false, false, false, false, false, false, false, false, false, false, false, false, false, false, false]) rfl (fun _ _ _ h => h) (fun _ hm => ⟨hm.blkI 0 rfl, hm.blkI 1 rfl, hm.fact 0 rfl, hm.fact 1 rfl, trivial⟩) rfl ?_
        refine wa_take_off 12 rfl rfl rfl (by decide) (by kernel_rfl) (by kernel_rfl) (by kernel_rfl) (listed' := #[true, true, true, true, true, true, true, true, true, true, true, true, true, false, false, false, false, false, false, false, false, false, false, false, false, false, false, false, false, false, false, false, false, false, false, false, false, false]) rfl (fun _ _ _ h => h) (fun _ hm => ⟨hm.blkI 0 rfl, hm.blkI 1 rfl, hm.fact 0 rfl, hm.fact 1 rfl, trivial⟩) rfl ?_
        refine wa_take_on 13 rfl rfl rfl (by kernel_rfl) (by kernel_rfl) (by kernel_rfl) (listed' := #[true, true, true, true, true, true, true, true, true, true, true, true, true, true, false, false, false, false, false, false, false, false, false, false, false, false, false, false, false, false, false, false, false, false, false, false, false, false]) rfl (fun _ _ _ h => h) (fun _ hm => ⟨hm.blkI 0 rfl, hm.blkI 1 rfl, hm.fact 0 rfl, hm.fact 1 rfl, trivial⟩) (ov_pick_t rfl rfl) rfl ?_
        refine wa_take 14 rfl (by kernel_rfl) (by kernel_rfl) (by kernel_rfl) (listed' := #[true, true, true, true, true, true, true, true, true, true, true, true, true, true, true, false, false, false, false, false, false, false, false, false, false, false, false, false, false, false, false, false, false, false, false, false, false, false]) rfl (fun _ _ _ h => h) (fun _ hm => ⟨hm.blkI 0 rfl, hm.blkI 1 rfl, hm.fact 0 rfl, hm.fact 1 rfl, trivial⟩) (ov_pick_t rfl rfl) rfl ?_
        refine wa_take 15 rfl (by kernel_rfl) (by kernel_rfl) (by kernel_rfl) (listed' := #[true, true, true, true, true, true, true, true, true, true, true, true, true, true, true, true, false, false, false, false, false, false, false, false, false, false, false, false, false, false, false, false, false, false, false, false, false, false]) rfl (fun _ _ _ h => h) (fun _ hm => ⟨hm.blkI 0 rfl, hm.blkI 1 rfl, hm.fact 0 rfl, hm.fact 1 rfl, trivial⟩) (ov_move rfl) rfl ?_
        refine wa_take_on 16 rfl rfl rfl (by kernel_rfl) (by kernel_rfl) (by kernel_rfl) (listed' := #[true, true, true, true, true, true, true, true, true, true, true, true, true, true, true, true, true, false, false, false, false, false, false, false, false, false, false, false, false, false, false, false, false, false, false, false, false, false]) rfl (fun _ _ _ h => h) (fun _ hm => ⟨hm.blkI 0 rfl, hm.blkI 1 rfl, hm.fact 0 rfl, hm.fact 1 rfl, trivial⟩) (ov_field fo56_0 rfl rfl) rfl ?_
        refine wa_take_on 17 rfl rfl rfl (by kernel_rfl) (by kernel_rfl) (by kernel_rfl) (listed' := #[true, true, true, true, true, true, true, true, true, true, true, true, true, true, true, true, true, true, false, false, false, false, false, false, false, false, false, false, false, false, false, false, false, false, false, false, false, false]) rfl (fun _ _ _ h => h) (fun _ hm => ⟨hm.blkI 0 rfl, hm.blkI 1 rfl, hm.fact 0 rfl, hm.fact 1 rfl, trivial⟩) (ov_load sc3 rfl (fun _ hm => hm.2.1) rfl) rfl ?_
        refine wa_take_on 18 rfl rfl rfl (by kernel_rfl) (by kernel_rfl) (by kernel_rfl) (listed' := #[true, true, true, true, true, true, true, true, true, true, true, true, true, true, true, true, true, true, true, false, false, false, false, false, false, false, false, false, false, false, false, false, false, false, false, false, false, false]) rfl (fun _ _ _ h => h) (fun _ hm => ⟨hm.blkI 0 rfl, hm.blkI 1 rfl, hm.fact 0 rfl, hm.fact 1 rfl, trivial⟩) (ov_quo rfl rfl (by omega) (by omega) (by omega)) rfl ?_
        refine wa_take_on 19 rfl rfl rfl (by kernel_rfl) (by kernel_rfl) (by kernel_rfl) (listed' := #[true, true, true, true, true, true, true, true, true, true, true, true, true, true, true, true, true, true, true, true, false, false, false, false, false, false, false, false, false, false, false, false, false, false, false, false, false, false]) rfl (fun _ _ _ h => h) (fun _ hm => ⟨hm.blkI 0 rfl, hm.blkI 1 rfl, hm.fact 0 rfl, hm.fact 1 rfl, trivial⟩) (ov_field fo188_2 rfl rfl) rfl ?_
        refine wa_take_on 20 rfl rfl rfl (by kernel_rfl) (by kernel_rfl) (by kernel_rfl) (listed' := #[true, true, true, true, true, true, true, true, true, true, true, true, true, true, true, true, true, true, true, true, true, false, false, false, false, false, false, false, false, false, false, false, false, false, false, false, false, false]) rfl (fun _ _ _ h => h) (fun _ hm => ⟨hm.blkI 0 rfl, hm.blkI 1 rfl, hm.fact 0 rfl, hm.fact 1 rfl, trivial⟩) (ov_load sc3 rfl (fun _ hm => hm.1) rfl) rfl ?_
        refine wa_take_on 21 rfl rfl rfl (by kernel_rfl) (by kernel_rfl) (by kernel_rfl) (listed' := #[true, true, true, true, true, true, true, true, true, true, true, true, true, true, true, true, true, true, true, true, true, true, false, false, false, false, false, false, false, false, false, false, false, false, false, false, false, false]) rfl (fun _ _ _ h => h) (fun _ hm => ⟨hm.blkI 0 rfl, hm.blkI 1 rfl, hm.fact 0 rfl, hm.fact 1 rfl, trivial⟩) (ov_field fo188_3 rfl rfl) rfl ?_
        refine wa_take_on 22 rfl rfl rfl (by kernel_rfl) (by kernel_rfl) (by kernel_rfl) (listed' := #[true, true, true, true, true, true, true, true, true, true, true, true, true, true, true, true, true, true, true, true, true, true, true, false, false, false, false, false, false, false, false, false, false, false, false, false, false, false]) rfl (fun _ _ _ h => h) (fun _ hm => ⟨hm.blkI 0 rfl, hm.blkI 1 rfl, hm.fact 0 rfl, hm.fact 1 rfl, trivial⟩) (ov_load sc3 rfl (fun _ hm => hm.1) rfl) rfl ?_
        refine wa_take_on 23 rfl rfl rfl (by kernel_rfl) (by kernel_rfl) (by kernel_rfl) (listed' := #[true, true, true, true, true, true, true, true, true, true, true, true, true, true, true, true, true, true, true, true, true, true, true, true, false, false, false, false, false, false, false, false, false, false, false, false, false, false]) rfl (fun _ _ _ h => h) (fun _ hm => ⟨hm.blkI 0 rfl, hm.blkI 1 rfl, hm.fact 0 rfl, hm.fact 1 rfl, trivial⟩) (ov_sub rfl rfl (by omega) (by omega)) rfl ?_
        refine wa_all [24] (by kernel_rfl) rfl ⟨⟨_, rfl, ?_⟩, trivial⟩
        refine wl_guard_on rfl rfl rfl ?_
        refine wl_callw rfl cb91 rfl rfl (fun wx hm => (rin_any _ _ _ wx)) ?_
        refine wl_nil ?_
        refine nx_wa0 (listed' := #[true, true, true, true, true, true, true, true, true, true, true, true, true, true, true, true, true, true, true, true, true, true, true, true, true, false, false, false, false, false, false, false, false, false, false, false, false, false]) rfl (fun _ hm => ⟨hm.blkI 0 rfl, hm.blkI 1 rfl, hm.fact 0 rfl, hm.fact 1 rfl, trivial⟩) ?_
        refine wa_take 25 rfl (by kernel_rfl) (by kernel_rfl) (by kernel_rfl) (listed' := #[true, true, true, true, true, true, true, true, true, true, true, true, true, true, true, true, true, true, true, true, true, true, true, true, true, true, false, false, false, false, false, false, false, false, false, false, false, false]) rfl (fun _ _ _ h => h) (fun _ hm => ⟨hm.blkI 0 rfl, hm.blkI 1 rfl, hm.fact 0 rfl, hm.fact 1 rfl, trivial⟩) (ov_pick_t rfl rfl) rfl ?_
        refine wa_take 26 rfl (by kernel_rfl) (by kernel_rfl) (by kernel_rfl) (listed' := #[true, true, true, true, true, true, true, true, true, true, true, true, true, true, true, true, true, true, true, true, true, true, true, true, true, true, true, false, false, false, false, false, false, false, false, false, false, false]) rfl (fun _ _ _ h => h) (fun _ hm => ⟨hm.blkI 0 rfl, hm.blkI 1 rfl, hm.fact 0 rfl, hm.fact 1 rfl, trivial⟩) (ov_move rfl) rfl ?_
        rcases Bool.eq_false_or_eq_true (inB (fr / 1440) cf (ct - 1)) with e3 | e3
        · refine wa_set 54 rfl (congrArg Value.bool e3) ?_
          refine wa_take_on 27 rfl rfl rfl (by kernel_rfl) (by kernel_rfl) (by kernel_rfl) (listed' := #[true, true, true, true, true, true, true, true, true, true, true, true, true, true, true, true, true, true, true, true, true, true, true, true, true, true, true, true, false, false, false, false, false, false, false, false, false, false]) rfl (fun _ _ _ h => h) (fun _ hm => ⟨hm.blkI 0 rfl, hm.blkI 1 rfl, hm.fact 0 rfl, hm.fact 1 rfl, trivial⟩) (ov_loads rz56 rfl (fun _ hm => hm.2.1) rfl rfl) rfl ?_
          refine wa_take_on 29 rfl rfl rfl (by kernel_rfl) (by kernel_rfl) (by kernel_rfl) (listed' := #[true, true, true, true, true, true, true, true, true, true, true, true, true, true, true, true, true, true, true, true, true, true, true, true, true, true, true, true, false, true, false, false, false, false, false, false, false, false]) rfl (fun _ _ _ h => h) (fun _ hm => ⟨hm.blkI 0 rfl, hm.blkI 1 rfl, hm.fact 0 rfl, hm.fact 1 rfl, trivial⟩) (ov_field fo188_4 rfl rfl) rfl ?_
          refine wa_take_on 30 rfl rfl rfl (by kernel_rfl) (by kernel_rfl) (by kernel_rfl) (listed' := #[true, true, true, true, true, true, true, true, true, true, true, true, true, true, true, true, true, true, true, true, true, true, true, true, true, true, true, true, false, true, true, false, false, false, false, false, false, false]) rfl (fun _ _ _ h => h) (fun _ hm => ⟨hm.blkI 0 rfl, hm.blkI 1 rfl, hm.fact 0 rfl, hm.fact 1 rfl, trivial⟩) (ov_load sc3 rfl (fun _ hm => hm.1) rfl) rfl ?_
          refine wa_all [28] (by kernel_rfl) rfl ⟨⟨_, rfl, ?_⟩, trivial⟩
          refine wl_guard_on rfl rfl rfl ?_
          refine wl_callv rfl cb36 rfl rfl (fun wx hm => (daysOf_any fr tt wx h0 (by omega) htt)) ?_
          refine wl_nil ?_
          refine nx_wa0 (listed' := #[true, true, true, true, true, true, true, true, true, true, true, true, true, true, true, true, true, true, true, true, true, true, true, true, true, true, true, true, true, true, true, false, false, false, false, false, false, false]) rfl (fun _ hm => ⟨hm.blkI 0 rfl, hm.blkI 1 rfl, hm.fact 0 rfl, hm.fact 1 rfl, trivial⟩) ?_
          refine wa_take_on 31 rfl rfl rfl (by kernel_rfl) (by kernel_rfl) (by kernel_rfl) (listed' := #[true, true, true, true, true, true, true, true, true, true, true, true, true, true, true, true, true, true, true, true, true, true, true, true, true, true, true, true, true, true, true, true, false, false, false, false, false, false]) rfl (fun _ _ _ h => h) (fun _ hm => ⟨hm.blkI 0 rfl, hm.blkI 1 rfl, hm.fact 0 rfl, hm.fact 1 rfl, trivial⟩) (ov_geq rfl rfl) rfl ?_
          refine wa_take 32 rfl (by kernel_rfl) (by kernel_rfl) (by kernel_rfl) (listed' := #[true, true, true, true, true, true, true, true, true, true, true, true, true, true, true, true, true, true, true, true, true, true, true, true, true, true, true, true, true, true, true, true, true, false, false, false, false, false]) rfl (fun _ _ _ h => h) (fun _ hm => ⟨hm.blkI 0 rfl, hm.blkI 1 rfl, hm.fact 0 rfl, hm.fact 1 rfl, trivial⟩) (ov_pick_t rfl rfl) rfl ?_
          refine wa_take 33 rfl (by kernel_rfl) (by kernel_rfl) (by kernel_rfl) (listed' := #[true, true, true, true, true, true, true, true, true, true, true, true, true, true, true, true, true, true, true, true, true, true, true, true, true, true, true, true, true, true, true, true, true, true, false, false, false, false]) rfl (fun _ _ _ h => h) (fun _ hm => ⟨hm.blkI 0 rfl, hm.blkI 1 rfl, hm.fact 0 rfl, hm.fact 1 rfl, trivial⟩) (ov_move rfl) rfl ?_
          rcases Bool.eq_false_or_eq_true (decide (dy ≤ daysV fr tt)) with e4 | e4
          · refine wa_set 61 rfl (congrArg Value.bool e4) ?_
            have hcb : countsB ⟨ke, cl, cf, ct, dy, mi⟩ cls fr tt = true := counts_yes (.inl e1) e3 (of_decide_eq_true e4)
            refine wa_take_on 34 rfl rfl rfl (by kernel_rfl) (by kernel_rfl) (by kernel_rfl) (listed' := #[true, true, true, true, true, true, true, true, true, true, true, true, true, true, true, true, true, true, true, true, true, true, true, true, true, true, true, true, true, true, true, true, true, true, true, false, false, false]) rfl (fun _ _ _ h => h) (fun _ hm => ⟨hm.blkI 0 rfl, hm.blkI 1 rfl, hm.fact 0 rfl, hm.fact 1 rfl, trivial⟩) (ov_move rfl) rfl ?_
            refine wa_take_on 35 rfl rfl rfl (by kernel_rfl) (by kernel_rfl) (by kernel_rfl) (listed' := #[true, true, true, true, true, true, true, true, true, true, true, true, true, true, true, true, true, true, true, true, true, true, true, true, true, true, true, true, true, true, true, true, true, true, true, true, false, false]) rfl (fun _ _ _ h => h) (fun _ hm => ⟨hm.blkI 0 rfl, hm.blkI 1 rfl, hm.fact 0 rfl, hm.fact 1 rfl, trivial⟩) (ov_move rfl) rfl ?_
            refine wa_take_on 36 rfl rfl rfl (by kernel_rfl) (by kernel_rfl) (by kernel_rfl) (listed' := #[true, true, true, true, true, true, true, true, true, true, true, true, true, true, true, true, true, true, true, true, true, true, true, true, true, true, true, true, true, true, true, true, true, true, true, true, true, false]) rfl (fun _ _ _ h => h) (fun _ hm => ⟨hm.blkI 0 rfl, hm.blkI 1 rfl, hm.fact 0 rfl, hm.fact 1 rfl, trivial⟩) (ov_gtr rfl rfl) rfl ?_
            refine wa_take 37 rfl (by kernel_rfl) (by kernel_rfl) (by kernel_rfl) (listed' := #[true, true, true, true, true, true, true, true, true, true, true, true, true, true, true, true, true, true, true, true, true, true, true, true, true, true, true, true, true, true, true, true, true, true, true, true, true, true]) rfl (fun _ _ _ h => h) (fun _ hm => ⟨hm.blkI 0 rfl, hm.blkI 1 rfl, hm.fact 0 rfl, hm.fact 1 rfl, trivial⟩) (ov_pick_t rfl rfl) rfl ?_
            refine wa_done (by kernel_rfl) ?_
            refine nx_then ?_
            refine gw_cond rfl (fun hh => ?_) (fun hh => ?_)
            · have d2 : mo < (cents * mi) / 1000 := by simpa using hh
              clear hh
              refine gw_region ?_
              refine wl_ov (ov_field fo188_0 rfl rfl) rfl ?_
              refine wl_ov (ov_load sc9 rfl (fun _ hm => hm.blkI 0 rfl) rfl) rfl ?_
              refine wl_ov (ov_move rfl) rfl ?_
              refine wl_ov (ov_assign rfl) rfl ?_
              refine wl_ov (ov_assign rfl) rfl ?_
              refine wl_nil ?_
              refine nx_blk_nrm ?_
              refine nx_then ?_
              refine gw_region ?_
              refine wl_ov (ov_add rfl rfl (by omega) (by omega)) rfl ?_
              refine wl_ov (ov_move rfl) rfl ?_
              refine wl_nil ?_
              exact nx_round (i + 1, ke, cents * mi / 1000) ⟨by dsimp only; omega, by rw [hstep]; unfold bestT; rw [if_pos ⟨d1, hcb, d2⟩]; rfl⟩ (by dsimp only; omega) ⟨rfl, rfl, rfl, rfl, rfl, rfl, rfl, rfl, rfl, rfl, (some_int (by omega)), trivial⟩ (fun _ hm => hm.pick [1] [] [0, 1] rfl rfl)
            · have d2 : ¬ (mo < (cents * mi) / 1000) := by simpa using hh
              clear hh
              refine gw_skip ?_
              refine nx_blk_nrm ?_
              refine nx_then ?_
              refine gw_region ?_
              refine wl_ov (ov_add rfl rfl (by omega) (by omega)) rfl ?_
              refine wl_ov (ov_move rfl) rfl ?_
              refine wl_nil ?_
              exact nx_round (i + 1, ky, mo) ⟨by dsimp only; omega, by rw [hstep]; unfold bestT; rw [if_neg (fun h => d2 h.2.2)]⟩ (by dsimp only; omega) ⟨rfl, rfl, rfl, rfl, rfl, rfl, rfl, rfl, rfl, rfl, (some_int (by omega)), trivial⟩ (fun _ hm => hm.pick [1] [] [0, 1] rfl rfl)
          · refine wa_set 61 rfl (congrArg Value.bool e4) ?_
            have hcb : countsB ⟨ke, cl, cf, ct, dy, mi⟩ cls fr tt = false := counts_days (of_decide_eq_false e4)
            refine wa_take_off 34 rfl rfl rfl (by decide) (by kernel_rfl) (by kernel_rfl) (by kernel_rfl) (listed' := #[true, true, true, true, true, true, true, true, true, true, true, true, true, true, true, true, true, true, true, true, true, true, true, true, true, true, true, true, true, true, true, true, true, true, true, false, false, false]) rfl (fun _ _ _ h => h) (fun _ hm => ⟨hm.blkI 0 rfl, hm.blkI 1 rfl, hm.fact 0 rfl, hm.fact 1 rfl, trivial⟩) rfl ?_
            refine wa_take_off 35 rfl rfl rfl (by decide) (by kernel_rfl) (by kernel_rfl) (by kernel_rfl) (listed' := #[true, true, true, true, true, true, true, true, true, true, true, true, true, true, true, true, true, true, true, true, true, true, true, true, true, true, true, true, true, true, true, true, true, true, true, true, false, false]) rfl (fun _ _ _ h => h) (fun _ hm => ⟨hm.blkI 0 rfl, hm.blkI 1 rfl, hm.fact 0 rfl, hm.fact 1 rfl, trivial⟩) rfl ?_
            refine wa_take_off 36 rfl rfl rfl (by decide) (by kernel_rfl) (by kernel_rfl) (by kernel_rfl) (listed' := #[true, true, true, true, true, true, true, true, true, true, true, true, true, true, true, true, true, true, true, true, true, true, true, true, true, true, true, true, true, true, true, true, true, true, true, true, true, false]) rfl (fun _ _ _ h => h) (fun _ hm => ⟨hm.blkI 0 rfl, hm.blkI 1 rfl, hm.fact 0 rfl, hm.fact 1 rfl, trivial⟩) rfl ?_
            refine wa_take 37 rfl (by kernel_rfl) (by kernel_rfl) (by kernel_rfl) (listed' := #[true, true, true, true, true, true, true, true, true, true, true, true, true, true, true, true, true, true, true, true, true, true, true, true, true, true, true, true, true, true, true, true, true, true, true, true, true, true]) rfl (fun _ _ _ h => h) (fun _ hm => ⟨hm.blkI 0 rfl, hm.blkI 1 rfl, hm.fact 0 rfl, hm.fact 1 rfl, trivial⟩) (ov_pick_f rfl rfl) rfl ?_
            refine wa_done (by kernel_rfl) ?_
            refine nx_then ?_
            refine gw_cond rfl (fun hh => by cases hh) (fun _ => ?_)
            refine gw_skip ?_
            refine nx_blk_nrm ?_
            refine nx_then ?_
            refine gw_region ?_
            refine wl_ov (ov_add rfl rfl (by omega) (by omega)) rfl ?_
            refine wl_ov (ov_move rfl) rfl ?_
            refine wl_nil ?_
            exact nx_round (i + 1, ky, mo) ⟨by dsimp only; omega, by rw [hstep]; unfold bestT; rw [if_neg (fun h => by rw [hcb] at h; exact absurd h.2.1 (by decide))]⟩ (by dsimp only; omega) ⟨rfl, rfl, rfl, rfl, rfl, rfl, rfl, rfl, rfl, rfl, (some_int (by omega)), trivial⟩ (fun _ hm => hm.pick [1] [] [0, 1] rfl rfl)
        · refine wa_set 54 rfl (congrArg Value.bool e3) ?_
          have hcb : countsB ⟨ke, cl, cf, ct, dy, mi⟩ cls fr tt = false := counts_in e3
          refine wa_take_off 27 rfl rfl rfl (by decide) (by kernel_rfl) (by kernel_rfl) (by kernel_rfl) (listed' := #[true, true, true, true, true, true, true, true, true, true, true, true, true, true, true, true, true, true, true, true, true, true, true, true, true, true, true, true, false, false, false, false, false, false, false, false, false, false]) rfl (fun _ _ _ h => h) (fun _ hm => ⟨hm.blkI 0 rfl, hm.blkI 1 rfl, hm.fact 0 rfl, hm.fact 1 rfl, trivial⟩) rfl ?_
          refine wa_take_off 28 rfl rfl rfl (by decide) (by kernel_rfl) (by kernel_rfl) (by kernel_rfl) (listed' := #[true, true, true, true, true, true, true, true, true, true, true, true, true, true, true, true, true, true, true, true, true, true, true, true, true, true, true, true, true, false, false, false, false, false, false, false, false, false]) rfl (fun _ _ _ h => h) (fun _ hm => ⟨hm.blkI 0 rfl, hm.blkI 1 rfl, hm.fact 0 rfl, hm.fact 1 rfl, trivial⟩) rfl ?_
          refine wa_take_off 29 rfl rfl rfl (by decide) (by kernel_rfl) (by kernel_rfl) (by kernel_rfl) (listed' := #[true, true, true, true, true, true, true, true, true, true, true, true, true, true, true, true, true, true, true, true, true, true, true, true, true, true, true, true, true, true, false, false, false, false, false, false, false, false]) rfl (fun _ _ _ h => h) (fun _ hm => ⟨hm.blkI 0 rfl, hm.blkI 1 rfl, hm.fact 0 rfl, hm.fact 1 rfl, trivial⟩) rfl ?_
          refine wa_take_off 30 rfl rfl rfl (by decide) (by kernel_rfl) (by kernel_rfl) (by kernel_rfl) (listed' := #[true, true, true, true, true, true, true, true, true, true, true, true, true, true, true, true, true, true, true, true, true, true, true, true, true, true, true, true, true, true, true, false, false, false, false, false, false, false]) rfl (fun _ _ _ h => h) (fun _ hm => ⟨hm.blkI 0 rfl, hm.blkI 1 rfl, hm.fact 0 rfl, hm.fact 1 rfl, trivial⟩) rfl ?_
          refine wa_take_off 31 rfl rfl rfl (by decide) (by kernel_rfl) (by kernel_rfl) (by kernel_rfl) (listed' := #[true, true, true, true, true, true, true, true, true, true, true, true, true, true, true, true, true, true, true, true, true, true, true, true, true, true, true, true, true, true, true, true, false, false, false, false, false, false]) rfl (fun _ _ _ h => h) (fun _ hm => ⟨hm.blkI 0 rfl, hm.blkI 1 rfl, hm.fact 0 rfl, hm.fact 1 rfl, trivial⟩) rfl ?_
          refine wa_take 32 rfl (by kernel_rfl) (by kernel_rfl) (by kernel_rfl) (listed' := #[true, true, true, true, true, true, true, true, true, true, true, true, true, true, true, true, true, true, true, true, true, true, true, true, true, true, true, true, true, true, true, true, true, false, false, false, false, false]) rfl (fun _ _ _ h => h) (fun _ hm => ⟨hm.blkI 0 rfl, hm.blkI 1 rfl, hm.fact 0 rfl, hm.fact 1 rfl, trivial⟩) (ov_pick_f rfl rfl) rfl ?_
          refine wa_take 33 rfl (by kernel_rfl) (by kernel_rfl) (by kernel_rfl) (listed' := #[true, true, true, true, true, true, true, true, true, true, true, true, true, true, true, true, true, true, true, true, true, true, true, true, true, true, true, true, true, true, true, true, true, true, false, false, false, false]) rfl (fun _ _ _ h => h) (fun _ hm => ⟨hm.blkI 0 rfl, hm.blkI 1 rfl, hm.fact 0 rfl, hm.fact 1 rfl, trivial⟩) (ov_move rfl) rfl ?_
          refine wa_take_off 34 rfl rfl rfl (by decide) (by kernel_rfl) (by kernel_rfl) (by kernel_rfl) (listed' := #[true, true, true, true, true, true, true, true, true, true, true, true, true, true, true, true, true, true, true, true, true, true, true, true, true, true, true, true, true, true, true, true, true, true, true, false, false, false]) rfl (fun _ _ _ h => h) (fun _ hm => ⟨hm.blkI 0 rfl, hm.blkI 1 rfl, hm.fact 0 rfl, hm.fact 1 rfl, trivial⟩) rfl ?_
          refine wa_take_off 35 rfl rfl rfl (by decide) (by kernel_rfl) (by kernel_rfl) (by kernel_rfl) (listed' := #[true, true, true, true, true, true, true, true, true, true, true, true, true, true, true, true, true, true, true, true, true, true, true, true, true, true, true, true, true, true, true, true, true, true, true, true, false, false]) rfl (fun _ _ _ h => h) (fun _ hm => ⟨hm.blkI 0 rfl, hm.blkI 1 rfl, hm.fact 0 rfl, hm.fact 1 rfl, trivial⟩) rfl ?_
          refine wa_take_off 36 rfl rfl rfl (by decide) (by kernel_rfl) (by kernel_rfl) (by kernel_rfl) (listed' := #[true, true, true, true, true, true, true, true, true, true, true, true, true, true, true, true, true, true, true, true, true, true, true, true, true, true, true, true, true, true, true, true, true, true, true, true, true, false]) rfl (fun _ _ _ h => h) (fun _ hm => ⟨hm.blkI 0 rfl, hm.blkI 1 rfl, hm.fact 0 rfl, hm.fact 1 rfl, trivial⟩) rfl ?_
          refine wa_take 37 rfl (by kernel_rfl) (by kernel_rfl) (by kernel_rfl) (listed' := #[true, true, true, true, true, true, true, true, true, true, true, true, true, true, true, true, true, true, true, true, true, true, true, true, true, true, true, true, true, true, true, true, true, true, true, true, true, true]) rfl (fun _ _ _ h => h) (fun _ hm => ⟨hm.blkI 0 rfl, hm.blkI 1 rfl, hm.fact 0 rfl, hm.fact 1 rfl, trivial⟩) (ov_pick_f rfl rfl) rfl ?_
          refine wa_done (by kernel_rfl) ?_
          refine nx_then ?_
          refine gw_cond rfl (fun hh => by cases hh) (fun _ => ?_)
          refine gw_skip ?_
          refine nx_blk_nrm ?_
          refine nx_then ?_
          refine gw_region ?_
          refine wl_ov (ov_add rfl rfl (by omega) (by omega)) rfl ?_
          refine wl_ov (ov_move rfl) rfl ?_
          refine wl_nil ?_
          exact nx_round (i + 1, ky, mo) ⟨by dsimp only; omega, by rw [hstep]; unfold bestT; rw [if_neg (fun h => by rw [hcb] at h; exact absurd h.2.1 (by decide))]⟩ (by dsimp only; omega) ⟨rfl, rfl, rfl, rfl, rfl, rfl, rfl, rfl, rfl, rfl, (some_int (by omega)), trivial⟩ (fun _ hm => hm.pick [1] [] [0, 1] rfl rfl)
      · refine wa_set 36 rfl (congrArg Value.bool e1) ?_
        have e1 : emptyS cl = false := e1
        refine wa_take_on 9 rfl rfl rfl (by kernel_rfl) (by kernel_rfl) (by kernel_rfl) (listed' := #[true, true, true, true, true, true, true, true, true, true, false, false, false, false, false, false, false, false, false, false, false, false, false, false, false, false, false, false, false, false, false, false, false, false, false, false, false, false]) rfl (fun _ _ _ h => h) (fun _ hm => ⟨hm.blkI 0 rfl, hm.blkI 1 rfl, hm.fact 0 rfl, hm.fact 1 rfl, trivial⟩) (ov_field fo188_1 rfl rfl) rfl ?_
        refine wa_take_on 10 rfl rfl rfl (by kernel_rfl) (by kernel_rfl) (by kernel_rfl) (listed' := #[true, true, true, true, true, true, true, true, true, true, true, false, false, false, false, false, false, false, false, false, false, false, false, false, false, false, false, false, false, false, false, false, false, false, false, false, false, false]) rfl (fun _ _ _ h => h) (fun _ hm => ⟨hm.blkI 0 rfl, hm.blkI 1 rfl, hm.fact 0 rfl, hm.fact 1 rfl, trivial⟩) (ov_load sc9 rfl (fun _ hm => hm.1) rfl) rfl ?_
        refine wa_take_on 11 rfl rfl rfl (by kernel_rfl) (by kernel_rfl) (by kernel_rfl) (listed' := #[true, true, true, true, true, true, true, true, true, true, true, true, false, false, false, false, false, false, false, false, false, false, false, false, false, false, false, false, false, false, false, false, false, false, false, false, false, false]) rfl (fun _ _ _ h => h) (fun _ hm => ⟨hm.blkI 0 rfl, hm.blkI 1 rfl, hm.fact 0 rfl, hm.fact 1 rfl, trivial⟩) (ov_move rfl) rfl ?_
        refine wa_take_on 12 rfl rfl rfl (by kernel_rfl) (by kernel_rfl) (by kernel_rfl) (listed' := #[true, true, true, true, true, true, true, true, true, true, true, true, true, false, false, false, false, false, false, false, false, false, false, false, false, false, false, false, false, false, false, false, false, false, false, false, false, false]) rfl (fun _ _ _ h => h) (fun _ hm => ⟨hm.blkI 0 rfl, hm.blkI 1 rfl, hm.fact 0 rfl, hm.fact 1 rfl, trivial⟩) (ov_seql rfl rfl) rfl ?_
        refine wa_take_on 13 rfl rfl rfl (by kernel_rfl) (by kernel_rfl) (by kernel_rfl) (listed' := #[true, true, true, true, true, true, true, true, true, true, true, true, true, true, false, false, false, false, false, false, false, false, false, false, false, false, false, false, false, false, false, false, false, false, false, false, false, false]) rfl (fun _ _ _ h => h) (fun _ hm => ⟨hm.blkI 0 rfl, hm.blkI 1 rfl, hm.fact 0 rfl, hm.fact 1 rfl, trivial⟩) (ov_pick_f rfl rfl) rfl ?_
        refine wa_take 14 rfl (by kernel_rfl) (by kernel_rfl) (by kernel_rfl) (listed' := #[true, true, true, true, true, true, true, true, true, true, true, true, true, true, true, false, false, false, false, false, false, false, false, false, false, false, false, false, false, false, false, false, false, false, false, false, false, false]) rfl (fun _ _ _ h => h) (fun _ hm => ⟨hm.blkI 0 rfl, hm.blkI 1 rfl, hm.fact 0 rfl, hm.fact 1 rfl, trivial⟩) (ov_pick_t rfl rfl) rfl ?_
        refine wa_take 15 rfl (by kernel_rfl) (by kernel_rfl) (by kernel_rfl) (listed' := #[true, true, true, true, true, true, true, true, true, true, true, true, true, true, true, true, false, false, false, false, false, false, false, false, false, false, false, false, false, false, false, false, false, false, false, false, false, false]) rfl (fun _ _ _ h => h) (fun _ hm => ⟨hm.blkI 0 rfl, hm.blkI 1 rfl, hm.fact 0 rfl, hm.fact 1 rfl, trivial⟩) (ov_move rfl) rfl ?_
        rcases Bool.eq_false_or_eq_true (cl.toList == cls.toList) with e2 | e2
        · refine wa_set 43 rfl (congrArg Value.bool e2) ?_
          refine wa_take_on 16 rfl rfl rfl (by kernel_rfl) (by kernel_rfl) (by kernel_rfl) (listed' := #[true, true, true, true, true, true, true, true, true, true, true, true, true, true, true, true, true, false, false, false, false, false, false, false, false, false, false, false, false, false, false, false, false, false, false, false, false, false]) rfl (fun _ _ _ h => h) (fun _ hm => ⟨hm.blkI 0 rfl, hm.blkI 1 rfl, hm.fact 0 rfl, hm.fact 1 rfl, trivial⟩) (ov_field fo56_0 rfl rfl) rfl ?_
          refine wa_take_on 17 rfl rfl rfl (by kernel_rfl) (by kernel_rfl) (by kernel_rfl) (listed' := #[true, true, true, true, true, true, true, true, true, true, true, true, true, true, true, true, true, true, false, false, false, false, false, false, false, false, false, false, false, false, false, false, false, false, false, false, false, false]) rfl (fun _ _ _ h => h) (fun _ hm => ⟨hm.blkI 0 rfl, hm.blkI 1 rfl, hm.fact 0 rfl, hm.fact 1 rfl, trivial⟩) (ov_load sc3 rfl (fun _ hm => hm.2.1) rfl) rfl ?_
          refine wa_take_on 18 rfl rfl rfl (by kernel_rfl) (by kernel_rfl) (by kernel_rfl) (listed' := #[true, true, true, true, true, true, true, true, true, true, true, true, true, true, true, true, true, true, true, false, false, false, false, false, false, false, false, false, false, false, false, false, false, false, false, false, false, false]) rfl (fun _ _ _ h => h) (fun _ hm => ⟨hm.blkI 0 rfl, hm.blkI 1 rfl, hm.fact 0 rfl, hm.fact 1 rfl, trivial⟩) (ov_quo rfl rfl (by omega) (by omega) (by omega)) rfl ?_
          refine wa_take_on 19 rfl rfl rfl (by kernel_rfl) (by kernel_rfl) (by kernel_rfl) (listed' := #[true, true, true, true, true, true, true, true, true, true, true, true, true, true, true, true, true, true, true, true, false, false, false, false, false, false, false, false, false, false, false, false, false, false, false, false, false, false]) rfl (fun _ _ _ h => h) (fun _ hm => ⟨hm.blkI 0 rfl, hm.blkI 1 rfl, hm.fact 0 rfl, hm.fact 1 rfl, trivial⟩) (ov_field fo188_2 rfl rfl) rfl ?_
          refine wa_take_on 20 rfl rfl rfl (by kernel_rfl) (by kernel_rfl) (by kernel_rfl) (listed' := #[true, true, true, true, true, true, true, true, true, true, true, true, true, true, true, true, true, true, true, true, true, false, false, false, false, false, false, false, false, false, false, false, false, false, false, false, false, false]) rfl (fun _ _ _ h => h) (fun _ hm => ⟨hm.blkI 0 rfl, hm.blkI 1 rfl, hm.fact 0 rfl, hm.fact 1 rfl, trivial⟩) (ov_load sc3 rfl (fun _ hm => hm.1) rfl) rfl ?_
          refine wa_take_on 21 rfl rfl rfl (by kernel_rfl) (by kernel_rfl) (by kernel_rfl) (listed' := #[true, true, true, true, true, true, true, true, true, true, true, true, true, true, true, true, true, true, true, true, true, true, false, false, false, false, false, false, false, false, false, false, false, false, false, false, false, false]) rfl (fun _ _ _ h => h) (fun _ hm => ⟨hm.blkI 0 rfl, hm.blkI 1 rfl, hm.fact 0 rfl, hm.fact 1 rfl, trivial⟩) (ov_field fo188_3 rfl rfl) rfl ?_
          refine wa_take_on 22 rfl rfl rfl (by kernel_rfl) (by kernel_rfl) (by kernel_rfl) (listed' := #[true, true, true, true, true, true, true, true, true, true, true, true, true, true, true, true, true, true, true, true, true, true, true, false, false, false, false, false, false, false, false, false, false, false, false, false, false, false]) rfl (fun _ _ _ h => h) (fun _ hm => ⟨hm.blkI 0 rfl, hm.blkI 1 rfl, hm.fact 0 rfl, hm.fact 1 rfl, trivial⟩) (ov_load sc3 rfl (fun _ hm => hm.1) rfl) rfl ?_
          refine wa_take_on 23 rfl rfl rfl (by kernel_rfl) (by kernel_rfl) (by kernel_rfl) (listed' := #[true, true, true, true, true, true, true, true, true, true, true, true, true, true, true, true, true, true, true, true, true, true, true, true, false, false, false, false, false, false, false, false, false, false, false, false, false, false]) rfl (fun _ _ _ h => h) (fun _ hm => ⟨hm.blkI 0 rfl, hm.blkI 1 rfl, hm.fact 0 rfl, hm.fact 1 rfl, trivial⟩) (ov_sub rfl rfl (by omega) (by omega)) rfl ?_
          refine wa_all [24] (by kernel_rfl) rfl ⟨⟨_, rfl, ?_⟩, trivial⟩
          refine wl_guard_on rfl rfl rfl ?_
          refine wl_callw rfl cb91 rfl rfl (fun wx hm => (rin_any _ _ _ wx)) ?_
          refine wl_nil ?_
          refine nx_wa0 (listed' := #[true, true, true, true, true, true, true, true, true, true, true, true, true, true, true, true, true, true, true, true, true, true, true, true, true, false, false, false, false, false, false, false, false, false, false, false, false, false]) rfl (fun _ hm => ⟨hm.blkI 0 rfl, hm.blkI 1 rfl, hm.fact 0 rfl, hm.fact 1 rfl, trivial⟩) ?_
          refine wa_take 25 rfl (by kernel_rfl) (by kernel_rfl) (by kernel_rfl) (listed' := #[true, true, true, true, true, true, true, true, true, true, true, true, true, true, true, true, true, true, true, true, true, true, true, true, true, true, false, false, false, false, false, false, false, false, false, false, false, false]) rfl (fun _ _ _ h => h) (fun _ hm => ⟨hm.blkI 0 rfl, hm.blkI 1 rfl, hm.fact 0 rfl, hm.fact 1 rfl, trivial⟩) (ov_pick_t rfl rfl) rfl ?_
          refine wa_take 26 rfl (by kernel_rfl) (by kernel_rfl) (by kernel_rfl) (listed' := #[true, true, true, true, true, true, true, true, true, true, true, true, true, true, true, true, true, true, true, true, true, true, true, true, true, true, true, false, false, false, false, false, false, false, false, false, false, false]) rfl (fun _ _ _ h => h) (fun _ hm => ⟨hm.blkI 0 rfl, hm.blkI 1 rfl, hm.fact 0 rfl, hm.fact 1 rfl, trivial⟩) (ov_move rfl) rfl ?_
          rcases Bool.eq_false_or_eq_true (inB (fr / 1440) cf (ct - 1)) with e3 | e3
          · refine wa_set 54 rfl (congrArg Value.bool e3) ?_
            refine wa_take_on 27 rfl rfl rfl (by kernel_rfl) (by kernel_rfl) (by kernel_rfl) (listed' := #[true, true, true, true, true, true, true, true, true, true, true, true, true, true, true, true, true, true, true, true, true, true, true, true, true, true, true, true, false, false, false, false, false, false, false, false, false, false]) rfl (fun _ _ _ h => h) (fun _ hm => ⟨hm.blkI 0 rfl, hm.blkI 1 rfl, hm.fact 0 rfl, hm.fact 1 rfl, trivial⟩) (ov_loads rz56 rfl (fun _ hm => hm.2.1) rfl rfl) rfl ?_
            refine wa_take_on 29 rfl rfl rfl (by kernel_rfl) (by kernel_rfl) (by kernel_rfl) (listed' := #[true, true, true, true, true, true, true, true, true, true, true, true, true, true, true, true, true, true, true, true, true, true, true, true, true, true, true, true, false, true, false, false, false, false, false, false, false, false]) rfl (fun _ _ _ h => h) (fun _ hm => ⟨hm.blkI 0 rfl, hm.blkI 1 rfl, hm.fact 0 rfl, hm.fact 1 rfl, trivial⟩) (ov_field fo188_4 rfl rfl) rfl ?_
            refine wa_take_on 30 rfl rfl rfl (by kernel_rfl) (by kernel_rfl) (by kernel_rfl) (listed' := #[true, true, true, true, true, true, true, true, true, true, true, true, true, true, true, true, true, true, true, true, true, true, true, true, true, true, true, true, false, true, true, false, false, false, false, false, false, false]) rfl (fun _ _ _ h => h) (fun _ hm => ⟨hm.blkI 0 rfl, hm.blkI 1 rfl, hm.fact 0 rfl, hm.fact 1 rfl, trivial⟩) (ov_load sc3 rfl (fun _ hm => hm.1) rfl) rfl ?_
            refine wa_all [28] (by kernel_rfl) rfl ⟨⟨_, rfl, ?_⟩, trivial⟩
            refine wl_guard_on rfl rfl rfl ?_
            refine wl_callv rfl cb36 rfl rfl (fun wx hm => (daysOf_any fr tt wx h0 (by omega) htt)) ?_
            refine wl_nil ?_
            refine nx_wa0 (listed' := #[true, true, true, true, true, true, true, true, true, true, true, true, true, true, true, true, true, true, true, true, true, true, true, true, true, true, true, true, true, true, true, false, false, false, false, false, false, false]) rfl (fun _ hm => ⟨hm.blkI 0 rfl, hm.blkI 1 rfl, hm.fact 0 rfl, hm.fact 1 rfl, trivial⟩) ?_
            refine wa_take_on 31 rfl rfl rfl (by kernel_rfl) (by kernel_rfl) (by kernel_rfl) (listed' := #[true, true, true, true, true, true, true, true, true, true, true, true, true, true, true, true, true, true, true, true, true, true, true, true, true, true, true, true, true, true, true, true, false, false, false, false, false, false]) rfl (fun _ _ _ h => h) (fun _ hm => ⟨hm.blkI 0 rfl, hm.blkI 1 rfl, hm.fact 0 rfl, hm.fact 1 rfl, trivial⟩) (ov_geq rfl rfl) rfl ?_
            refine wa_take 32 rfl (by kernel_rfl) (by kernel_rfl) (by kernel_rfl) (listed' := #[true, true, true, true, true, true, true, true, true, true, true, true, true, true, true, true, true, true, true, true, true, true, true, true, true, true, true, true, true, true, true, true, true, false, false, false, false, false]) rfl (fun _ _ _ h => h) (fun _ hm => ⟨hm.blkI 0 rfl, hm.blkI 1 rfl, hm.fact 0 rfl, hm.fact 1 rfl, trivial⟩) (ov_pick_t rfl rfl) rfl ?_
            refine wa_take 33 rfl (by kernel_rfl) (by kernel_rfl) (by kernel_rfl) (listed' := #[true, true, true, true, true, true, true, true, true, true, true, true, true, true, true, true, true, true, true, true, true, true, true, true, true, true, true, true, true, true, true, true, true, true, false, false, false, false]) rfl (fun _ _ _ h => h) (fun _ hm => ⟨hm.blkI 0 rfl, hm.blkI 1 rfl, hm.fact 0 rfl, hm.fact 1 rfl, trivial⟩) (ov_move rfl) rfl ?_
            rcases Bool.eq_false_or_eq_true (decide (dy ≤ daysV fr tt)) with e4 | e4
            · refine wa_set 61 rfl (congrArg Value.bool e4) ?_
              have hcb : countsB ⟨ke, cl, cf, ct, dy, mi⟩ cls fr tt = true := counts_yes (.inr e2) e3 (of_decide_eq_true e4)
              refine wa_take_on 34 rfl rfl rfl (by kernel_rfl) (by kernel_rfl) (by kernel_rfl) (listed' := #[true, true, true, true, true, true, true, true, true, true, true, true, true, true, true, true, true, true, true, true, true, true, true, true, true, true, true, true, true, true, true, true, true, true, true, false, false, false]) rfl (fun _ _ _ h => h) (fun _ hm => ⟨hm.blkI 0 rfl, hm.blkI 1 rfl, hm.fact 0 rfl, hm.fact 1 rfl, trivial⟩) (ov_move rfl) rfl ?_
              refine wa_take_on 35 rfl rfl rfl (by kernel_rfl) (by kernel_rfl) (by kernel_rfl) (listed' := #[true, true, true, true, true, true, true, true, true, true, true, true, true, true, true, true, true, true, true, true, true, true, true, true, true, true, true, true, true, true, true, true, true, true, true, true, false, false]) rfl (fun _ _ _ h => h) (fun _ hm => ⟨hm.blkI 0 rfl, hm.blkI 1 rfl, hm.fact 0 rfl, hm.fact 1 rfl, trivial⟩) (ov_move rfl) rfl ?_
              refine wa_take_on 36 rfl rfl rfl (by kernel_rfl) (by kernel_rfl) (by kernel_rfl) (listed' := #[true, true, true, true, true, true, true, true, true, true, true, true, true, true, true, true, true, true, true, true, true, true, true, true, true, true, true, true, true, true, true, true, true, true, true, true, true, false]) rfl (fun _ _ _ h => h) (fun _ hm => ⟨hm.blkI 0 rfl, hm.blkI 1 rfl, hm.fact 0 rfl, hm.fact 1 rfl, trivial⟩) (ov_gtr rfl rfl) rfl ?_
              refine wa_take 37 rfl (by kernel_rfl) (by kernel_rfl) (by kernel_rfl) (listed' := #[true, true, true, true, true, true, true, true, true, true, true, true, true, true, true, true, true, true, true, true, true, true, true, true, true, true, true, true, true, true, true, true, true, true, true, true, true, true]) rfl (fun _ _ _ h => h) (fun _ hm => ⟨hm.blkI 0 rfl, hm.blkI 1 rfl, hm.fact 0 rfl, hm.fact 1 rfl, trivial⟩) (ov_pick_t rfl rfl) rfl ?_
              refine wa_done (by kernel_rfl) ?_
              refine nx_then ?_
              refine gw_cond rfl (fun hh => ?_) (fun hh => ?_)
              · have d2 : mo < (cents * mi) / 1000 := by simpa using hh
                clear hh
                refine gw_region ?_
                refine wl_ov (ov_field fo188_0 rfl rfl) rfl ?_
                refine wl_ov (ov_load sc9 rfl (fun _ hm => hm.blkI 0 rfl) rfl) rfl ?_
                refine wl_ov (ov_move rfl) rfl ?_
                refine wl_ov (ov_assign rfl) rfl ?_
                refine wl_ov (ov_assign rfl) rfl ?_
                refine wl_nil ?_
                refine nx_blk_nrm ?_
                refine nx_then ?_
                refine gw_region ?_
                refine wl_ov (ov_add rfl rfl (by omega) (by omega)) rfl ?_
                refine wl_ov (ov_move rfl) rfl ?_
                refine wl_nil ?_
                exact nx_round (i + 1, ke, cents * mi / 1000) ⟨by dsimp only; omega, by rw [hstep]; unfold bestT; rw [if_pos ⟨d1, hcb, d2⟩]; rfl⟩ (by dsimp only; omega) ⟨rfl, rfl, rfl, rfl, rfl, rfl, rfl, rfl, rfl, rfl, (some_int (by omega)), trivial⟩ (fun _ hm => hm.pick [1] [] [0, 1] rfl rfl)
              · have d2 : ¬ (mo < (cents * mi) / 1000) := by simpa using hh
                clear hh
                refine gw_skip ?_
                refine nx_blk_nrm ?_
                refine nx_then ?_
                refine gw_region ?_
                refine wl_ov (ov_add rfl rfl (by omega) (by omega)) rfl ?_
                refine wl_ov (ov_move rfl) rfl ?_
                refine wl_nil ?_
                exact nx_round (i + 1, ky, mo) ⟨by dsimp only; omega, by rw [hstep]; unfold bestT; rw [if_neg (fun h => d2 h.2.2)]⟩ (by dsimp only; omega) ⟨rfl, rfl, rfl, rfl, rfl, rfl, rfl, rfl, rfl, rfl, (some_int (by omega)), trivial⟩ (fun _ hm => hm.pick [1] [] [0, 1] rfl rfl)
            · refine wa_set 61 rfl (congrArg Value.bool e4) ?_
              have hcb : countsB ⟨ke, cl, cf, ct, dy, mi⟩ cls fr tt = false := counts_days (of_decide_eq_false e4)
              refine wa_take_off 34 rfl rfl rfl (by decide) (by kernel_rfl) (by kernel_rfl) (by kernel_rfl) (listed' := #[true, true, true, true, true, true, true, true, true, true, true, true, true, true, true, true, true, true, true, true, true, true, true, true, true, true, true, true, true, true, true, true, true, true, true, false, false, false]) rfl (fun _ _ _ h => h) (fun _ hm => ⟨hm.blkI 0 rfl, hm.blkI 1 rfl, hm.fact 0 rfl, hm.fact 1 rfl, trivial⟩) rfl ?_
              refine wa_take_off 35 rfl rfl rfl (by decide) (by kernel_rfl) (by kernel_rfl) (by kernel_rfl) (listed' := #[true, true, true, true, true, true, true, true, true, true, true, true, true, true, true, true, true, true, true, true, true, true, true, true, true, true, true, true, true, true, true, true, true, true, true, true, false, false]) rfl (fun _ _ _ h => h) (fun _ hm => ⟨hm.blkI 0 rfl, hm.blkI 1 rfl, hm.fact 0 rfl, hm.fact 1 rfl, trivial⟩) rfl ?_
              refine wa_take_off 36 rfl rfl rfl (by decide) (by kernel_rfl) (by kernel_rfl) (by kernel_rfl) (listed' := #[true, true, true, true, true, true, true, true, true, true, true, true, true, true, true, true, true, true, true, true, true, true, true, true, true, true, true, true, true, true, true, true, true, true, true, true, true, false]) rfl (fun _ _ _ h => h) (fun _ hm => ⟨hm.blkI 0 rfl, hm.blkI 1 rfl, hm.fact 0 rfl, hm.fact 1 rfl, trivial⟩) rfl ?_
              refine wa_take 37 rfl (by kernel_rfl) (by kernel_rfl) (by kernel_rfl) (listed' := #[true, true, true, true, true, true, true, true, true, true, true, true, true, true, true, true, true, true, true, true, true, true, true, true, true, true, true, true, true, true, true, true, true, true, true, true, true, true]) rfl (fun _ _ _ h => h) (fun _ hm => ⟨hm.blkI 0 rfl, hm.blkI 1 rfl, hm.fact 0 rfl, hm.fact 1 rfl, trivial⟩) (ov_pick_f rfl rfl) rfl ?_
              refine wa_done (by kernel_rfl) ?_
              refine nx_then ?_
              refine gw_cond rfl (fun hh => by cases hh) (fun _ => ?_)
              refine gw_skip ?_
              refine nx_blk_nrm ?_
              refine nx_then ?_
              refine gw_region ?_
              refine wl_ov (ov_add rfl rfl (by omega) (by omega)) rfl ?_
              refine wl_ov (ov_move rfl) rfl ?_
              refine wl_nil ?_
              exact nx_round (i + 1, ky, mo) ⟨by dsimp only; omega, by rw [hstep]; unfold bestT; rw [if_neg (fun h => by rw [hcb] at h; exact absurd h.2.1 (by decide))]⟩ (by dsimp only; omega) ⟨rfl, rfl, rfl, rfl, rfl, rfl, rfl, rfl, rfl, rfl, (some_int (by omega)), trivial⟩ (fun _ hm => hm.pick [1] [] [0, 1] rfl rfl)
          · refine wa_set 54 rfl (congrArg Value.bool e3) ?_
            have hcb : countsB ⟨ke, cl, cf, ct, dy, mi⟩ cls fr tt = false := counts_in e3
            refine wa_take_off 27 rfl rfl rfl (by decide) (by kernel_rfl) (by kernel_rfl) (by kernel_rfl) (listed' := #[true, true, true, true, true, true, true, true, true, true, true, true, true, true, true, true, true, true, true, true, true, true, true, true, true, true, true, true, false, false, false, false, false, false, false, false, false, false]) rfl (fun _ _ _ h => h) (fun _ hm => ⟨hm.blkI 0 rfl, hm.blkI 1 rfl, hm.fact 0 rfl, hm.fact 1 rfl, trivial⟩) rfl ?_
            refine wa_take_off 28 rfl rfl rfl (by decide) (by kernel_rfl) (by kernel_rfl) (by kernel_rfl) (listed' := #[true, true, true, true, true, true, true, true, true, true, true, true, true, true, true, true, true, true, true, true, true, true, true, true, true, true, true, true, true, false, false, false, false, false, false, false, false, false]) rfl (fun _ _ _ h => h) (fun _ hm => ⟨hm.blkI 0 rfl, hm.blkI 1 rfl, hm.fact 0 rfl, hm.fact 1 rfl, trivial⟩) rfl ?_
            refine wa_take_off 29 rfl rfl rfl (by decide) (by kernel_rfl) (by kernel_rfl) (by kernel_rfl) (listed' := #[true, true, true, true, true, true, true, true, true, true, true, true, true, true, true, true, true, true, true, true, true, true, true, true, true, true, true, true, true, true, false, false, false, false, false, false, false, false]) rfl (fun _ _ _ h => h) (fun _ hm => ⟨hm.blkI 0 rfl, hm.blkI 1 rfl, hm.fact 0 rfl, hm.fact 1 rfl, trivial⟩) rfl ?_
            refine wa_take_off 30 rfl rfl rfl (by decide) (by kernel_rfl) (by kernel_rfl) (by kernel_rfl) (listed' := #[true, true, true, true, true, true, true, true, true, true, true, true, true, true, true, true, true, true, true, true, true, true, true, true, true, true, true, true, true, true, true, false, false, false, false, false, false, false]) rfl (fun _ _ _ h => h) (fun _ hm => ⟨hm.blkI 0 rfl, hm.blkI 1 rfl, hm.fact 0 rfl, hm.fact 1 rfl, trivial⟩) rfl ?_
            refine wa_take_off 31 rfl rfl rfl (by decide) (by kernel_rfl) (by kernel_rfl) (by kernel_rfl) (listed' := #[true, true, true, true, true, true, true, true, true, true, true, true, true, true, true, true, true, true, true, true, true, true, true, true, true, true, true, true, true, true, true, true, false, false, false, false, false, false]) rfl (fun _ _ _ h => h) (fun _ hm => ⟨hm.blkI 0 rfl, hm.blkI 1 rfl, hm.fact 0 rfl, hm.fact 1 rfl, trivial⟩) rfl ?_
            refine wa_take 32 rfl (by kernel_rfl) (by kernel_rfl) (by kernel_rfl) (listed' := #[true, true, true, true, true, true, true, true, true, true, true, true, true, true, true, true, true, true, true, true, true, true, true, true, true, true, true, true, true, true, true, true, true, false, false, false, false, false]) rfl (fun _ _ _ h => h) (fun _ hm => ⟨hm.blkI 0 rfl, hm.blkI 1 rfl, hm.fact 0 rfl, hm.fact 1 rfl, trivial⟩) (ov_pick_f rfl rfl) rfl ?_
            refine wa_take 33 rfl (by kernel_rfl) (by kernel_rfl) (by kernel_rfl) (listed' := #[true, true, true, true, true, true, true, true, true, true, true, true, true, true, true, true, true, true, true, true, true, true, true, true, true, true, true, true, true, true, true, true, true, true, false, false, false, false]) rfl (fun _ _ _ h => h) (fun _ hm => ⟨hm.blkI 0 rfl, hm.blkI 1 rfl, hm.fact 0 rfl, hm.fact 1 rfl, trivial⟩) (ov_move rfl) rfl ?_
            refine wa_take_off 34 rfl rfl rfl (by decide) (by kernel_rfl) (by kernel_rfl) (by kernel_rfl) (listed' := #[true, true, true, true, true, true, true, true, true, true, true, true, true, true, true, true, true, true, true, true, true, true, true, true, true, true, true, true, true, true, true, true, true, true, true, false, false, false]) rfl (fun _ _ _ h => h) (fun _ hm => ⟨hm.blkI 0 rfl, hm.blkI 1 rfl, hm.fact 0 rfl, hm.fact 1 rfl, trivial⟩) rfl ?_
            refine wa_take_off 35 rfl rfl rfl (by decide) (by kernel_rfl) (by kernel_rfl) (by kernel_rfl) (listed' := #[true, true, true, true, true, true, true, true, true, true, true, true, true, true, true, true, true, true, true, true, true, true, true, true, true, true, true, true, true, true, true, true, true, true, true, true, false, false]) rfl (fun _ _ _ h => h) (fun _ hm => ⟨hm.blkI 0 rfl, hm.blkI 1 rfl, hm.fact 0 rfl, hm.fact 1 rfl, trivial⟩) rfl ?_
            refine wa_take_off 36 rfl rfl rfl (by decide) (by kernel_rfl) (by kernel_rfl) (by kernel_rfl) (listed' := #[true, true, true, true, true, true, true, true, true, true, true, true, true, true, true, true, true, true, true, true, true, true, true, true, true, true, true, true, true, true, true, true, true, true, true, true, true, false]) rfl (fun _ _ _ h => h) (fun _ hm => ⟨hm.blkI 0 rfl, hm.blkI 1 rfl, hm.fact 0 rfl, hm.fact 1 rfl, trivial⟩) rfl ?_
            refine wa_take 37 rfl (by kernel_rfl) (by kernel_rfl) (by kernel_rfl) (listed' := #[true, true, true, true, true, true, true, true, true, true, true, true, true, true, true, true, true, true, true, true, true, true, true, true, true, true, true, true, true, true, true, true, true, true, true, true, true, true]) rfl (fun _ _ _ h => h) (fun _ hm => ⟨hm.blkI 0 rfl, hm.blkI 1 rfl, hm.fact 0 rfl, hm.fact 1 rfl, trivial⟩) (ov_pick_f rfl rfl) rfl ?_
            refine wa_done (by kernel_rfl) ?_
            refine nx_then ?_
            refine gw_cond rfl (fun hh => by cases hh) (fun _ => ?_)
            refine gw_skip ?_
            refine nx_blk_nrm ?_
            refine nx_then ?_
            refine gw_region ?_
            refine wl_ov (ov_add rfl rfl (by omega) (by omega)) rfl ?_
            refine wl_ov (ov_move rfl) rfl ?_
            refine wl_nil ?_
            exact nx_round (i + 1, ky, mo) ⟨by dsimp only; omega, by rw [hstep]; unfold bestT; rw [if_neg (fun h => by rw [hcb] at h; exact absurd h.2.1 (by decide))]⟩ (by dsimp only; omega) ⟨rfl, rfl, rfl, rfl, rfl, rfl, rfl, rfl, rfl, rfl, (some_int (by omega)), trivial⟩ (fun _ hm => hm.pick [1] [] [0, 1] rfl rfl)
        · refine wa_set 43 rfl (congrArg Value.bool e2) ?_
          have hcb : countsB ⟨ke, cl, cf, ct, dy, mi⟩ cls fr tt = false := counts_cls e1 e2
          refine wa_take_off 16 rfl rfl rfl (by decide) (by kernel_rfl) (by kernel_rfl) (by kernel_rfl) (listed' := #[true, true, true, true, true, true, true, true, true, true, true, true, true, true, true, true, true, false, false, false, false, false, false, false, false, false, false, false, false, false, false, false, false, false, false, false, false, false]) rfl (fun _ _ _ h => h) (fun _ hm => ⟨hm.blkI 0 rfl, hm.blkI 1 rfl, hm.fact 0 rfl, hm.fact 1 rfl, trivial⟩) rfl ?_
          refine wa_take_off 17 rfl rfl rfl (by decide) (by kernel_rfl) (by kernel_rfl) (by kernel_rfl) (listed' := #[true, true, true, true, true, true, true, true, true, true, true, true, true, true, true, true, true, true, false, false, false, false, false, false, false, false, false, false, false, false, false, false, false, false, false, false, false, false]) rfl (fun _ _ _ h => h) (fun _ hm => ⟨hm.blkI 0 rfl, hm.blkI 1 rfl, hm.fact 0 rfl, hm.fact 1 rfl, trivial⟩) rfl ?_
          refine wa_take_off 18 rfl rfl rfl (by decide) (by kernel_rfl) (by kernel_rfl) (by kernel_rfl) (listed' := #[true, true, true, true, true, true, true, true, true, true, true, true, true, true, true, true, true, true, true, false, false, false, false, false, false, false, false, false, false, false, false, false, false, false, false, false, false, false]) rfl (fun _ _ _ h => h) (fun _ hm => ⟨hm.blkI 0 rfl, hm.blkI 1 rfl, hm.fact 0 rfl, hm.fact 1 rfl, trivial⟩) rfl ?_
          refine wa_take_off 19 rfl rfl rfl (by decide) (by kernel_rfl) (by kernel_rfl) (by kernel_rfl) (listed' := #[true, true, true, true, true, true, true, true, true, true, true, true, true, true, true, true, true, true, true, true, false, false, false, false, false, false, false, false, false, false, false, false, false, false, false, false, false, false]) rfl (fun _ _ _ h => h) (fun _ hm => ⟨hm.blkI 0 rfl, hm.blkI 1 rfl, hm.fact 0 rfl, hm.fact 1 rfl, trivial⟩) rfl ?_
          refine wa_take_off 20 rfl rfl rfl (by decide) (by kernel_rfl) (by kernel_rfl) (by kernel_rfl) (listed' := #[true, true, true, true, true, true, true, true, true, true, true, true, true, true, true, true, true, true, true, true, true, false, false, false, false, false, false, false, false, false, false, false, false, false, false, false, false, false]) rfl (fun _ _ _ h => h) (fun _ hm => ⟨hm.blkI 0 rfl, hm.blkI 1 rfl, hm.fact 0 rfl, hm.fact 1 rfl, trivial⟩) rfl ?_
          refine wa_take_off 21 rfl rfl rfl (by decide) (by kernel_rfl) (by kernel_rfl) (by kernel_rfl) (listed' := #[true, true, true, true, true, true, true, true, true, true, true, true, true, true, true, true, true, true, true, true, true, true, false, false, false, false, false, false, false, false, false, false, false, false, false, false, false, false]) rfl (fun _ _ _ h => h) (fun _ hm => ⟨hm.blkI 0 rfl, hm.blkI 1 rfl, hm.fact 0 rfl, hm.fact 1 rfl, trivial⟩) rfl ?_
          refine wa_take_off 22 rfl rfl rfl (by decide) (by kernel_rfl) (by kernel_rfl) (by kernel_rfl) (listed' := #[true, true, true, true, true, true, true, true, true, true, true, true, true, true, true, true, true, true, true, true, true, true, true, false, false, false, false, false, false, false, false, false, false, false, false, false, false, false]) rfl (fun _ _ _ h => h) (fun _ hm => ⟨hm.blkI 0 rfl, hm.blkI 1 rfl, hm.fact 0 rfl, hm.fact 1 rfl, trivial⟩) rfl ?_
          refine wa_take_off 23 rfl rfl rfl (by decide) (by kernel_rfl) (by kernel_rfl) (by kernel_rfl) (listed' := #[true, true, true, true, true, true, true, true, true, true, true, true, true, true, true, true, true, true, true, true, true, true, true, true, false, false, false, false, false, false, false, false, false, false, false, false, false, false]) rfl (fun _ _ _ h => h) (fun _ hm => ⟨hm.blkI 0 rfl, hm.blkI 1 rfl, hm.fact 0 rfl, hm.fact 1 rfl, trivial⟩) rfl ?_
          refine wa_take_off 24 rfl rfl rfl (by decide) (by kernel_rfl) (by kernel_rfl) (by kernel_rfl) (listed' := #[true, true, true, true, true, true, true, true, true, true, true, true, true, true, true, true, true, true, true, true, true, true, true, true, true, false, false, false, false, false, false, false, false, false, false, false, false, false]) rfl (fun _ _ _ h => h) (fun _ hm => ⟨hm.blkI 0 rfl, hm.blkI 1 rfl, hm.fact 0 rfl, hm.fact 1 rfl, trivial⟩) rfl ?_
          refine wa_take 25 rfl (by kernel_rfl) (by kernel_rfl) (by kernel_rfl) (listed' := #[true, true, true, true, true, true, true, true, true, true, true, true, true, true, true, true, true, true, true, true, true, true, true, true, true, true, false, false, false, false, false, false, false, false, false, false, false, false]) rfl (fun _ _ _ h => h) (fun _ hm => ⟨hm.blkI 0 rfl, hm.blkI 1 rfl, hm.fact 0 rfl, hm.fact 1 rfl, trivial⟩) (ov_pick_f rfl rfl) rfl ?_
          refine wa_take 26 rfl (by kernel_rfl) (by kernel_rfl) (by kernel_rfl) (listed' := #[true, true, true, true, true, true, true, true, true, true, true, true, true, true, true, true, true, true, true, true, true, true, true, true, true, true, true, false, false, false, false, false, false, false, false, false, false, false]) rfl (fun _ _ _ h => h) (fun _ hm => ⟨hm.blkI 0 rfl, hm.blkI 1 rfl, hm.fact 0 rfl, hm.fact 1 rfl, trivial⟩) (ov_move rfl) rfl ?_
          refine wa_take_off 27 rfl rfl rfl (by decide) (by kernel_rfl) (by kernel_rfl) (by kernel_rfl) (listed' := #[true, true, true, true, true, true, true, true, true, true, true, true, true, true, true, true, true, true, true, true, true, true, true, true, true, true, true, true, false, false, false, false, false, false, false, false, false, false]) rfl (fun _ _ _ h => h) (fun _ hm => ⟨hm.blkI 0 rfl, hm.blkI 1 rfl, hm.fact 0 rfl, hm.fact 1 rfl, trivial⟩) rfl ?_
          refine wa_take_off 28 rfl rfl rfl (by decide) (by kernel_rfl) (by kernel_rfl) (by kernel_rfl) (listed' := #[true, true, true, true, true, true, true, true, true, true, true, true, true, true, true, true, true, true, true, true, true, true, true, true, true, true, true, true, true, false, false, false, false, false, false, false, false, false]) rfl (fun _ _ _ h => h) (fun _ hm => ⟨hm.blkI 0 rfl, hm.blkI 1 rfl, hm.fact 0 rfl, hm.fact 1 rfl, trivial⟩) rfl ?_
          refine wa_take_off 29 rfl rfl rfl (by decide) (by kernel_rfl) (by kernel_rfl) (by kernel_rfl) (listed' := #[true, true, true, true, true, true, true, true, true, true, true, true, true, true, true, true, true, true, true, true, true, true, true, true, true, true, true, true, true, true, false, false, false, false, false, false, false, false]) rfl (fun _ _ _ h => h) (fun _ hm => ⟨hm.blkI 0 rfl, hm.blkI 1 rfl, hm.fact 0 rfl, hm.fact 1 rfl, trivial⟩) rfl ?_
          refine wa_take_off 30 rfl rfl rfl (by decide) (by kernel_rfl) (by kernel_rfl) (by kernel_rfl) (listed' := #[true, true, true, true, true, true, true, true, true, true, true, true, true, true, true, true, true, true, true, true, true, true, true, true, true, true, true, true, true, true, true, false, false, false, false, false, false, false]) rfl (fun _ _ _ h => h) (fun _ hm => ⟨hm.blkI 0 rfl, hm.blkI 1 rfl, hm.fact 0 rfl, hm.fact 1 rfl, trivial⟩) rfl ?_
          refine wa_take_off 31 rfl rfl rfl (by decide) (by kernel_rfl) (by kernel_rfl) (by kernel_rfl) (listed' := #[true, true, true, true, true, true, true, true, true, true, true, true, true, true, true, true, true, true, true, true, true, true, true, true, true, true, true, true, true, true, true, true, false, false, false, false, false, false]) rfl (fun _ _ _ h => h) (fun _ hm => ⟨hm.blkI 0 rfl, hm.blkI 1 rfl, hm.fact 0 rfl, hm.fact 1 rfl, trivial⟩) rfl ?_
          refine wa_take 32 rfl (by kernel_rfl) (by kernel_rfl) (by kernel_rfl) (listed' := #[true, true, true, true, true, true, true, true, true, true, true, true, true, true, true, true, true, true, true, true, true, true, true, true, true, true, true, true, true, true, true, true, true, false, false, false, false, false]) rfl (fun _ _ _ h => h) (fun _ hm => ⟨hm.blkI 0 rfl, hm.blkI 1 rfl, hm.fact 0 rfl, hm.fact 1 rfl, trivial⟩) (ov_pick_f rfl rfl) rfl ?_
          refine wa_take 33 rfl (by kernel_rfl) (by kernel_rfl) (by kernel_rfl) (listed' := #[true, true, true, true, true, true, true, true, true, true, true, true, true, true, true, true, true, true, true, true, true, true, true, true, true, true, true, true, true, true, true, true, true, true, false, false, false, false]) rfl (fun _ _ _ h => h) (fun _ hm => ⟨hm.blkI 0 rfl, hm.blkI 1 rfl, hm.fact 0 rfl, hm.fact 1 rfl, trivial⟩) (ov_move rfl) rfl ?_
          refine wa_take_off 34 rfl rfl rfl (by decide) (by kernel_rfl) (by kernel_rfl) (by kernel_rfl) (listed' := #[true, true, true, true, true, true, true, true, true, true, true, true, true, true, true, true, true, true, true, true, true, true, true, true, true, true, true, true, true, true, true, true, true, true, true, false, false, false]) rfl (fun _ _ _ h => h) (fun _ hm => ⟨hm.blkI 0 rfl, hm.blkI 1 rfl, hm.fact 0 rfl, hm.fact 1 rfl, trivial⟩) rfl ?_
          refine wa_take_off 35 rfl rfl rfl (by decide) (by kernel_rfl) (by kernel_rfl) (by kernel_rfl) (listed' := #[true, true, true, true, true, true, true, true, true, true, true, true, true, true, true, true, true, true, true, true, true, true, true, true, true, true, true, true, true, true, true, true, true, true, true, true, false, false]) rfl (fun _ _ _ h => h) (fun _ hm => ⟨hm.blkI 0 rfl, hm.blkI 1 rfl, hm.fact 0 rfl, hm.fact 1 rfl, trivial⟩) rfl ?_
          refine wa_take_off 36 rfl rfl rfl (by decide) (by kernel_rfl) (by kernel_rfl) (by kernel_rfl) (listed' := #[true, true, true, true, true, true, true, true, true, true, true, true, true, true, true, true, true, true, true, true, true, true, true, true, true, true, true, true, true, true, true, true, true, true, true, true, true, false]) rfl (fun _ _ _ h => h) (fun _ hm => ⟨hm.blkI 0 rfl, hm.blkI 1 rfl, hm.fact 0 rfl, hm.fact 1 rfl, trivial⟩) rfl ?_
          refine wa_take 37 rfl (by kernel_rfl) (by kernel_rfl) (by kernel_rfl) (listed' := #[true, true, true, true, true, true, true, true, true, true, true, true, true, true, true, true, true, true, true, true, true, true, true, true, true, true, true, true, true, true, true, true, true, true, true, true, true, true]) rfl (fun _ _ _ h => h) (fun _ hm => ⟨hm.blkI 0 rfl, hm.blkI 1 rfl, hm.fact 0 rfl, hm.fact 1 rfl, trivial⟩) (ov_pick_f rfl rfl) rfl ?_
          refine wa_done (by kernel_rfl) ?_
          refine nx_then ?_
          refine gw_cond rfl (fun hh => by cases hh) (fun _ => ?_)
          refine gw_skip ?_
          refine nx_blk_nrm ?_
          refine nx_then ?_
          refine gw_region ?_
          refine wl_ov (ov_add rfl rfl (by omega) (by omega)) rfl ?_
          refine wl_ov (ov_move rfl) rfl ?_
          refine wl_nil ?_
          exact nx_round (i + 1, ky, mo) ⟨by dsimp only; omega, by rw [hstep]; unfold bestT; rw [if_neg (fun h => by rw [hcb] at h; exact absurd h.2.1 (by decide))]⟩ (by dsimp only; omega) ⟨rfl, rfl, rfl, rfl, rfl, rfl, rfl, rfl, rfl, rfl, (some_int (by omega)), trivial⟩ (fun _ hm => hm.pick [1] [] [0, 1] rfl rfl)
    · refine wa_set 32 rfl (congrArg Value.bool d1) ?_
      refine wa_take_off 5 rfl rfl rfl (by decide) (by kernel_rfl) (by kernel_rfl) (by kernel_rfl) (listed' := #[true, true, true, true, true, true, false, false, false, false, false, false, false, false, false, false, false, false, false, false, false, false, false, false, false, false, false, false, false, false, false, false, false, false, false, false, false, false]) rfl (fun _ _ _ h => h) (fun _ hm => ⟨hm.blkI 0 rfl, hm.blkI 1 rfl, hm.fact 0 rfl, hm.fact 1 rfl, trivial⟩) rfl ?_
      refine wa_take_off 6 rfl rfl rfl (by decide) (by kernel_rfl) (by kernel_rfl) (by kernel_rfl) (listed' := #[true, true, true, true, true, true, true, false, false, false, false, false, false, false, false, false, false, false, false, false, false, false, false, false, false, false, false, false, false, false, false, false, false, false, false, false, false, false]) rfl (fun _ _ _ h => h) (fun _ hm => ⟨hm.blkI 0 rfl, hm.blkI 1 rfl, hm.fact 0 rfl, hm.fact 1 rfl, trivial⟩) rfl ?_
      refine wa_take_off 7 rfl rfl rfl (by decide) (by kernel_rfl) (by kernel_rfl) (by kernel_rfl) (listed' := #[true, true, true, true, true, true, true, true, false, false, false, false, false, false, false, false, false, false, false, false, false, false, false, false, false, false, false, false, false, false, false, false, false, false, false, false, false, false]) rfl (fun _ _ _ h => h) (fun _ hm => ⟨hm.blkI 0 rfl, hm.blkI 1 rfl, hm.fact 0 rfl, hm.fact 1 rfl, trivial⟩) rfl ?_
      refine wa_take_off 8 rfl rfl rfl (by decide) (by kernel_rfl) (by kernel_rfl) (by kernel_rfl) (listed' := #[true, true, true, true, true, true, true, true, true, false, false, false, false, false, false, false, false, false, false, false, false, false, false, false, false, false, false, false, false, false, false, false, false, false, false, false, false, false]) rfl (fun _ _ _ h => h) (fun _ hm => ⟨hm.blkI 0 rfl, hm.blkI 1 rfl, hm.fact 0 rfl, hm.fact 1 rfl, trivial⟩) rfl ?_
      refine wa_take_undef 9 rfl rfl rfl (by kernel_rfl) (by kernel_rfl) (by kernel_rfl) (listed' := #[true, true, true, true, true, true, true, true, true, true, false, false, false, false, false, false, false, false, false, false, false, false, false, false, false, false, false, false, false, false, false, false, false, false, false, false, false, false]) rfl (fun _ _ _ h => h) (fun _ hm => ⟨hm.blkI 0 rfl, hm.blkI 1 rfl, hm.fact 0 rfl, hm.fact 1 rfl, trivial⟩) rfl ?_
      refine wa_take_undef 10 rfl rfl rfl (by kernel_rfl) (by kernel_rfl) (by kernel_rfl) (listed' := #[true, true, true, true, true, true, true, true, true, true, true, false, false, false, false, false, false, false, false, false, false, false, false, false, false, false, false, false, false, false, false, false, false, false, false, false, false, false]) rfl (fun _ _ _ h => h) (fun _ hm => ⟨hm.blkI 0 rfl, hm.blkI 1 rfl, hm.fact 0 rfl, hm.fact 1 rfl, trivial⟩) rfl ?_
      refine wa_take_undef 11 rfl rfl rfl (by kernel_rfl) (by kernel_rfl) (by kernel_rfl) (listed' := #[true, true, true, true, true, true, true, true, true, true, true, true, false, false, false, false, false, false, false, false, false, false, false, false, false, false, false, false, false, false, false, false, false, false, false, false, false, false]) rfl (fun _ _ _ h => h) (fun _ hm => ⟨hm.blkI 0 rfl, hm.blkI 1 rfl, hm.fact 0 rfl, hm.fact 1 rfl, trivial⟩) rfl ?_
      refine wa_take_undef 12 rfl rfl rfl (by kernel_rfl) (by kernel_rfl) (by kernel_rfl) (listed' := #[true, true, true, true, true, true, true, true, true, true, true, true, true, false, false, false, false, false, false, false, false, false, false, false, false, false, false, false, false, false, false, false, false, false, false, false, false, false]) rfl (fun _ _ _ h => h) (fun _ hm => ⟨hm.blkI 0 rfl, hm.blkI 1 rfl, hm.fact 0 rfl, hm.fact 1 rfl, trivial⟩) rfl ?_
      refine wa_take_off 13 rfl rfl rfl (by decide) (by kernel_rfl) (by kernel_rfl) (by kernel_rfl) (listed' := #[true, true, true, true, true, true, true, true, true, true, true, true, true, true, false, false, false, false, false, false, false, false, false, false, false, false, false, false, false, false, false, false, false, false, false, false, false, false]) rfl (fun _ _ _ h => h) (fun _ hm => ⟨hm.blkI 0 rfl, hm.blkI 1 rfl, hm.fact 0 rfl, hm.fact 1 rfl, trivial⟩) rfl ?_
      refine wa_take 14 rfl (by kernel_rfl) (by kernel_rfl) (by kernel_rfl) (listed' := #[true, true, true, true, true, true, true, true, true, true, true, true, true, true, true, false, false, false, false, false, false, false, false, false, false, false, false, false, false, false, false, false, false, false, false, false, false, false]) rfl (fun _ _ _ h => h) (fun _ hm => ⟨hm.blkI 0 rfl, hm.blkI 1 rfl, hm.fact 0 rfl, hm.fact 1 rfl, trivial⟩) (ov_pick_f rfl rfl) rfl ?_
      refine wa_take 15 rfl (by kernel_rfl) (by kernel_rfl) (by kernel_rfl) (listed' := #[true, true, true, true, true, true, true, true, true, true, true, true, true, true, true, true, false, false, false, false, false, false, false, false, false, false, false, false, false, false, false, false, false, false, false, false, false, false]) rfl (fun _ _ _ h => h) (fun _ hm => ⟨hm.blkI 0 rfl, hm.blkI 1 rfl, hm.fact 0 rfl, hm.fact 1 rfl, trivial⟩) (ov_move rfl) rfl ?_
      refine wa_take_off 16 rfl rfl rfl (by decide) (by kernel_rfl) (by kernel_rfl) (by kernel_rfl) (listed' := #[true, true, true, true, true, true, true, true, true, true, true, true, true, true, true, true, true, false, false, false, false, false, false, false, false, false, false, false, false, false, false, false, false, false, false, false, false, false]) rfl (fun _ _ _ h => h) (fun _ hm => ⟨hm.blkI 0 rfl, hm.blkI 1 rfl, hm.fact 0 rfl, hm.fact 1 rfl, trivial⟩) rfl ?_
      refine wa_take_off 17 rfl rfl rfl (by decide) (by kernel_rfl) (by kernel_rfl) (by kernel_rfl) (listed' := #[true, true, true, true, true, true, true, true, true, true, true, true, true, true, true, true, true, true, false, false, false, false, false, false, false, false, false, false, false, false, false, false, false, false, false, false, false, false]) rfl (fun _ _ _ h => h) (fun _ hm => ⟨hm.blkI 0 rfl, hm.blkI 1 rfl, hm.fact 0 rfl, hm.fact 1 rfl, trivial⟩) rfl ?_
      refine wa_take_off 18 rfl rfl rfl (by decide) (by kernel_rfl) (by kernel_rfl) (by kernel_rfl) (listed' := #[true, true, true, true, true, true, true, true, true, true, true, true, true, true, true, true, true, true, true, false, false, false, false, false, false, false, false, false, false, false, false, false, false, false, false, false, false, false]) rfl (fun _ _ _ h => h) (fun _ hm => ⟨hm.blkI 0 rfl, hm.blkI 1 rfl, hm.fact 0 rfl, hm.fact 1 rfl, trivial⟩) rfl ?_
      refine wa_take_off 19 rfl rfl rfl (by decide) (by kernel_rfl) (by kernel_rfl) (by kernel_rfl) (listed' := #[true, true, true, true, true, true, true, true, true, true, true, true, true, true, true, true, true, true, true, true, false, false, false, false, false, false, false, false, false, false, false, false, false, false, false, false, false, false]) rfl (fun _ _ _ h => h) (fun _ hm => ⟨hm.blkI 0 rfl, hm.blkI 1 rfl, hm.fact 0 rfl, hm.fact 1 rfl, trivial⟩) rfl ?_
      refine wa_take_off 20 rfl rfl rfl (by decide) (by kernel_rfl) (by kernel_rfl) (by kernel_rfl) (listed' := #[true, true, true, true, true, true, true, true, true, true, true, true, true, true, true, true, true, true, true, true, true, false, false, false, false, false, false, false, false, false, false, false, false, false, false, false, false, false]) rfl (fun _ _ _ h => h) (fun _ hm => ⟨hm.blkI 0 rfl, hm.blkI 1 rfl, hm.fact 0 rfl, hm.fact 1 rfl, trivial⟩) rfl ?_
      refine wa_take_off 21 rfl rfl rfl (by decide) (by kernel_rfl) (by kernel_rfl) (by kernel_rfl) (listed' := #[true, true, true, true, true, true, true, true, true, true, true, true, true, true, true, true, true, true, true, true, true, true, false, false, false, false, false, false, false, false, false, false, false, false, false, false, false, false]) rfl (fun _ _ _ h => h) (fun _ hm => ⟨hm.blkI 0 rfl, hm.blkI 1 rfl, hm.fact 0 rfl, hm.fact 1 rfl, trivial⟩) rfl ?_
      refine wa_take_off 22 rfl rfl rfl (by decide) (by kernel_rfl) (by kernel_rfl) (by kernel_rfl) (listed' := #[true, true, true, true, true, true, true, true, true, true, true, true, true, true, true, true, true, true, true, true, true, true, true, false, false, false, false, false, false, false, false, false, false, false, false, false, false, false]) rfl (fun _ _ _ h => h) (fun _ hm => ⟨hm.blkI 0 rfl, hm.blkI 1 rfl, hm.fact 0 rfl, hm.fact 1 rfl, trivial⟩) rfl ?_
      refine wa_take_off 23 rfl rfl rfl (by decide) (by kernel_rfl) (by kernel_rfl) (by kernel_rfl) (listed' := #[true, true, true, true, true, true, true, true, true, true, true, true, true, true, true, true, true, true, true, true, true, true, true, true, false, false, false, false, false, false, false, false, false, false, false, false, false, false]) rfl (fun _ _ _ h => h) (fun _ hm => ⟨hm.blkI 0 rfl, hm.blkI 1 rfl, hm.fact 0 rfl, hm.fact 1 rfl, trivial⟩) rfl ?_
      refine wa_take_off 24 rfl rfl rfl (by decide) (by kernel_rfl) (by kernel_rfl) (by kernel_rfl) (listed' := #[true, true, true, true, true, true, true, true, true, true, true, true, true, true, true, true, true, true, true, true, true, true, true, true, true, false, false, false, false, false, false, false, false, false, false, false, false, false]) rfl (fun _ _ _ h => h) (fun _ hm => ⟨hm.blkI 0 rfl, hm.blkI 1 rfl, hm.fact 0 rfl, hm.fact 1 rfl, trivial⟩) rfl ?_
      refine wa_take 25 rfl (by kernel_rfl) (by kernel_rfl) (by kernel_rfl) (listed' := #[true, true, true, true, true, true, true, true, true, true, true, true, true, true, true, true, true, true, true, true, true, true, true, true, true, true, false, false, false, false, false, false, false, false, false, false, false, false]) rfl (fun _ _ _ h => h) (fun _ hm => ⟨hm.blkI 0 rfl, hm.blkI 1 rfl, hm.fact 0 rfl, hm.fact 1 rfl, trivial⟩) (ov_pick_f rfl rfl) rfl ?_
      refine wa_take 26 rfl (by kernel_rfl) (by kernel_rfl) (by kernel_rfl) (listed' := #[true, true, true, true, true, true, true, true, true, true, true, true, true, true, true, true, true, true, true, true, true, true, true, true, true, true, true, false, false, false, false, false, false, false, false, false, false, false]) rfl (fun _ _ _ h => h) (fun _ hm => ⟨hm.blkI 0 rfl, hm.blkI 1 rfl, hm.fact 0 rfl, hm.fact 1 rfl, trivial⟩) (ov_move rfl) rfl ?_
      refine wa_take_off 27 rfl rfl rfl (by decide) (by kernel_rfl) (by kernel_rfl) (by kernel_rfl) (listed' := #[true, true, true, true, true, true, true, true, true, true, true, true, true, true, true, true, true, true, true, true, true, true, true, true, true, true, true, true, false, false, false, false, false, false, false, false, false, false]) rfl (fun _ _ _ h => h) (fun _ hm => ⟨hm.blkI 0 rfl, hm.blkI 1 rfl, hm.fact 0 rfl, hm.fact 1 rfl, trivial⟩) rfl ?_
      refine wa_take_off 28 rfl rfl rfl (by decide) (by kernel_rfl) (by kernel_rfl) (by kernel_rfl) (listed' := #[true, true, true, true, true, true, true, true, true, true, true, true, true, true, true, true, true, true, true, true, true, true, true, true, true, true, true, true, true, false, false, false, false, false, false, false, false, false]) rfl (fun _ _ _ h => h) (fun _ hm => ⟨hm.blkI 0 rfl, hm.blkI 1 rfl, hm.fact 0 rfl, hm.fact 1 rfl, trivial⟩) rfl ?_
      refine wa_take_off 29 rfl rfl rfl (by decide) (by kernel_rfl) (by kernel_rfl) (by kernel_rfl) (listed' := #[true, true, true, true, true, true, true, true, true, true, true, true, true, true, true, true, true, true, true, true, true, true, true, true, true, true, true, true, true, true, false, false, false, false, false, false, false, false]) rfl (fun _ _ _ h => h) (fun _ hm => ⟨hm.blkI 0 rfl, hm.blkI 1 rfl, hm.fact 0 rfl, hm.fact 1 rfl, trivial⟩) rfl ?_
      refine wa_take_off 30 rfl rfl rfl (by decide) (by kernel_rfl) (by kernel_rfl) (by kernel_rfl) (listed' := #[true, true, true, true, true, true, true, true, true, true, true, true, true, true, true, true, true, true, true, true, true, true, true, true, true, true, true, true, true, true, true, false, false, false, false, false, false, false]) rfl (fun _ _ _ h => h) (fun _ hm => ⟨hm.blkI 0 rfl, hm.blkI 1 rfl, hm.fact 0 rfl, hm.fact 1 rfl, trivial⟩) rfl ?_
      refine wa_take_off 31 rfl rfl rfl (by decide) (by kernel_rfl) (by kernel_rfl) (by kernel_rfl) (listed' := #[true, true, true, true, true, true, true, true, true, true, true, true, true, true, true, true, true, true, true, true, true, true, true, true, true, true, true, true, true, true, true, true, false, false, false, false, false, false]) rfl (fun _ _ _ h => h) (fun _ hm => ⟨hm.blkI 0 rfl, hm.blkI 1 rfl, hm.fact 0 rfl, hm.fact 1 rfl, trivial⟩) rfl ?_
      refine wa_take 32 rfl (by kernel_rfl) (by kernel_rfl) (by kernel_rfl) (listed' := #[true, true, true, true, true, true, true, true, true, true, true, true, true, true, true, true, true, true, true, true, true, true, true, true, true, true, true, true, true, true, true, true, true, false, false, false, false, false]) rfl (fun _ _ _ h => h) (fun _ hm => ⟨hm.blkI 0 rfl, hm.blkI 1 rfl, hm.fact 0 rfl, hm.fact 1 rfl, trivial⟩) (ov_pick_f rfl rfl) rfl ?_
      refine wa_take 33 rfl (by kernel_rfl) (by kernel_rfl) (by kernel_rfl) (listed' := #[true, true, true, true, true, true, true, true, true, true, true, true, true, true, true, true, true, true, true, true, true, true, true, true, true, true, true, true, true, true, true, true, true, true, false, false, false, false]) rfl (fun _ _ _ h => h) (fun _ hm => ⟨hm.blkI 0 rfl, hm.blkI 1 rfl, hm.fact 0 rfl, hm.fact 1 rfl, trivial⟩) (ov_move rfl) rfl ?_
      refine wa_take_off 34 rfl rfl rfl (by decide) (by kernel_rfl) (by kernel_rfl) (by kernel_rfl) (listed' := #[true, true, true, true, true, true, true, true, true, true, true, true, true, true, true, true, true, true, true, true, true, true, true, true, true, true, true, true, true, true, true, true, true, true, true, false, false, false]) rfl (fun _ _ _ h => h) (fun _ hm => ⟨hm.blkI 0 rfl, hm.blkI 1 rfl, hm.fact 0 rfl, hm.fact 1 rfl, trivial⟩) rfl ?_
      refine wa_take_off 35 rfl rfl rfl (by decide) (by kernel_rfl) (by kernel_rfl) (by kernel_rfl) (listed' := #[true, true, true, true, true, true, true, true, true, true, true, true, true, true, true, true, true, true, true, true, true, true, true, true, true, true, true, true, true, true, true, true, true, true, true, true, false, false]) rfl (fun _ _ _ h => h) (fun _ hm => ⟨hm.blkI 0 rfl, hm.blkI 1 rfl, hm.fact 0 rfl, hm.fact 1 rfl, trivial⟩) rfl ?_
      refine wa_take_off 36 rfl rfl rfl (by decide) (by kernel_rfl) (by kernel_rfl) (by kernel_rfl) (listed' := #[true, true, true, true, true, true, true, true, true, true, true, true, true, true, true, true, true, true, true, true, true, true, true, true, true, true, true, true, true, true, true, true, true, true, true, true, true, false]) rfl (fun _ _ _ h => h) (fun _ hm => ⟨hm.blkI 0 rfl, hm.blkI 1 rfl, hm.fact 0 rfl, hm.fact 1 rfl, trivial⟩) rfl ?_
      refine wa_take 37 rfl (by kernel_rfl) (by kernel_rfl) (by kernel_rfl) (listed' := #[true, true, true, true, true, true, true, true, true, true, true, true, true, true, true, true, true, true, true, true, true, true, true, true, true, true, true, true, true, true, true, true, true, true, true, true, true, true]) rfl (fun _ _ _ h => h) (fun _ hm => ⟨hm.blkI 0 rfl, hm.blkI 1 rfl, hm.fact 0 rfl, hm.fact 1 rfl, trivial⟩) (ov_pick_f rfl rfl) rfl ?_
      refine wa_done (by kernel_rfl) ?_
      refine nx_then ?_
      refine gw_cond rfl (fun hh => by cases hh) (fun _ => ?_)
      refine gw_skip ?_
      refine nx_blk_nrm ?_
      refine nx_then ?_
      refine gw_region ?_
      refine wl_ov (ov_add rfl rfl (by omega) (by omega)) rfl ?_
      refine wl_ov (ov_move rfl) rfl ?_
      refine wl_nil ?_
      exact nx_round (i + 1, ky, mo) ⟨by dsimp only; omega, by rw [hstep]; unfold bestT; rw [if_neg (fun h => by rw [d1] at h; exact absurd h.1 (by decide))]⟩ (by dsimp only; omega) ⟨rfl, rfl, rfl, rfl, rfl, rfl, rfl, rfl, rfl, rfl, (some_int (by omega)), trivial⟩ (fun _ hm => hm.pick [1] [] [0, 1] rfl rfl)
  · have hi : ¬ (((i : Nat) : Int) < ((n : Nat) : Int)) := by simpa using hh
    clear hh
    refine gw_exit ?_
    refine nx_then_exit ?_
    refine nx_then_exit ?_
    refine nx_blk_here ?_
    refine nx_then ?_
    refine gw_seq ?_
    refine gw_region ?_
    have hin1 : i = n := by omega
    subst hin1
    rw [List.take_of_length_le (by omega)] at hi1
    have hv : bestC l ks cls fr tt cents = (ky, mo) := by unfold bestC; rw [hi1]
    refine wl_ov (ov_move rfl) rfl ?_
    refine wl_ov (ov_move rfl) rfl ?_
    refine wl_ov (ov_max rfl rfl) rfl ?_
    refine wl_ov (ov_assign rfl) rfl ?_
    refine wl_ov (ov_assign rfl) rfl ?_
    refine wl_nil ?_
    refine nx_then ?_
    refine gw_ret ?_
    refine nx_ret2 rfl rfl rfl fun wx hm => ?_
    exact ⟨by rw [hv], hm.g⟩

end Go.Proofs.YtmpomocahgcebaaDoor
