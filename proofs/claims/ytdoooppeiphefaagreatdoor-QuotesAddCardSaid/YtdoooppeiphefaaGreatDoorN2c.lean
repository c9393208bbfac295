/- Several texts as one: Tu To Tq Va He Hf Hg Hh Hk Ln Tot Gt Lf Vc Ua -/
import Derived.Test.YtdoooppeiphefaaGreatDoorN2b
import Derived.Test.YtdoooppeiphefaaGreatDoorN2a
import Derived.Deep.RegionHeld3
import Derived.Laws.ResultCell
import Derived.IntWalk
set_option maxRecDepth 100000
set_option maxHeartbeats 4000000
namespace Go.Proofs.YtdoooppeiphefaaGreatDoor
open Go.RowKit
def bestCE (l : List Cd) (ks : List ByteArray) (cls : ByteArray) (fr tt cents : Int) : Int := firstE [codesE l, askE (fun k => l.any (codeP k)) ks, whenE (!keyB cls) 5, timeE fr tt, whenE (!inB cents 0 1000000000) 1]
def bestV (l : List Cd) (ks : List ByteArray) (cls : ByteArray) (fr tt cents : Int) : ByteArray × Int := if bestCE l ks cls fr tt cents = 0 then bestK l ks cls fr tt cents else (⟨#[]⟩, 0)
section
variable {l : List Cd} {ks : List ByteArray} {cls k : ByteArray} {fr tt cents : Int} {st : ByteArray × Int} {j : Nat} {c : Cd}
theorem bestS_no (hix : ixP (codeP k) l 0 = (j : Int)) (hc : l[j]? = some c) (h : countsB c cls fr tt = false) : bestS l cls fr tt cents st k = st := by
  unfold bestS; rw [hix, Int.toNat_natCast, hc]; dsimp only; rw [if_neg (fun e => by rw [h] at e; exact absurd e.1 (by decide))]
theorem bestS_yes (hix : ixP (codeP k) l 0 = (j : Int)) (hc : l[j]? = some c) (h : countsB c cls fr tt = true) (hb : emptyS st.1 = true ∨ st.2 < offV cents c ∨ (offV cents c = st.2 ∧ ltS k st.1 = true)) : bestS l cls fr tt cents st k = (k, offV cents c) := by
  unfold bestS; rw [hix, Int.toNat_natCast, hc]; dsimp only; rw [if_pos ⟨h, hb⟩]
theorem bestS_keep (hix : ixP (codeP k) l 0 = (j : Int)) (hc : l[j]? = some c) (hb : ¬ (emptyS st.1 = true ∨ st.2 < offV cents c ∨ (offV cents c = st.2 ∧ ltS k st.1 = true))) : bestS l cls fr tt cents st k = st := by
  unfold bestS; rw [hix, Int.toNat_natCast, hc]; dsimp only; rw [if_neg (fun e => hb e.2)]
theorem fold_take {α β : Type} (f : β → α → β) (z : β) {l : List α} {i : Nat} {x : α} (h : l[i]? = some x) : (l.take (i + 1)).foldl f z = f ((l.take i).foldl f z) x := by
  obtain ⟨hi, rfl⟩ := List.getElem?_eq_some_iff.1 h
  rw [List.take_add_one, List.getElem?_eq_getElem hi, List.foldl_append]; rfl
theorem counts_yes (h1 : emptyS c.cls = true ∨ (c.cls.toList == cls.toList) = true) (h2 : inB (fr / 1440) c.fr (c.to_ - 1) = true) (h3 : c.days ≤ daysV fr tt) : countsB c cls fr tt = true := by
  unfold countsB
  rw [h2, decide_eq_true h3]
  rcases h1 with h1 | h1 <;> rw [h1] <;> simp
theorem counts_cls (h1 : emptyS c.cls = false) (h2 : (c.cls.toList == cls.toList) = false) : countsB c cls fr tt = false := by unfold countsB; rw [h1, h2]; rfl
theorem counts_in (h : inB (fr / 1440) c.fr (c.to_ - 1) = false) : countsB c cls fr tt = false := by unfold countsB; rw [h]; simp
theorem counts_days (h : ¬ c.days ≤ daysV fr tt) : countsB c cls fr tt = false := by unfold countsB; rw [decide_eq_false h]; simp
theorem off_bound {m : Int} (h0 : 0 ≤ cents) (h1 : cents ≤ 1000000000) (h2 : 1 ≤ m) (h3 : m ≤ 1000) : 0 ≤ cents * m ∧ cents * m ≤ 1000000000000 := by
  have a := Int.mul_nonneg h0 (show 0 ≤ m by omega)
  have b := Int.mul_le_mul h1 h3 (by omega) (by omega)
  exact ⟨a, by omega⟩
end
theorem tBestCode_any (l : List Cd) (A : Option Addr) (n c0 : Nat) (ks : List ByteArray) (A1 : Option Addr) (n1 c1 : Nat) (cls : ByteArray) (fr tt cents : Int) (w : World) (hl : SlT cdEnc 6 354 w A n l) (hok : ∀ b ∈ l, CdOk b) (hn : n ≤ 1000000) (hs : SlT sgEnc 1 9 w A1 n1 ks) (hn1 : n1 ≤ 1000000) (hc1 : n1 ≤ c1) (hcl : cls.size ≤ 1000000) :
  Calls Tryz.prog 211 #[.slice A n c0, .slice A1 n1 c1, .string cls, .agg #[.int .i64 fr, .int .i64 tt], .int .i64 cents] w (fun e w' => e = .returned (.tuple #[.string (bestV l ks cls fr tt cents).1, .int .i64 (bestV l ks cls fr tt cents).2, .int .i64 (bestCE l ks cls fr tt cents)]) ∧ w.grownBy w' none) := by
 refine gw_enter ⟨114, w, none, []⟩ Tryz.func211 rfl Tryz.ntmps211 rfl (mem0 (X := [SlOld cdEnc 6 354 w.heap.size none A n l, SlOld sgEnc 1 9 w.heap.size none A1 n1 ks]) (allF_cons hl.old (allF_cons hs.old allF_nil)) (allL_cons SlOld.lasts (allL_cons SlOld.lasts allL_nil))) ?_
 refine sr_ ?_
 have hlen := hl.len
 have hslen := hs.len
 obtain ⟨XE, hXE⟩ : ∃ E, E = codesE l := ⟨_, rfl⟩
 obtain ⟨AE, hAE⟩ : ∃ E, E = askE (fun k => l.any (codeP k)) ks := ⟨_, rfl⟩
 have hBE : bestCE l ks cls fr tt cents = firstE [XE, AE, whenE (!keyB cls) 5, timeE fr tt, whenE (!inB cents 0 1000000000) 1] := by unfold bestCE; rw [← hXE, ← hAE]
 refine wl_box rfl rfl rfl fun g1 => ?_
 refine wl_box rfl rfl rfl fun g2 => ?_
 refine sg_ rfl (sg_ rfl (sg_ rfl (nn_ (gw_seq (sr_ (lk_ sc74 1 rfl rfl rfl ?_))))))
 refine wl_callv (v := .int .i64 XE) rfl cb207 rfl rfl (fun wx hm => (by rw [hXE]; exact checkCodes_any l A n c0 wx (hm.fact 0 rfl).1 hok hn)) ?_
 refine sg_ rfl (nn_ (sr_ (mv_ rfl (wl_ov (ov_neq rfl rfl) rfl (nn_ ?_)))))
 refine gw_cond rfl (fun hh => ?_) (fun hh => ?_)
 ·have hx : ¬ (XE = 0) := by simpa using hh
  clear hh
  refine sr_ (mv_ rfl (sg_ rfl (sg_ rfl (sg_ rfl (nn_ ?_)))))
  refine gw_ret ?_
  refine nx_then_ret ?_
  refine nx_ret3 rfl rfl rfl rfl fun wx hm => ?_
  have he : bestCE l ks cls fr tt cents = XE := by rw [hBE]; unfold firstE; rw [if_neg hx]
  refine ⟨?_, hm.g⟩
  unfold bestV
  rw [he, if_neg hx]
 have hx : XE = 0 := by simpa using hh
 clear hh
 refine gw_skip (nx_then (gw_seq (gw_seq ?_)))
 have hBE2 : bestCE l ks cls fr tt cents = firstE [AE, whenE (!keyB cls) 5, timeE fr tt, whenE (!inB cents 0 1000000000) 1] := by rw [hBE]; unfold firstE; rw [if_pos hx]; rfl
 refine gd (fun wz => Blk wz g2 39 [.int .i64 fr, .int .i64 tt] ∧ Blk wz g1 74 [.slice A n c0] ∧ (SlOld cdEnc 6 354 w.heap.size none A n l) wz ∧ (SlOld sgEnc 1 9 w.heap.size none A1 n1 ks) wz ∧ True) mixed (fun _ hm => ⟨hm.bl 0, hm.bl 1, hm.fa 0, hm.fa 1, trivial⟩) fun z => ?_
 refine wt 0 16 1 rfl z (ov_move rfl) ?_
 refine wt 1 16 3 rfl z (ov_makeFunc rfl rfl) ?_
 refine wt 3 16 11 rfl z (ov_move rfl) ?_
 refine wt 7 16 139 rfl z (ov_loads rz39 rfl (fun _ hm => hm.1) rfl rfl) ?_
 refine wt 9 16 651 rfl z (ov_move rfl) ?_
 refine wa1 2 rfl ?_
 refine wl_callv (v := .int .i64 AE) rfl cb208 rfl rfl (fun wx hm => (by rw [hAE]; exact checkAsked_codes l A n c0 ks A1 n1 c1 _ wx (hm.fact 0 rfl).1 hn (hm.fact 1 rfl).1 hn1 hc1 (hm.blkI 1 rfl))) ?_
 refine wl_nil ?_
 refine nw 16 655 (fun _ hm => ⟨hm.bl 0, hm.bl 1, hm.fa 0, hm.fa 1, trivial⟩) fun z => ?_
 refine wa1 4 rfl ?_
 refine wl_callw rfl cb112 rfl rfl (fun wx hm => (isKey_any _ wx (by omega))) ?_
 refine wl_nil ?_
 refine nw 16 671 (fun _ hm => ⟨hm.bl 0, hm.bl 1, hm.fa 0, hm.fa 1, trivial⟩) fun z => ?_
 refine wt 5 16 703 rfl z (ov_un_not rfl) ?_
 refine wa1 6 rfl ?_
 refine wl_callw rfl cb67 rfl rfl (fun wx hm => (when_any _ _ wx)) ?_
 refine wl_nil ?_
 refine nw 16 767 (fun _ hm => ⟨hm.bl 0, hm.bl 1, hm.fa 0, hm.fa 1, trivial⟩) fun z => ?_
 refine wa1 8 rfl ?_
 refine wl_callv rfl cb114 rfl rfl (fun wx hm => (time_any _ _ wx)) ?_
 refine wl_nil ?_
 refine nw 16 1023 (fun _ hm => ⟨hm.bl 0, hm.bl 1, hm.fa 0, hm.fa 1, trivial⟩) fun z => ?_
 refine wa1 10 rfl ?_
 refine wl_callw rfl cb169 rfl rfl (fun wx hm => (in_any _ _ _ wx)) ?_
 refine wl_nil ?_
 refine nw 16 2047 (fun _ hm => ⟨hm.bl 0, hm.bl 1, hm.fa 0, hm.fa 1, trivial⟩) fun z => ?_
 refine wt 11 16 4095 rfl z (ov_un_not rfl) ?_
 refine wa1 12 rfl ?_
 refine wl_callw rfl cb67 rfl rfl (fun wx hm => (when_any _ _ wx)) ?_
 refine wl_nil ?_
 refine nw 16 8191 (fun _ hm => ⟨hm.bl 0, hm.bl 1, hm.fa 0, hm.fa 1, trivial⟩) fun z => ?_
 refine wa1 13 rfl ?_
 refine wl_buildSlice (e := 33) (cs := [.int .i64 AE, .int .i64 (whenE (!(keyB cls)) 5), .int .i64 (timeE fr tt), .int .i64 (whenE (!(inB cents 0 1000000000)) 1)]) rfl (by kernel_rfl) rfl fun g3 => ?_
 refine wl_nil ?_
 refine nw 16 16383 (fun _ hm => ⟨hm.bl 1, hm.bl 2, hm.fa 0, hm.fa 1, trivial⟩) fun z => ?_
 refine wa1 14 rfl ?_
 refine wl_callw rfl cb66 rfl rfl (fun wx hm => (first_any [AE, whenE (!(keyB cls)) 5, timeE fr tt, whenE (!(inB cents 0 1000000000)) 1] _ _ _ wx (hm.blkI 0 rfl) (by simp))) ?_
 refine wl_nil ?_
 refine nw 16 32767 (fun _ hm => ⟨hm.bl 1, hm.bl 2, hm.fa 0, hm.fa 1, trivial⟩) fun z => ?_
 refine wt 15 16 65535 rfl z (ov_assign rfl) ?_
 refine wa_done (by kernel_rfl) ?_
 refine nx_then (sr_ (mv_ rfl (wl_ov (ov_neq rfl rfl) rfl (nn_ ?_))))
 refine gw_cond rfl (fun hh => ?_) (fun hh => ?_)
 ·have hz : ¬ (firstE [AE, whenE (!(keyB cls)) 5, timeE fr tt, whenE (!(inB cents 0 1000000000)) 1] = 0) := by simpa using hh
  clear hh
  refine sr_ (mv_ rfl (sg_ rfl (sg_ rfl (sg_ rfl (nn_ ?_)))))
  refine gw_ret ?_
  refine nx_then_ret ?_
  refine nx_ret3 rfl rfl rfl rfl fun wx hm => ?_
  refine ⟨?_, hm.g⟩
  unfold bestV
  rw [hBE2, if_neg hz]
 have hz : firstE [AE, whenE (!(keyB cls)) 5, timeE fr tt, whenE (!(inB cents 0 1000000000)) 1] = 0 := by simpa using hh
 clear hh
 refine gw_skip (nx_then (sr_ ?_))
 have hzz := fe_all hz
 have hcodes : codesE l = 0 := hXE.symm.trans hx
 have hask : askE (fun k => l.any (codeP k)) ks = 0 := hAE.symm.trans (hzz AE (by simp))
 have hin := (askE_ok hask).2
 obtain ⟨h0, hlt, htt, _⟩ := timeE_ok (hzz (timeE fr tt) (by simp))
 have hct : inB cents 0 1000000000 = true := by simpa using we_ok (by decide) (hzz (whenE (!inB cents 0 1000000000) 1) (by simp))
 have hct := inB_iff.1 hct
 have hct0 := hct.1
 have hct1 := hct.2
 have hB0 : bestCE l ks cls fr tt cents = 0 := hBE2.trans hz
 refine sg_ rfl (sg_ rfl (nn_ (gw_seq (sr_ (mv_ rfl (wl_ov (ov_len es79 rfl) rfl (mv_ rfl (nn_ (gw_block ?_)))))))))
 refine gw_loop (γ := Nat × ByteArray × Int) (fun g => g.1 ≤ n1 ∧ (g.2.1, g.2.2) = (ks.take g.1).foldl (bestS l cls fr tt cents) (⟨#[]⟩, 0)) (fun g => [(2, .string cls), (4, .int .i64 cents), (5, .pointer (some ⟨g1, 0, none⟩)), (8, .pointer (some ⟨g2, 0, none⟩)), (10, .string ⟨#[]⟩), (11, .int .i64 0), (12, .int .i64 0), (15, .string g.2.1), (16, .int .i64 g.2.2), (45, .slice A1 n1 c1), (46, .int .i64 ((n1 : Nat) : Int)), (47, .int .i64 ((g.1 : Nat) : Int))]) (fun g => fun _ => True) (fun g => [(g3, 33, [.int .i64 AE, .int .i64 (whenE (!(keyB cls)) 5), .int .i64 (timeE fr tt), .int .i64 (whenE (!(inB cents 0 1000000000)) 1)]), (g2, 39, [.int .i64 fr, .int .i64 tt]), (g1, 74, [.slice A n c0])]) (fun g => []) (fun g => [SlOld cdEnc 6 354 w.heap.size none A n l, SlOld sgEnc 1 9 w.heap.size none A1 n1 ks]) (fun g => n1 - g.1) (0, ⟨#[]⟩, 0) ⟨Nat.zero_le _, rfl⟩ ⟨rfl, rfl, rfl, rfl, rfl, rfl, rfl, rfl, rfl, rfl, rfl, rfl, trivial⟩ (fun _ hm => hm.pick [0, 1, 2] [] [0, 1] rfl rfl) ?_
 rintro ⟨i, ky, mo⟩ hinv
 replace hinv : i ≤ n1 ∧ (ky, mo) = (ks.take i).foldl (bestS l cls fr tt cents) (⟨#[]⟩, 0) := hinv
 dsimp only
 refine sr_ ?_
 obtain ⟨hi0, hi1⟩ := hinv
 refine wl_ov (ov_lss rfl rfl) rfl (nn_ (gw_seq ?_))
 refine gw_cond rfl (fun hh => ?_) (fun hh => ?_)
 ·have hi : ((i : Nat) : Int) < ((n1 : Nat) : Int) := by simpa using hh
  clear hh
  refine gw_skip (nx_then (gw_seq (gw_block (sr_ ?_))))
  obtain ⟨b1, off1, hA, _, _⟩ := hs.get (by omega)
  subst hA
  obtain ⟨k, hks⟩ : ∃ x, ks[i]? = some x := ⟨_, List.getElem?_eq_getElem (by omega)⟩
  have hik : l.any (codeP k) = true := hin k (List.mem_of_getElem? hks)
  rw [← ix_any] at hik
  obtain ⟨IX, hIX⟩ : ∃ E, E = ixP (codeP k) l 0 := ⟨_, rfl⟩
  obtain ⟨y, hy, _⟩ := ixP_get (p := codeP k) (l := l) (of_decide_eq_true hik)
  rw [← hIX] at hy
  have hIX0 : 0 ≤ IX := by rw [hIX]; exact of_decide_eq_true hik
  obtain ⟨j, hj⟩ := Int.eq_ofNat_of_zero_le hIX0
  subst hj
  rw [Int.toNat_natCast] at hy
  have hjn : j < n := by have := (List.getElem?_eq_some_iff.1 hy).1; omega
  obtain ⟨_, ⟨f1, f2, f3⟩, ⟨f4, f5⟩, f6, f7⟩ := (codesE_ok hcodes).2.2 y (List.mem_of_getElem? hy)
  obtain ⟨ke, cl, cf, ct, dy, mi⟩ := y
  dsimp only at f1 f2 f3 f4 f5 f6 f7
  have hob := off_bound hct0 hct1 f6 f7
  have hob0 := hob.1
  have hob1 := hob.2
  have hstep := fold_take (bestS l cls fr tt cents) (⟨#[]⟩, 0) hks
  rw [← hi1] at hstep
  obtain ⟨b, off, hA, _, _⟩ := hl.get (by omega)
  subst hA
  refine wl_ov (ov_index (j := i) es79 rfl rfl (by omega)) rfl ?_
  refine wl_ov (ov_elem1 (k := 0) (v := .string k) sc9 rfl (fun _ hm => (hm.fact 1 rfl).1) hks rfl rfl) rfl ?_
  refine sg_ rfl (nn_ ?_)
  refine gw_cut (γ := Nat) (I := (fun (gz : Nat) => True)) (S' := (fun (gz : Nat) => [(2, .string cls), (4, .int .i64 cents), (5, .pointer (some ⟨g1, 0, none⟩)), (8, .pointer (some ⟨g2, 0, none⟩)), (10, .string ⟨#[]⟩), (11, .int .i64 0), (12, .int .i64 0), (15, .string ky), (16, .int .i64 mo), (18, .string k), (19, .pointer (some ⟨gz, 0, none⟩)), (45, .slice (some ⟨b1, off1, none⟩) n1 c1), (46, .int .i64 ((n1 : Nat) : Int)), (47, .int .i64 ((i : Nat) : Int))])) (K' := (fun (gz : Nat) => fun _ => True)) (L' := (fun (gz : Nat) => [(g3, 33, [.int .i64 AE, .int .i64 (whenE (!(keyB cls)) 5), .int .i64 (timeE fr tt), .int .i64 (whenE (!(inB cents 0 1000000000)) 1)]), (g2, 39, [.int .i64 fr, .int .i64 tt]), (g1, 74, [.slice (some ⟨b, off, none⟩) n c0]), (gz, 354, [.string ke, .string cl, .int .i64 cf, .int .i64 ct, .int .i64 dy, .int .i64 mi])])) (O' := (fun (gz : Nat) => [])) (X' := (fun (gz : Nat) => [SlOld cdEnc 6 354 w.heap.size none (some ⟨b, off, none⟩) n l, SlOld sgEnc 1 9 w.heap.size none (some ⟨b1, off1, none⟩) n1 ks])) ?_ ?_
  ·refine gd (fun wz => Blk wz g3 33 [.int .i64 AE, .int .i64 (whenE (!(keyB cls)) 5), .int .i64 (timeE fr tt), .int .i64 (whenE (!(inB cents 0 1000000000)) 1)] ∧ Blk wz g2 39 [.int .i64 fr, .int .i64 tt] ∧ Blk wz g1 74 [.slice (some ⟨b, off, none⟩) n c0] ∧ (SlOld cdEnc 6 354 w.heap.size none (some ⟨b, off, none⟩) n l) wz ∧ (SlOld sgEnc 1 9 w.heap.size none (some ⟨b1, off1, none⟩) n1 ks) wz ∧ True) mixed (fun _ hm => ⟨hm.bl 0, hm.bl 1, hm.bl 2, hm.fa 0, hm.fa 1, trivial⟩) fun z => ?_
   refine wt 0 8 1 rfl z (ov_load sc74 rfl (fun _ hm => hm.2.2.1) rfl) ?_
   refine wt 1 8 3 rfl z (ov_load sc74 rfl (fun _ hm => hm.2.2.1) rfl) ?_
   refine wt 2 8 7 rfl z (ov_move rfl) ?_
   refine wa_all [3, 6] (by kernel_rfl) rfl ⟨⟨_, rfl, ?_⟩, ⟨_, rfl, ?_⟩, trivial⟩
   ·refine wl_callv (v := .int .i64 ((j : Nat) : Int)) rfl cb278 rfl rfl (fun wx hm => (by rw [hIX]; exact codeAt_any l _ n c0 k wx (hm.fact 0 rfl).1 hn)) ?_
    refine wl_nil ?_
    refine nw 8 15 (fun _ hm => ⟨hm.bl 0, hm.bl 1, hm.bl 2, hm.fa 0, hm.fa 1, trivial⟩) fun z => ?_
    refine wt 4 8 31 rfl z (ov_index (j := j) es74 rfl rfl (by omega)) ?_
    refine wt 5 8 63 rfl z (ov_elem (vs := [.string ke, .string cl, .int .i64 cf, .int .i64 ct, .int .i64 dy, .int .i64 mi]) rz354 rfl (fun _ hm => (hm.2.2.2.1).1) hy rfl rfl) ?_
    refine wa1 6 rfl ?_
    refine wl_alloc zc354 rfl fun g4 => ?_
    refine wl_nil ?_
    refine nw 8 127 (fun _ hm => ⟨hm.bl 1, hm.bl 2, hm.bl 3, hm.fa 0, hm.fa 1, trivial⟩) fun z => ?_
    refine wa1 7 rfl ?_
    refine wl_stores (cs' := [.string ke, .string cl, .int .i64 cf, .int .i64 ct, .int .i64 dy, .int .i64 mi]) 0 rz354 rfl rfl rfl rfl rfl rfl rfl rfl ?_
    refine wl_nil ?_
    refine nw 8 255 (fun _ hm => ⟨hm.bl 1, hm.bl 2, hm.bl 3, hm.fa 0, hm.fa 1, trivial⟩) fun z => ?_
    refine wa_done (by kernel_rfl) ?_
    exact nx_meet g4 trivial ⟨rfl, rfl, rfl, rfl, rfl, rfl, rfl, rfl, rfl, rfl, rfl, rfl, rfl, rfl, trivial⟩ (fun _ hm => hm.pick [1, 2, 3, 0] [] [0, 1] rfl rfl)
   refine wl_alloc zc354 rfl fun g5 => ?_
   refine wl_nil ?_
   refine nw 8 71 (fun _ hm => ⟨hm.bl 1, hm.bl 2, hm.bl 3, hm.fa 0, hm.fa 1, trivial⟩) fun z => ?_
   refine wa1 3 rfl ?_
   refine wl_callv (v := .int .i64 ((j : Nat) : Int)) rfl cb278 rfl rfl (fun wx hm => (by rw [hIX]; exact codeAt_any l _ n c0 k wx (hm.fact 0 rfl).1 hn)) ?_
   refine wl_nil ?_
   refine nw 8 79 (fun _ hm => ⟨hm.bl 1, hm.bl 2, hm.bl 3, hm.fa 0, hm.fa 1, trivial⟩) fun z => ?_
   refine wt 4 8 95 rfl z (ov_index (j := j) es74 rfl rfl (by omega)) ?_
   refine wt 5 8 127 rfl z (ov_elem (vs := [.string ke, .string cl, .int .i64 cf, .int .i64 ct, .int .i64 dy, .int .i64 mi]) rz354 rfl (fun _ hm => (hm.2.2.2.1).1) hy rfl rfl) ?_
   refine wa1 7 rfl ?_
   refine wl_stores (cs' := [.string ke, .string cl, .int .i64 cf, .int .i64 ct, .int .i64 dy, .int .i64 mi]) 0 rz354 rfl rfl rfl rfl rfl rfl rfl rfl ?_
   refine wl_nil ?_
   refine nw 8 255 (fun _ hm => ⟨hm.bl 1, hm.bl 2, hm.bl 3, hm.fa 0, hm.fa 1, trivial⟩) fun z => ?_
   refine wa_done (by kernel_rfl) ?_
   exact nx_meet g5 trivial ⟨rfl, rfl, rfl, rfl, rfl, rfl, rfl, rfl, rfl, rfl, rfl, rfl, rfl, rfl, trivial⟩ (fun _ hm => hm.pick [1, 2, 3, 0] [] [0, 1] rfl rfl)
  intro gz hinv
  replace hinv : True := hinv
  refine gw_seq ?_
  clear hinv
  refine gd (fun wz => Blk wz g3 33 [.int .i64 AE, .int .i64 (whenE (!(keyB cls)) 5), .int .i64 (timeE fr tt), .int .i64 (whenE (!(inB cents 0 1000000000)) 1)] ∧ Blk wz g2 39 [.int .i64 fr, .int .i64 tt] ∧ Blk wz g1 74 [.slice (some ⟨b, off, none⟩) n c0] ∧ Blk wz gz 354 [.string ke, .string cl, .int .i64 cf, .int .i64 ct, .int .i64 dy, .int .i64 mi] ∧ (SlOld cdEnc 6 354 w.heap.size none (some ⟨b, off, none⟩) n l) wz ∧ (SlOld sgEnc 1 9 w.heap.size none (some ⟨b1, off1, none⟩) n1 ks) wz ∧ True) mixed (fun _ hm => ⟨hm.bl 0, hm.bl 1, hm.bl 2, hm.bl 3, hm.fa 0, hm.fa 1, trivial⟩) fun z => ?_
  refine wt 0 28 1 rfl z (ov_field fo354_1 rfl rfl) ?_
  refine wt 1 28 3 rfl z (ov_load sc9 rfl (fun _ hm => hm.2.2.2.1) rfl) ?_
  refine wt 2 28 7 rfl z (ov_seql rfl rfl) ?_
  refine wt 3 28 15 rfl z (ov_move rfl) ?_
  rcases Bool.eq_false_or_eq_true (cl.toList == (⟨#[]⟩ : ByteArray).toList) with e1 | e1
  ·refine wa_set 60 rfl (congrArg Value.bool e1) ?_
   have e1 : emptyS cl = true := e1
   refine wtf 4 28 31 rfl rfl rfl z ?_
   refine wtf 5 28 63 rfl rfl rfl z ?_
   refine wtf 6 28 127 rfl rfl rfl z ?_
   refine wtf 7 28 255 rfl rfl rfl z ?_
   refine wt 8 28 511 rfl z (ov_pick_t rfl rfl) ?_
   refine wt 9 28 1023 rfl z (ov_move rfl) ?_
   refine wto 10 28 2047 rfl rfl rfl z (ov_field fo39_0 rfl rfl) ?_
   refine wto 11 28 4095 rfl rfl rfl z (ov_load sc3 rfl (fun _ hm => hm.2.1) rfl) ?_
   refine wto 12 28 8191 rfl rfl rfl z (ov_quo rfl rfl (by omega) (by omega) (by omega)) ?_
   refine wto 13 28 16383 rfl rfl rfl z (ov_field fo354_2 rfl rfl) ?_
   refine wto 14 28 32767 rfl rfl rfl z (ov_load sc3 rfl (fun _ hm => hm.2.2.2.1) rfl) ?_
   refine wto 15 28 65535 rfl rfl rfl z (ov_field fo354_3 rfl rfl) ?_
   refine wto 16 28 131071 rfl rfl rfl z (ov_load sc3 rfl (fun _ hm => hm.2.2.2.1) rfl) ?_
   refine wto 17 28 262143 rfl rfl rfl z (ov_sub rfl rfl (by omega) (by omega)) ?_
   refine wa1 18 rfl ?_
   refine wl_guard_on rfl rfl rfl ?_
   refine wl_callw rfl cb169 rfl rfl (fun wx hm => (in_any _ _ _ wx)) ?_
   refine wl_nil ?_
   refine nw 28 524287 (fun _ hm => ⟨hm.bl 0, hm.bl 1, hm.bl 2, hm.bl 3, hm.fa 0, hm.fa 1, trivial⟩) fun z => ?_
   refine wt 19 28 1048575 rfl z (ov_pick_t rfl rfl) ?_
   refine wt 20 28 2097151 rfl z (ov_move rfl) ?_
   rcases Bool.eq_false_or_eq_true (inB (fr / 1440) cf (ct - 1)) with e3 | e3
   ·refine wa_set 77 rfl (congrArg Value.bool e3) ?_
    refine wto 21 28 4194303 rfl rfl rfl z (ov_loads rz39 rfl (fun _ hm => hm.2.1) rfl rfl) ?_
    refine wto 23 28 12582911 rfl rfl rfl z (ov_field fo354_4 rfl rfl) ?_
    refine wto 24 28 29360127 rfl rfl rfl z (ov_load sc3 rfl (fun _ hm => hm.2.2.2.1) rfl) ?_
    refine wa1 22 rfl ?_
    refine wl_guard_on rfl rfl rfl ?_
    refine wl_callv rfl cb188 rfl rfl (fun wx hm => (days_any _ _ wx (by omega) (by omega) (by omega))) ?_
    refine wl_nil ?_
    refine nw 28 33554431 (fun _ hm => ⟨hm.bl 0, hm.bl 1, hm.bl 2, hm.bl 3, hm.fa 0, hm.fa 1, trivial⟩) fun z => ?_
    refine wto 25 28 67108863 rfl rfl rfl z (ov_geq rfl rfl) ?_
    refine wt 26 28 134217727 rfl z (ov_pick_t rfl rfl) ?_
    refine wt 27 28 268435455 rfl z (ov_assign rfl) ?_
    refine wa_done (by kernel_rfl) ?_
    refine nx_then (sr_ (mv_ rfl (fd_ fo354_5 rfl rfl (lk_ sc3 3 rfl rfl rfl ?_))))
    refine wl_ov (ov_mul rfl rfl (by omega) (by omega)) rfl ?_
    refine wl_ov (ov_quo rfl rfl (by omega) (by omega) (by omega)) rfl ?_
    refine sg_ rfl (nn_ (sr_ (mv_ rfl (mv_ rfl ?_))))
    rcases Bool.eq_false_or_eq_true (decide (dy ≤ daysV fr tt)) with e4 | e4
    ·refine wl_set 90 rfl (congrArg Value.bool e4) ?_
     have hcb : countsB ⟨ke, cl, cf, ct, dy, mi⟩ cls fr tt = true := counts_yes (.inl e1) e3 (of_decide_eq_true e4)
     refine wl_guard_on rfl rfl rfl (mv_ rfl (wl_guard_on rfl rfl rfl (wl_ov (ov_seql rfl rfl) rfl (wl_guard_on rfl rfl rfl (mv_ rfl ?_)))))
     rcases Bool.eq_false_or_eq_true (ky.toList == (⟨#[]⟩ : ByteArray).toList) with c1 | c1
     ·refine wl_set 93 rfl (congrArg Value.bool c1) ?_
      have hs2 := bestS_yes (st := (ky, mo)) (cents := cents) hIX.symm hy hcb (.inl c1)
      refine goff rfl rfl rfl (goff rfl rfl rfl (goff rfl rfl rfl (wl_guard_on rfl rfl rfl (pt_ rfl rfl (wl_guard_on rfl rfl rfl (mv_ rfl (goff rfl rfl rfl (goff rfl rfl rfl (goff rfl rfl rfl (goff rfl rfl rfl (gnd rfl rfl rfl (gnd rfl rfl rfl (gnd rfl rfl rfl ?_)))))))))))))
      refine goff rfl rfl rfl (wl_guard_on rfl rfl rfl (pt_ rfl rfl (pt_ rfl rfl (nn_ (ct_ rfl (gw_region (mv_ rfl (mv_ rfl (sg_ rfl (sg_ rfl (wl_nil (nx_blk_nrm ?_))))))))))))
      refine nx_then (gw_region (ad_ rfl rfl (mv_ rfl (wl_nil ?_))))
      exact nx_round (i + 1, k, cents * mi / 1000) ⟨by dsimp only; omega, by rw [hstep]; exact hs2.symm⟩ (by dsimp only; omega) ⟨rfl, rfl, rfl, rfl, rfl, rfl, rfl, rfl, rfl, rfl, rfl, (some_int (by omega)), trivial⟩ (fun _ hm => hm.pick [0, 1, 2] [] [0, 1] rfl rfl)
     refine wl_set 93 rfl (congrArg Value.bool c1) ?_
     refine wl_guard_on rfl rfl rfl (mv_ rfl (wl_guard_on rfl rfl rfl (mv_ rfl (wl_guard_on rfl rfl rfl ?_))))
     refine wl_ov (ov_gtr rfl rfl) rfl ?_
     refine wl_guard_on rfl rfl rfl (pf_ rfl rfl (wl_guard_on rfl rfl rfl (mv_ rfl ?_)))
     rcases Bool.eq_false_or_eq_true (decide (mo < (cents * mi) / 1000)) with c2 | c2
     ·refine wl_set 98 rfl (congrArg Value.bool c2) ?_
      have hs2 := bestS_yes (st := (ky, mo)) (cents := cents) hIX.symm hy hcb (.inr (.inl (of_decide_eq_true c2)))
      refine goff rfl rfl rfl (goff rfl rfl rfl (goff rfl rfl rfl (goff rfl rfl rfl (gnd rfl rfl rfl (gnd rfl rfl rfl (gnd rfl rfl rfl (goff rfl rfl rfl (wl_guard_on rfl rfl rfl (pt_ rfl rfl (pt_ rfl rfl (nn_ (ct_ rfl ?_))))))))))))
      refine gw_region (mv_ rfl (mv_ rfl (sg_ rfl (sg_ rfl (wl_nil (nx_blk_nrm (nx_then (gw_region (ad_ rfl rfl (mv_ rfl (wl_nil ?_)))))))))))
      exact nx_round (i + 1, k, cents * mi / 1000) ⟨by dsimp only; omega, by rw [hstep]; exact hs2.symm⟩ (by dsimp only; omega) ⟨rfl, rfl, rfl, rfl, rfl, rfl, rfl, rfl, rfl, rfl, rfl, (some_int (by omega)), trivial⟩ (fun _ hm => hm.pick [0, 1, 2] [] [0, 1] rfl rfl)
     refine wl_set 98 rfl (congrArg Value.bool c2) ?_
     refine wl_guard_on rfl rfl rfl (mv_ rfl (wl_guard_on rfl rfl rfl (mv_ rfl (wl_guard_on rfl rfl rfl (wl_ov (ov_eql rfl rfl) rfl (wl_guard_on rfl rfl rfl (mv_ rfl ?_)))))))
     rcases Bool.eq_false_or_eq_true (decide ((cents * mi) / 1000 = mo)) with c3 | c3
     ·refine wl_set 102 rfl (congrArg Value.bool c3) ?_
      refine wl_guard_on rfl rfl rfl (mv_ rfl (wl_guard_on rfl rfl rfl (mv_ rfl (wl_guard_on rfl rfl rfl ?_))))
      refine wl_ov (ov_slss rfl rfl) rfl ?_
      refine wl_guard_on rfl rfl rfl (pt_ rfl rfl (wl_guard_on rfl rfl rfl (pf_ rfl rfl (pt_ rfl rfl (nn_ ?_)))))
      refine gw_cond rfl (fun hh => ?_) (fun hh => ?_)
      ·have c4 : (Op.bytesLess k.toList ky.toList) = true := by simpa using hh
       clear hh
       refine gw_region ?_
       have hs2 := bestS_yes (st := (ky, mo)) (cents := cents) hIX.symm hy hcb (.inr (.inr ⟨of_decide_eq_true c3, c4⟩))
       refine mv_ rfl (mv_ rfl (sg_ rfl (sg_ rfl (wl_nil (nx_blk_nrm (nx_then (gw_region (ad_ rfl rfl (mv_ rfl (wl_nil ?_))))))))))
       exact nx_round (i + 1, k, cents * mi / 1000) ⟨by dsimp only; omega, by rw [hstep]; exact hs2.symm⟩ (by dsimp only; omega) ⟨rfl, rfl, rfl, rfl, rfl, rfl, rfl, rfl, rfl, rfl, rfl, (some_int (by omega)), trivial⟩ (fun _ hm => hm.pick [0, 1, 2] [] [0, 1] rfl rfl)
      have c4 : (Op.bytesLess k.toList ky.toList) = false := by simpa using hh
      clear hh
      refine gw_skip (nx_blk_nrm (nx_then (gw_region ?_)))
      have hno : ¬ (emptyS (ky, mo).1 = true ∨ (ky, mo).2 < offV cents ⟨ke, cl, cf, ct, dy, mi⟩ ∨ (offV cents ⟨ke, cl, cf, ct, dy, mi⟩ = (ky, mo).2 ∧ ltS k (ky, mo).1 = true)) := by
       rintro (h | h | ⟨_, h⟩)
       ·exact absurd (h.symm.trans c1) (by decide)
       ·exact of_decide_eq_false c2 h
       exact absurd (h.symm.trans c4) (by decide)
      have hs2 := bestS_keep (cls := cls) (fr := fr) (tt := tt) (st := (ky, mo)) (cents := cents) hIX.symm hy (hno)
      refine ad_ rfl rfl (mv_ rfl (wl_nil ?_))
      exact nx_round (i + 1, ky, mo) ⟨by dsimp only; omega, by rw [hstep]; exact hs2.symm⟩ (by dsimp only; omega) ⟨rfl, rfl, rfl, rfl, rfl, rfl, rfl, rfl, rfl, rfl, rfl, (some_int (by omega)), trivial⟩ (fun _ hm => hm.pick [0, 1, 2] [] [0, 1] rfl rfl)
     refine wl_set 102 rfl (congrArg Value.bool c3) ?_
     have hno : ¬ (emptyS (ky, mo).1 = true ∨ (ky, mo).2 < offV cents ⟨ke, cl, cf, ct, dy, mi⟩ ∨ (offV cents ⟨ke, cl, cf, ct, dy, mi⟩ = (ky, mo).2 ∧ ltS k (ky, mo).1 = true)) := by
      rintro (h | h | ⟨h, _⟩)
      ·exact absurd (h.symm.trans c1) (by decide)
      ·exact of_decide_eq_false c2 h
      exact of_decide_eq_false c3 h
     have hs2 := bestS_keep (cls := cls) (fr := fr) (tt := tt) (st := (ky, mo)) (cents := cents) hIX.symm hy (hno)
     refine goff rfl rfl rfl (goff rfl rfl rfl (goff rfl rfl rfl (wl_guard_on rfl rfl rfl (pf_ rfl rfl (wl_guard_on rfl rfl rfl (pf_ rfl rfl (pt_ rfl rfl (nn_ (cf_ rfl (gw_skip (nx_blk_nrm (nx_then ?_))))))))))))
     refine gw_region (ad_ rfl rfl (mv_ rfl (wl_nil ?_)))
     exact nx_round (i + 1, ky, mo) ⟨by dsimp only; omega, by rw [hstep]; exact hs2.symm⟩ (by dsimp only; omega) ⟨rfl, rfl, rfl, rfl, rfl, rfl, rfl, rfl, rfl, rfl, rfl, (some_int (by omega)), trivial⟩ (fun _ hm => hm.pick [0, 1, 2] [] [0, 1] rfl rfl)
    refine wl_set 90 rfl (congrArg Value.bool e4) ?_
    have hcb : countsB ⟨ke, cl, cf, ct, dy, mi⟩ cls fr tt = false := counts_days (of_decide_eq_false e4)
    have hs2 := bestS_no (st := (ky, mo)) (cents := cents) hIX.symm hy hcb
    refine goff rfl rfl rfl (goff rfl rfl rfl (goff rfl rfl rfl (gnd rfl rfl rfl (gnd rfl rfl rfl (gnd rfl rfl rfl (goff rfl rfl rfl (goff rfl rfl rfl (gnd rfl rfl rfl (gnd rfl rfl rfl (gnd rfl rfl rfl (gnd rfl rfl rfl (gnd rfl rfl rfl (gnd rfl rfl rfl ?_)))))))))))))
    refine gnd rfl rfl rfl (gnd rfl rfl rfl (goff rfl rfl rfl (pf_ rfl rfl (nn_ (cf_ rfl (gw_skip (nx_blk_nrm (nx_then (gw_region (ad_ rfl rfl (mv_ rfl (wl_nil ?_))))))))))))
    exact nx_round (i + 1, ky, mo) ⟨by dsimp only; omega, by rw [hstep]; exact hs2.symm⟩ (by dsimp only; omega) ⟨rfl, rfl, rfl, rfl, rfl, rfl, rfl, rfl, rfl, rfl, rfl, (some_int (by omega)), trivial⟩ (fun _ hm => hm.pick [0, 1, 2] [] [0, 1] rfl rfl)
   refine wa_set 77 rfl (congrArg Value.bool e3) ?_
   have hcb : countsB ⟨ke, cl, cf, ct, dy, mi⟩ cls fr tt = false := counts_in e3
   have hs2 := bestS_no (st := (ky, mo)) (cents := cents) hIX.symm hy hcb
   refine wtf 21 28 4194303 rfl rfl rfl z ?_
   refine wtf 22 28 8388607 rfl rfl rfl z ?_
   refine wtf 23 28 16777215 rfl rfl rfl z ?_
   refine wtf 24 28 33554431 rfl rfl rfl z ?_
   refine wtf 25 28 67108863 rfl rfl rfl z ?_
   refine wt 26 28 134217727 rfl z (ov_pick_f rfl rfl) ?_
   refine wt 27 28 268435455 rfl z (ov_assign rfl) ?_
   refine wa_done (by kernel_rfl) ?_
   refine nx_then (sr_ (mv_ rfl (fd_ fo354_5 rfl rfl (lk_ sc3 3 rfl rfl rfl ?_))))
   refine wl_ov (ov_mul rfl rfl (by omega) (by omega)) rfl ?_
   refine wl_ov (ov_quo rfl rfl (by omega) (by omega) (by omega)) rfl ?_
   refine sg_ rfl (nn_ (sr_ (mv_ rfl (mv_ rfl (goff rfl rfl rfl (goff rfl rfl rfl (goff rfl rfl rfl (gnd rfl rfl rfl (gnd rfl rfl rfl (gnd rfl rfl rfl (goff rfl rfl rfl ?_)))))))))))
   refine goff rfl rfl rfl (gnd rfl rfl rfl (gnd rfl rfl rfl (gnd rfl rfl rfl (gnd rfl rfl rfl (gnd rfl rfl rfl (gnd rfl rfl rfl (gnd rfl rfl rfl (gnd rfl rfl rfl (goff rfl rfl rfl (pf_ rfl rfl (nn_ (cf_ rfl ?_))))))))))))
   refine gw_skip (nx_blk_nrm (nx_then (gw_region (ad_ rfl rfl (mv_ rfl (wl_nil ?_))))))
   exact nx_round (i + 1, ky, mo) ⟨by dsimp only; omega, by rw [hstep]; exact hs2.symm⟩ (by dsimp only; omega) ⟨rfl, rfl, rfl, rfl, rfl, rfl, rfl, rfl, rfl, rfl, rfl, (some_int (by omega)), trivial⟩ (fun _ hm => hm.pick [0, 1, 2] [] [0, 1] rfl rfl)
  refine wa_set 60 rfl (congrArg Value.bool e1) ?_
  have e1 : emptyS cl = false := e1
  refine wto 4 28 31 rfl rfl rfl z (ov_field fo354_1 rfl rfl) ?_
  refine wto 5 28 63 rfl rfl rfl z (ov_load sc9 rfl (fun _ hm => hm.2.2.2.1) rfl) ?_
  refine wto 6 28 127 rfl rfl rfl z (ov_move rfl) ?_
  refine wto 7 28 255 rfl rfl rfl z (ov_seql rfl rfl) ?_
  refine wt 8 28 511 rfl z (ov_pick_f rfl rfl) ?_
  refine wt 9 28 1023 rfl z (ov_move rfl) ?_
  rcases Bool.eq_false_or_eq_true (cl.toList == cls.toList) with e2 | e2
  ·refine wa_set 66 rfl (congrArg Value.bool e2) ?_
   refine wto 10 28 2047 rfl rfl rfl z (ov_field fo39_0 rfl rfl) ?_
   refine wto 11 28 4095 rfl rfl rfl z (ov_load sc3 rfl (fun _ hm => hm.2.1) rfl) ?_
   refine wto 12 28 8191 rfl rfl rfl z (ov_quo rfl rfl (by omega) (by omega) (by omega)) ?_
   refine wto 13 28 16383 rfl rfl rfl z (ov_field fo354_2 rfl rfl) ?_
   refine wto 14 28 32767 rfl rfl rfl z (ov_load sc3 rfl (fun _ hm => hm.2.2.2.1) rfl) ?_
   refine wto 15 28 65535 rfl rfl rfl z (ov_field fo354_3 rfl rfl) ?_
   refine wto 16 28 131071 rfl rfl rfl z (ov_load sc3 rfl (fun _ hm => hm.2.2.2.1) rfl) ?_
   refine wto 17 28 262143 rfl rfl rfl z (ov_sub rfl rfl (by omega) (by omega)) ?_
   refine wa1 18 rfl ?_
   refine wl_guard_on rfl rfl rfl ?_
   refine wl_callw rfl cb169 rfl rfl (fun wx hm => (in_any _ _ _ wx)) ?_
   refine wl_nil ?_
   refine nw 28 524287 (fun _ hm => ⟨hm.bl 0, hm.bl 1, hm.bl 2, hm.bl 3, hm.fa 0, hm.fa 1, trivial⟩) fun z => ?_
   refine wt 19 28 1048575 rfl z (ov_pick_t rfl rfl) ?_
   refine wt 20 28 2097151 rfl z (ov_move rfl) ?_
   rcases Bool.eq_false_or_eq_true (inB (fr / 1440) cf (ct - 1)) with e3 | e3
   ·refine wa_set 77 rfl (congrArg Value.bool e3) ?_
    refine wto 21 28 4194303 rfl rfl rfl z (ov_loads rz39 rfl (fun _ hm => hm.2.1) rfl rfl) ?_
    refine wto 23 28 12582911 rfl rfl rfl z (ov_field fo354_4 rfl rfl) ?_
    refine wto 24 28 29360127 rfl rfl rfl z (ov_load sc3 rfl (fun _ hm => hm.2.2.2.1) rfl) ?_
    refine wa1 22 rfl ?_
    refine wl_guard_on rfl rfl rfl ?_
    refine wl_callv rfl cb188 rfl rfl (fun wx hm => (days_any _ _ wx (by omega) (by omega) (by omega))) ?_
    refine wl_nil ?_
    refine nw 28 33554431 (fun _ hm => ⟨hm.bl 0, hm.bl 1, hm.bl 2, hm.bl 3, hm.fa 0, hm.fa 1, trivial⟩) fun z => ?_
    refine wto 25 28 67108863 rfl rfl rfl z (ov_geq rfl rfl) ?_
    refine wt 26 28 134217727 rfl z (ov_pick_t rfl rfl) ?_
    refine wt 27 28 268435455 rfl z (ov_assign rfl) ?_
    refine wa_done (by kernel_rfl) ?_
    refine nx_then (sr_ (mv_ rfl (fd_ fo354_5 rfl rfl (lk_ sc3 3 rfl rfl rfl ?_))))
    refine wl_ov (ov_mul rfl rfl (by omega) (by omega)) rfl ?_
    refine wl_ov (ov_quo rfl rfl (by omega) (by omega) (by omega)) rfl ?_
    refine sg_ rfl (nn_ (sr_ (mv_ rfl (mv_ rfl ?_))))
    rcases Bool.eq_false_or_eq_true (decide (dy ≤ daysV fr tt)) with e4 | e4
    ·refine wl_set 90 rfl (congrArg Value.bool e4) ?_
     have hcb : countsB ⟨ke, cl, cf, ct, dy, mi⟩ cls fr tt = true := counts_yes (.inr e2) e3 (of_decide_eq_true e4)
     refine wl_guard_on rfl rfl rfl (mv_ rfl (wl_guard_on rfl rfl rfl (wl_ov (ov_seql rfl rfl) rfl (wl_guard_on rfl rfl rfl (mv_ rfl ?_)))))
     rcases Bool.eq_false_or_eq_true (ky.toList == (⟨#[]⟩ : ByteArray).toList) with c1 | c1
     ·refine wl_set 93 rfl (congrArg Value.bool c1) ?_
      have hs2 := bestS_yes (st := (ky, mo)) (cents := cents) hIX.symm hy hcb (.inl c1)
      refine goff rfl rfl rfl (goff rfl rfl rfl (goff rfl rfl rfl (wl_guard_on rfl rfl rfl (pt_ rfl rfl (wl_guard_on rfl rfl rfl (mv_ rfl (goff rfl rfl rfl (goff rfl rfl rfl (goff rfl rfl rfl (goff rfl rfl rfl (gnd rfl rfl rfl (gnd rfl rfl rfl (gnd rfl rfl rfl ?_)))))))))))))
      refine goff rfl rfl rfl (wl_guard_on rfl rfl rfl (pt_ rfl rfl (pt_ rfl rfl (nn_ (ct_ rfl (gw_region (mv_ rfl (mv_ rfl (sg_ rfl (sg_ rfl (wl_nil (nx_blk_nrm ?_))))))))))))
      refine nx_then (gw_region (ad_ rfl rfl (mv_ rfl (wl_nil ?_))))
      exact nx_round (i + 1, k, cents * mi / 1000) ⟨by dsimp only; omega, by rw [hstep]; exact hs2.symm⟩ (by dsimp only; omega) ⟨rfl, rfl, rfl, rfl, rfl, rfl, rfl, rfl, rfl, rfl, rfl, (some_int (by omega)), trivial⟩ (fun _ hm => hm.pick [0, 1, 2] [] [0, 1] rfl rfl)
     refine wl_set 93 rfl (congrArg Value.bool c1) ?_
     refine wl_guard_on rfl rfl rfl (mv_ rfl (wl_guard_on rfl rfl rfl (mv_ rfl (wl_guard_on rfl rfl rfl ?_))))
     refine wl_ov (ov_gtr rfl rfl) rfl ?_
     refine wl_guard_on rfl rfl rfl (pf_ rfl rfl (wl_guard_on rfl rfl rfl (mv_ rfl ?_)))
     rcases Bool.eq_false_or_eq_true (decide (mo < (cents * mi) / 1000)) with c2 | c2
     ·refine wl_set 98 rfl (congrArg Value.bool c2) ?_
      have hs2 := bestS_yes (st := (ky, mo)) (cents := cents) hIX.symm hy hcb (.inr (.inl (of_decide_eq_true c2)))
      refine goff rfl rfl rfl (goff rfl rfl rfl (goff rfl rfl rfl (goff rfl rfl rfl (gnd rfl rfl rfl (gnd rfl rfl rfl (gnd rfl rfl rfl (goff rfl rfl rfl (wl_guard_on rfl rfl rfl (pt_ rfl rfl (pt_ rfl rfl (nn_ (ct_ rfl ?_))))))))))))
      refine gw_region (mv_ rfl (mv_ rfl (sg_ rfl (sg_ rfl (wl_nil (nx_blk_nrm (nx_then (gw_region (ad_ rfl rfl (mv_ rfl (wl_nil ?_)))))))))))
      exact nx_round (i + 1, k, cents * mi / 1000) ⟨by dsimp only; omega, by rw [hstep]; exact hs2.symm⟩ (by dsimp only; omega) ⟨rfl, rfl, rfl, rfl, rfl, rfl, rfl, rfl, rfl, rfl, rfl, (some_int (by omega)), trivial⟩ (fun _ hm => hm.pick [0, 1, 2] [] [0, 1] rfl rfl)
     refine wl_set 98 rfl (congrArg Value.bool c2) ?_
     refine wl_guard_on rfl rfl rfl (mv_ rfl (wl_guard_on rfl rfl rfl (mv_ rfl (wl_guard_on rfl rfl rfl (wl_ov (ov_eql rfl rfl) rfl (wl_guard_on rfl rfl rfl (mv_ rfl ?_)))))))
     rcases Bool.eq_false_or_eq_true (decide ((cents * mi) / 1000 = mo)) with c3 | c3
     ·refine wl_set 102 rfl (congrArg Value.bool c3) ?_
      refine wl_guard_on rfl rfl rfl (mv_ rfl (wl_guard_on rfl rfl rfl (mv_ rfl (wl_guard_on rfl rfl rfl ?_))))
      refine wl_ov (ov_slss rfl rfl) rfl ?_
      refine wl_guard_on rfl rfl rfl (pt_ rfl rfl (wl_guard_on rfl rfl rfl (pf_ rfl rfl (pt_ rfl rfl (nn_ ?_)))))
      refine gw_cond rfl (fun hh => ?_) (fun hh => ?_)
      ·have c4 : (Op.bytesLess k.toList ky.toList) = true := by simpa using hh
       clear hh
       refine gw_region ?_
       have hs2 := bestS_yes (st := (ky, mo)) (cents := cents) hIX.symm hy hcb (.inr (.inr ⟨of_decide_eq_true c3, c4⟩))
       refine mv_ rfl (mv_ rfl (sg_ rfl (sg_ rfl (wl_nil (nx_blk_nrm (nx_then (gw_region (ad_ rfl rfl (mv_ rfl (wl_nil ?_))))))))))
       exact nx_round (i + 1, k, cents * mi / 1000) ⟨by dsimp only; omega, by rw [hstep]; exact hs2.symm⟩ (by dsimp only; omega) ⟨rfl, rfl, rfl, rfl, rfl, rfl, rfl, rfl, rfl, rfl, rfl, (some_int (by omega)), trivial⟩ (fun _ hm => hm.pick [0, 1, 2] [] [0, 1] rfl rfl)
      have c4 : (Op.bytesLess k.toList ky.toList) = false := by simpa using hh
      clear hh
      refine gw_skip (nx_blk_nrm (nx_then (gw_region ?_)))
      have hno : ¬ (emptyS (ky, mo).1 = true ∨ (ky, mo).2 < offV cents ⟨ke, cl, cf, ct, dy, mi⟩ ∨ (offV cents ⟨ke, cl, cf, ct, dy, mi⟩ = (ky, mo).2 ∧ ltS k (ky, mo).1 = true)) := by
       rintro (h | h | ⟨_, h⟩)
       ·exact absurd (h.symm.trans c1) (by decide)
       ·exact of_decide_eq_false c2 h
       exact absurd (h.symm.trans c4) (by decide)
      have hs2 := bestS_keep (cls := cls) (fr := fr) (tt := tt) (st := (ky, mo)) (cents := cents) hIX.symm hy (hno)
      refine ad_ rfl rfl (mv_ rfl (wl_nil ?_))
      exact nx_round (i + 1, ky, mo) ⟨by dsimp only; omega, by rw [hstep]; exact hs2.symm⟩ (by dsimp only; omega) ⟨rfl, rfl, rfl, rfl, rfl, rfl, rfl, rfl, rfl, rfl, rfl, (some_int (by omega)), trivial⟩ (fun _ hm => hm.pick [0, 1, 2] [] [0, 1] rfl rfl)
     refine wl_set 102 rfl (congrArg Value.bool c3) ?_
     have hno : ¬ (emptyS (ky, mo).1 = true ∨ (ky, mo).2 < offV cents ⟨ke, cl, cf, ct, dy, mi⟩ ∨ (offV cents ⟨ke, cl, cf, ct, dy, mi⟩ = (ky, mo).2 ∧ ltS k (ky, mo).1 = true)) := by
      rintro (h | h | ⟨h, _⟩)
      ·exact absurd (h.symm.trans c1) (by decide)
      ·exact of_decide_eq_false c2 h
      exact of_decide_eq_false c3 h
     have hs2 := bestS_keep (cls := cls) (fr := fr) (tt := tt) (st := (ky, mo)) (cents := cents) hIX.symm hy (hno)
     refine goff rfl rfl rfl (goff rfl rfl rfl (goff rfl rfl rfl (wl_guard_on rfl rfl rfl (pf_ rfl rfl (wl_guard_on rfl rfl rfl (pf_ rfl rfl (pt_ rfl rfl (nn_ (cf_ rfl (gw_skip (nx_blk_nrm (nx_then ?_))))))))))))
     refine gw_region (ad_ rfl rfl (mv_ rfl (wl_nil ?_)))
     exact nx_round (i + 1, ky, mo) ⟨by dsimp only; omega, by rw [hstep]; exact hs2.symm⟩ (by dsimp only; omega) ⟨rfl, rfl, rfl, rfl, rfl, rfl, rfl, rfl, rfl, rfl, rfl, (some_int (by omega)), trivial⟩ (fun _ hm => hm.pick [0, 1, 2] [] [0, 1] rfl rfl)
    refine wl_set 90 rfl (congrArg Value.bool e4) ?_
    have hcb : countsB ⟨ke, cl, cf, ct, dy, mi⟩ cls fr tt = false := counts_days (of_decide_eq_false e4)
    have hs2 := bestS_no (st := (ky, mo)) (cents := cents) hIX.symm hy hcb
    refine goff rfl rfl rfl (goff rfl rfl rfl (goff rfl rfl rfl (gnd rfl rfl rfl (gnd rfl rfl rfl (gnd rfl rfl rfl (goff rfl rfl rfl (goff rfl rfl rfl (gnd rfl rfl rfl (gnd rfl rfl rfl (gnd rfl rfl rfl (gnd rfl rfl rfl (gnd rfl rfl rfl (gnd rfl rfl rfl ?_)))))))))))))
    refine gnd rfl rfl rfl (gnd rfl rfl rfl (goff rfl rfl rfl (pf_ rfl rfl (nn_ (cf_ rfl (gw_skip (nx_blk_nrm (nx_then (gw_region (ad_ rfl rfl (mv_ rfl (wl_nil ?_))))))))))))
    exact nx_round (i + 1, ky, mo) ⟨by dsimp only; omega, by rw [hstep]; exact hs2.symm⟩ (by dsimp only; omega) ⟨rfl, rfl, rfl, rfl, rfl, rfl, rfl, rfl, rfl, rfl, rfl, (some_int (by omega)), trivial⟩ (fun _ hm => hm.pick [0, 1, 2] [] [0, 1] rfl rfl)
   refine wa_set 77 rfl (congrArg Value.bool e3) ?_
   have hcb : countsB ⟨ke, cl, cf, ct, dy, mi⟩ cls fr tt = false := counts_in e3
   have hs2 := bestS_no (st := (ky, mo)) (cents := cents) hIX.symm hy hcb
   refine wtf 21 28 4194303 rfl rfl rfl z ?_
   refine wtf 22 28 8388607 rfl rfl rfl z ?_
   refine wtf 23 28 16777215 rfl rfl rfl z ?_
   refine wtf 24 28 33554431 rfl rfl rfl z ?_
   refine wtf 25 28 67108863 rfl rfl rfl z ?_
   refine wt 26 28 134217727 rfl z (ov_pick_f rfl rfl) ?_
   refine wt 27 28 268435455 rfl z (ov_assign rfl) ?_
   refine wa_done (by kernel_rfl) ?_
   refine nx_then (sr_ (mv_ rfl (fd_ fo354_5 rfl rfl (lk_ sc3 3 rfl rfl rfl ?_))))
   refine wl_ov (ov_mul rfl rfl (by omega) (by omega)) rfl ?_
   refine wl_ov (ov_quo rfl rfl (by omega) (by omega) (by omega)) rfl ?_
   refine sg_ rfl (nn_ (sr_ (mv_ rfl (mv_ rfl (goff rfl rfl rfl (goff rfl rfl rfl (goff rfl rfl rfl (gnd rfl rfl rfl (gnd rfl rfl rfl (gnd rfl rfl rfl (goff rfl rfl rfl ?_)))))))))))
   refine goff rfl rfl rfl (gnd rfl rfl rfl (gnd rfl rfl rfl (gnd rfl rfl rfl (gnd rfl rfl rfl (gnd rfl rfl rfl (gnd rfl rfl rfl (gnd rfl rfl rfl (gnd rfl rfl rfl (goff rfl rfl rfl (pf_ rfl rfl (nn_ (cf_ rfl ?_))))))))))))
   refine gw_skip (nx_blk_nrm (nx_then (gw_region (ad_ rfl rfl (mv_ rfl (wl_nil ?_))))))
   exact nx_round (i + 1, ky, mo) ⟨by dsimp only; omega, by rw [hstep]; exact hs2.symm⟩ (by dsimp only; omega) ⟨rfl, rfl, rfl, rfl, rfl, rfl, rfl, rfl, rfl, rfl, rfl, (some_int (by omega)), trivial⟩ (fun _ hm => hm.pick [0, 1, 2] [] [0, 1] rfl rfl)
  refine wa_set 66 rfl (congrArg Value.bool e2) ?_
  have hcb : countsB ⟨ke, cl, cf, ct, dy, mi⟩ cls fr tt = false := counts_cls e1 e2
  have hs2 := bestS_no (st := (ky, mo)) (cents := cents) hIX.symm hy hcb
  refine wtf 10 28 2047 rfl rfl rfl z ?_
  refine wtf 11 28 4095 rfl rfl rfl z ?_
  refine wtf 12 28 8191 rfl rfl rfl z ?_
  refine wtf 13 28 16383 rfl rfl rfl z ?_
  refine wtf 14 28 32767 rfl rfl rfl z ?_
  refine wtf 15 28 65535 rfl rfl rfl z ?_
  refine wtf 16 28 131071 rfl rfl rfl z ?_
  refine wtf 17 28 262143 rfl rfl rfl z ?_
  refine wtf 18 28 524287 rfl rfl rfl z ?_
  refine wt 19 28 1048575 rfl z (ov_pick_f rfl rfl) ?_
  refine wt 20 28 2097151 rfl z (ov_move rfl) ?_
  refine wtf 21 28 4194303 rfl rfl rfl z ?_
  refine wtf 22 28 8388607 rfl rfl rfl z ?_
  refine wtf 23 28 16777215 rfl rfl rfl z ?_
  refine wtf 24 28 33554431 rfl rfl rfl z ?_
  refine wtf 25 28 67108863 rfl rfl rfl z ?_
  refine wt 26 28 134217727 rfl z (ov_pick_f rfl rfl) ?_
  refine wt 27 28 268435455 rfl z (ov_assign rfl) ?_
  refine wa_done (by kernel_rfl) ?_
  refine nx_then (sr_ (mv_ rfl (fd_ fo354_5 rfl rfl (lk_ sc3 3 rfl rfl rfl ?_))))
  refine wl_ov (ov_mul rfl rfl (by omega) (by omega)) rfl ?_
  refine wl_ov (ov_quo rfl rfl (by omega) (by omega) (by omega)) rfl ?_
  refine sg_ rfl (nn_ (sr_ (mv_ rfl (mv_ rfl (goff rfl rfl rfl (goff rfl rfl rfl (goff rfl rfl rfl (gnd rfl rfl rfl (gnd rfl rfl rfl (gnd rfl rfl rfl (goff rfl rfl rfl ?_)))))))))))
  refine goff rfl rfl rfl (gnd rfl rfl rfl (gnd rfl rfl rfl (gnd rfl rfl rfl (gnd rfl rfl rfl (gnd rfl rfl rfl (gnd rfl rfl rfl (gnd rfl rfl rfl (gnd rfl rfl rfl (goff rfl rfl rfl (pf_ rfl rfl (nn_ (cf_ rfl ?_))))))))))))
  refine gw_skip (nx_blk_nrm (nx_then (gw_region (ad_ rfl rfl (mv_ rfl (wl_nil ?_))))))
  exact nx_round (i + 1, ky, mo) ⟨by dsimp only; omega, by rw [hstep]; exact hs2.symm⟩ (by dsimp only; omega) ⟨rfl, rfl, rfl, rfl, rfl, rfl, rfl, rfl, rfl, rfl, rfl, (some_int (by omega)), trivial⟩ (fun _ hm => hm.pick [0, 1, 2] [] [0, 1] rfl rfl)
 have hi : ¬ (((i : Nat) : Int) < ((n1 : Nat) : Int)) := by simpa using hh
 clear hh
 refine gw_exit ?_
 refine nx_then_exit (nx_then_exit ?_)
 refine nx_blk_here ?_
 refine nx_then (sr_ ?_)
 have hin1 : i = n1 := by omega
 subst hin1
 rw [List.take_of_length_le (by omega)] at hi1
 have hv : bestV l ks cls fr tt cents = (ky, mo) := by unfold bestV; rw [if_pos hB0, hi1]; rfl
 refine mv_ rfl (mv_ rfl (sg_ rfl (sg_ rfl (sg_ rfl (nn_ ?_)))))
 refine gw_ret ?_
 refine nx_ret3 rfl rfl rfl rfl fun wx hm => ?_
 exact ⟨by rw [hv, hB0], hm.g⟩
end Go.Proofs.YtdoooppeiphefaaGreatDoor
namespace Go.Proofs.YtdoooppeiphefaaGreatDoor
open Go.RowKit
structure Ex where
  key : ByteArray
  once : Int
  day : Int
  most : Int
def exEnc (x : Ex) : List Value := [.string x.key, .int .i64 x.once, .int .i64 x.day, .int .i64 x.most]
def ExOk (x : Ex) : Prop := x.key.size ≤ 1000000
def leEx (p : Option Ex) (b : Ex) : Bool := match p with
  | none => false
  | some q => leB b.key q.key
def exE (p : Option Ex) (b : Ex) : Int := if !keyB b.key then 5 else if leEx p b then 7 else if !inB b.once 0 1000000 then 1 else if !inB b.day 0 1000000 then 1 else if !inB b.most (-1) 1000000 then 1 else 0
def extrasE (l : List Ex) : Int := if 30 < l.length then 2 else scanE exE none l
def prevEx (l : List Ex) (k : Nat) : ByteArray := match prevOf l k with
  | none => ⟨#[]⟩
  | some q => q.key
theorem prevEx_succ {l : List Ex} {k : Nat} {x : Ex} (h : l[k]? = some x) : prevEx l (k + 1) = x.key := by
  unfold prevEx prevOf; rw [if_neg (by omega), Nat.add_sub_cancel, h]
theorem prevEx_le {l : List Ex} {k : Nat} {b : Ex} (h : keyB b.key = true) : leB b.key (prevEx l k) = leEx (prevOf l k) b := by
  unfold prevEx leEx
  cases prevOf l k with
  | none => exact key_low h
  | some q => rfl
theorem checkExtras_any (l : List Ex) (A : Option Addr) (n c : Nat) (w : World) (hl : SlT exEnc 4 295 w A n l) (hok : ∀ b ∈ l, ExOk b) (hn : n ≤ 1000000) :
  Calls Tryz.prog 205 #[.slice A n c] w (GotE w (extrasE l)) := by
 refine gw_enter ⟨52, w, none, []⟩ Tryz.func205 rfl Tryz.ntmps205 rfl (mem0 (X := [SlOld exEnc 4 295 w.heap.size none A n l]) (allF_cons hl.old allF_nil) (allL_cons SlOld.lasts allL_nil)) ?_
 refine sr_ ?_
 have hlen := hl.len
 refine sg_ rfl (nn_ (gw_seq (sr_ (mv_ rfl (wl_ov (ov_len es72 rfl) rfl ?_)))))
 refine wl_ov (ov_gtr rfl rfl) rfl ?_
 refine nn_ ?_
 refine gw_cond rfl (fun hh => ?_) (fun hh => ?_)
 ·have h1 : 30 < ((n : Nat) : Int) := by simpa using hh
  clear hh
  refine sr_ (sg_ rfl (nn_ ?_))
  refine gw_ret ?_
  refine nx_then_ret ?_
  refine nx_ret1 rfl rfl fun wx hm => ?_
  exact ⟨ret_int (by unfold extrasE; rw [if_pos (by omega)]), hm.g⟩
 have h1 : ¬ (30 < ((n : Nat) : Int)) := by simpa using hh
 clear hh
 refine gw_skip (nx_then (gw_seq (sr_ (mv_ rfl (wl_ov (ov_len es72 rfl) rfl (mv_ rfl (nn_ (gw_block ?_))))))))
 refine gw_loop (γ := Nat) (fun (k : Nat) => k ≤ n ∧ extrasE l = scanE exE (prevOf l k) (l.drop k)) (fun (k : Nat) => [(0, .slice A n c), (8, .slice A n c), (9, .int .i64 ((n : Nat) : Int)), (10, .int .i64 ((k : Nat) : Int))]) (fun (k : Nat) => fun _ => True) (fun (k : Nat) => []) (fun (k : Nat) => []) (fun (k : Nat) => [SlOld exEnc 4 295 w.heap.size none A n l]) (fun (k : Nat) => n - k) 0 ⟨Nat.zero_le _, by unfold extrasE; rw [if_neg (by omega)]; rfl⟩ ⟨rfl, rfl, rfl, rfl, trivial⟩ (fun _ hm => hm.pick [] [] [0] rfl rfl) ?_
 intro k hinv
 replace hinv : k ≤ n ∧ extrasE l = scanE exE (prevOf l k) (l.drop k) := hinv
 refine sr_ (wl_ov (ov_lss rfl rfl) rfl (nn_ (gw_seq ?_)))
 refine gw_cond rfl (fun hh => ?_) (fun hh => ?_)
 ·have hk : ((k : Nat) : Int) < ((n : Nat) : Int) := by simpa using hh
  clear hh
  refine gw_skip (nx_then (gw_seq (gw_block (sr_ ?_))))
  obtain ⟨b, off, hA, _, _⟩ := hl.get (by omega)
  subst hA
  obtain ⟨x, hx⟩ : ∃ x, l[k]? = some x := ⟨_, List.getElem?_eq_getElem (by omega)⟩
  obtain ⟨ke, on, dy, mo⟩ := x
  have hat := scanE_at exE l k _ hx
  have hk1 : ke.size ≤ 1000000 := hok _ (List.mem_of_getElem? hx)
  refine mv_ rfl ?_
  refine wl_ov (ov_index (j := k) es72 rfl rfl (by omega)) rfl ?_
  refine wl_ov (ov_elem (vs := [.string ke, .int .i64 on, .int .i64 dy, .int .i64 mo]) rz295 rfl (fun _ hm => (hm.fact 0 rfl).1) hx rfl rfl) rfl ?_
  refine wl_alloc zc295 rfl fun g1 => ?_
  refine sg_ rfl ?_
  refine wl_stores (cs' := [.string ke, .int .i64 on, .int .i64 dy, .int .i64 mo]) 0 rz295 rfl rfl rfl rfl rfl rfl rfl rfl ?_
  refine nn_ (gw_block (sr_ (fd_ fo295_0 rfl rfl (lk_ sc9 0 rfl rfl rfl ?_))))
  refine wl_callw rfl cb112 rfl rfl (fun wx hm => (isKey_any _ wx (by omega))) ?_
  refine wl_ov (ov_un_not rfl) rfl (sg_ rfl (nn_ ?_))
  refine gw_cond rfl (fun hh => ?_) (fun hh => ?_)
  ·have h2 : (keyB ke) = false := by simpa using hh
   clear hh
   refine sr_ (sg_ rfl (nn_ ?_))
   refine gw_ret ?_
   refine nx_blk_ret (nx_blk_ret (nx_then_ret (nx_then_ret (nx_blk_ret (nx_then_ret ?_)))))
   have hE : exE (prevOf l k) ⟨ke, on, dy, mo⟩ = 5 := by unfold exE; simp [h2]
   refine nx_ret1 rfl rfl fun wx hm => ?_
   exact ⟨ret_int (by rw [hinv.2, hat, if_neg (by rw [hE]; decide), hE]), hm.g⟩
  have h2 : (keyB ke) = true := by simpa using hh
  clear hh
  refine gw_seq ?_
  by_cases hk0 : k = 0
  ·have hO : leEx (prevOf l k) ⟨ke, on, dy, mo⟩ = false := by rw [prevOf_zero hk0]; rfl
   refine gd (fun wz => Blk wz g1 295 [.string ke, .int .i64 on, .int .i64 dy, .int .i64 mo] ∧ (SlOld exEnc 4 295 w.heap.size none (some ⟨b, off, none⟩) n l) wz ∧ True) mixed (fun _ hm => ⟨hm.bl 0, hm.fa 0, trivial⟩) fun z => ?_
   refine wt 0 14 1 rfl z (ov_move rfl) ?_
   refine wt 1 14 3 rfl z (ov_gtr rfl rfl) ?_
   refine wa_set 22 (v' := .bool false) rfl (congrArg Value.bool (decide_eq_false (by omega))) ?_
   refine wt 2 14 7 rfl z (ov_move rfl) ?_
   refine wtf 3 14 15 rfl rfl rfl z ?_
   refine wtf 4 14 31 rfl rfl rfl z ?_
   refine wtf 5 14 63 rfl rfl rfl z ?_
   refine wtf 6 14 127 rfl rfl rfl z ?_
   refine wtf 7 14 255 rfl rfl rfl z ?_
   refine wtf 8 14 511 rfl rfl rfl z ?_
   refine wtf 9 14 1023 rfl rfl rfl z ?_
   refine wtf 10 14 2047 rfl rfl rfl z ?_
   refine wtf 11 14 4095 rfl rfl rfl z ?_
   refine wt 12 14 8191 rfl z (ov_pick_f rfl rfl) ?_
   refine wt 13 14 16383 rfl z (ov_assign rfl) ?_
   refine wa_done (by kernel_rfl) ?_
   refine nx_then (cf_ rfl (sr_ (fd_ fo295_1 rfl rfl (lk_ sc3 0 rfl rfl rfl ?_))))
   refine wl_callw rfl cb169 rfl rfl (fun wx hm => (in_any _ _ _ wx)) ?_
   refine wl_ov (ov_un_not rfl) rfl (mv_ rfl ?_)
   rcases Bool.eq_false_or_eq_true (!(inB on 0 1000000)) with h4 | h4
   ·refine wl_set 39 rfl (congrArg Value.bool h4) ?_
    refine goff rfl rfl rfl (goff rfl rfl rfl (goff rfl rfl rfl (goff rfl rfl rfl (pt_ rfl rfl (mv_ rfl (goff rfl rfl rfl (goff rfl rfl rfl (goff rfl rfl rfl (goff rfl rfl rfl (pt_ rfl rfl (sg_ rfl (nn_ ?_))))))))))))
    refine ct_ rfl (sr_ (sg_ rfl (nn_ ?_)))
    refine gw_ret ?_
    refine nx_blk_ret (nx_blk_ret (nx_then_ret (nx_then_ret (nx_blk_ret (nx_then_ret ?_)))))
    have hE : exE (prevOf l k) ⟨ke, on, dy, mo⟩ = 1 := by unfold exE; simp [h2, hO, h4]
    refine nx_ret1 rfl rfl fun wx hm => ?_
    exact ⟨ret_int (by rw [hinv.2, hat, if_neg (by rw [hE]; decide), hE]), hm.g⟩
   refine wl_set 39 rfl (congrArg Value.bool h4) ?_
   refine wl_guard_on rfl rfl rfl (fd_ fo295_2 rfl rfl (wl_guard_on rfl rfl rfl (lk_ sc3 0 rfl rfl rfl (wl_guard_on rfl rfl rfl ?_))))
   refine wl_callw rfl cb169 rfl rfl (fun wx hm => (in_any _ _ _ wx)) ?_
   refine wl_guard_on rfl rfl rfl (wl_ov (ov_un_not rfl) rfl (pf_ rfl rfl (mv_ rfl ?_)))
   rcases Bool.eq_false_or_eq_true (!(inB dy 0 1000000)) with h5 | h5
   ·refine wl_set 45 rfl (congrArg Value.bool h5) ?_
    refine goff rfl rfl rfl (goff rfl rfl rfl (goff rfl rfl rfl (goff rfl rfl rfl (pt_ rfl rfl (sg_ rfl (nn_ (ct_ rfl (sr_ (sg_ rfl (nn_ ?_))))))))))
    refine gw_ret ?_
    refine nx_blk_ret (nx_blk_ret (nx_then_ret (nx_then_ret (nx_blk_ret (nx_then_ret ?_)))))
    have hE : exE (prevOf l k) ⟨ke, on, dy, mo⟩ = 1 := by unfold exE; simp [h2, hO, h4, h5]
    refine nx_ret1 rfl rfl fun wx hm => ?_
    exact ⟨ret_int (by rw [hinv.2, hat, if_neg (by rw [hE]; decide), hE]), hm.g⟩
   refine wl_set 45 rfl (congrArg Value.bool h5) ?_
   refine wl_guard_on rfl rfl rfl (fd_ fo295_3 rfl rfl (wl_guard_on rfl rfl rfl (lk_ sc3 0 rfl rfl rfl (wl_guard_on rfl rfl rfl ?_))))
   refine wl_callw rfl cb169 rfl rfl (fun wx hm => (in_any _ _ _ wx)) ?_
   refine wl_guard_on rfl rfl rfl (wl_ov (ov_un_not rfl) rfl (pf_ rfl rfl (sg_ rfl (nn_ ?_))))
   refine gw_cond rfl (fun hh => ?_) (fun hh => ?_)
   ·have h6 : (inB mo (-1) 1000000) = false := by simpa using hh
    clear hh
    refine sr_ (sg_ rfl (nn_ ?_))
    refine gw_ret ?_
    refine nx_blk_ret (nx_blk_ret (nx_then_ret (nx_then_ret (nx_blk_ret (nx_then_ret ?_)))))
    have hE : exE (prevOf l k) ⟨ke, on, dy, mo⟩ = 1 := by unfold exE; simp [h2, hO, h4, h5, h6]
    refine nx_ret1 rfl rfl fun wx hm => ?_
    exact ⟨ret_int (by rw [hinv.2, hat, if_neg (by rw [hE]; decide), hE]), hm.g⟩
   have h6 : (inB mo (-1) 1000000) = true := by simpa using hh
   clear hh
   refine gw_skip (nx_blk_nrm (nx_blk_nrm (nx_then (gw_region ?_))))
   have hE : exE (prevOf l k) ⟨ke, on, dy, mo⟩ = 0 := by unfold exE; simp [h2, hO, h4, h5, h6]
   refine ad_ rfl rfl (mv_ rfl (wl_nil ?_))
   exact nx_round (k + 1) ⟨by omega, by rw [hinv.2, hat, if_pos hE]⟩ (by omega) ⟨rfl, rfl, rfl, (some_int (by omega)), trivial⟩ (fun _ hm => hm.pick [] [] [0] rfl rfl)
  obtain ⟨y, hy⟩ : ∃ x, l[k - 1]? = some x := ⟨_, List.getElem?_eq_getElem (by omega)⟩
  obtain ⟨p0, p1, p2, p3⟩ := y
  refine gd (fun wz => Blk wz g1 295 [.string ke, .int .i64 on, .int .i64 dy, .int .i64 mo] ∧ (SlOld exEnc 4 295 w.heap.size none (some ⟨b, off, none⟩) n l) wz ∧ True) mixed (fun _ hm => ⟨hm.bl 0, hm.fa 0, trivial⟩) fun z => ?_
  refine wt 0 14 1 rfl z (ov_move rfl) ?_
  refine wt 1 14 3 rfl z (ov_gtr rfl rfl) ?_
  refine wa_set 22 (v' := .bool true) rfl (congrArg Value.bool (decide_eq_true (by omega))) ?_
  refine wt 2 14 7 rfl z (ov_move rfl) ?_
  refine wto 3 14 15 rfl rfl rfl z (ov_field fo295_0 rfl rfl) ?_
  refine wto 4 14 31 rfl rfl rfl z (ov_load sc9 rfl (fun _ hm => hm.1) rfl) ?_
  refine wto 5 14 63 rfl rfl rfl z (ov_move rfl) ?_
  refine wto 6 14 127 rfl rfl rfl z (ov_move rfl) ?_
  refine wto 7 14 255 rfl rfl rfl z (ov_sub rfl rfl (by omega) (by omega)) ?_
  refine wa_set 28 (v' := .int .i64 ((k - 1 : Nat) : Int)) rfl (congrArg (Value.int .i64) (by omega)) ?_
  refine wto 8 14 511 rfl rfl rfl z (ov_index (j := k - 1) es72 rfl rfl (by omega)) ?_
  refine wto 9 14 1023 rfl rfl rfl z (ov_field fo295_0 rfl rfl) ?_
  refine wto 10 14 2047 rfl rfl rfl z (ov_elem1 (k := 0) (v := .string p0) sc9 rfl (fun _ hm => (hm.2.1).1) hy rfl rfl) ?_
  refine wto 11 14 4095 rfl rfl rfl z (ov_sleq rfl rfl) ?_
  refine wt 12 14 8191 rfl z (ov_pick_t rfl rfl) ?_
  refine wt 13 14 16383 rfl z (ov_assign rfl) ?_
  refine wa_done (by kernel_rfl) ?_
  refine nx_then ?_
  refine gw_cond rfl (fun hh => ?_) (fun hh => ?_)
  ·have h9 : (Op.bytesLess ke.toList p0.toList || ke.toList == p0.toList) = true := by simpa using hh
   clear hh
   refine sr_ ?_
   have hO : leEx (prevOf l k) ⟨ke, on, dy, mo⟩ = true := by rw [prevOf_pos hk0 hy]; exact h9
   refine sg_ rfl (nn_ ?_)
   refine gw_ret ?_
   refine nx_blk_ret (nx_blk_ret (nx_then_ret (nx_then_ret (nx_blk_ret (nx_then_ret ?_)))))
   have hE : exE (prevOf l k) ⟨ke, on, dy, mo⟩ = 7 := by unfold exE; simp [h2, hO]
   refine nx_ret1 rfl rfl fun wx hm => ?_
   exact ⟨ret_int (by rw [hinv.2, hat, if_neg (by rw [hE]; decide), hE]), hm.g⟩
  have h9 : (Op.bytesLess ke.toList p0.toList || ke.toList == p0.toList) = false := by simpa using hh
  clear hh
  refine sr_ ?_
  have hO : leEx (prevOf l k) ⟨ke, on, dy, mo⟩ = false := by rw [prevOf_pos hk0 hy]; exact h9
  refine fd_ fo295_1 rfl rfl (lk_ sc3 0 rfl rfl rfl ?_)
  refine wl_callw rfl cb169 rfl rfl (fun wx hm => (in_any _ _ _ wx)) ?_
  refine wl_ov (ov_un_not rfl) rfl (mv_ rfl ?_)
  rcases Bool.eq_false_or_eq_true (!(inB on 0 1000000)) with h4 | h4
  ·refine wl_set 39 rfl (congrArg Value.bool h4) ?_
   refine goff rfl rfl rfl (goff rfl rfl rfl (goff rfl rfl rfl (goff rfl rfl rfl (pt_ rfl rfl (mv_ rfl (goff rfl rfl rfl (goff rfl rfl rfl (goff rfl rfl rfl (goff rfl rfl rfl (pt_ rfl rfl (sg_ rfl (nn_ ?_))))))))))))
   refine ct_ rfl (sr_ (sg_ rfl (nn_ ?_)))
   refine gw_ret ?_
   refine nx_blk_ret (nx_blk_ret (nx_then_ret (nx_then_ret (nx_blk_ret (nx_then_ret ?_)))))
   have hE : exE (prevOf l k) ⟨ke, on, dy, mo⟩ = 1 := by unfold exE; simp [h2, hO, h4]
   refine nx_ret1 rfl rfl fun wx hm => ?_
   exact ⟨ret_int (by rw [hinv.2, hat, if_neg (by rw [hE]; decide), hE]), hm.g⟩
  refine wl_set 39 rfl (congrArg Value.bool h4) ?_
  refine wl_guard_on rfl rfl rfl (fd_ fo295_2 rfl rfl (wl_guard_on rfl rfl rfl (lk_ sc3 0 rfl rfl rfl (wl_guard_on rfl rfl rfl ?_))))
  refine wl_callw rfl cb169 rfl rfl (fun wx hm => (in_any _ _ _ wx)) ?_
  refine wl_guard_on rfl rfl rfl (wl_ov (ov_un_not rfl) rfl (pf_ rfl rfl (mv_ rfl ?_)))
  rcases Bool.eq_false_or_eq_true (!(inB dy 0 1000000)) with h5 | h5
  ·refine wl_set 45 rfl (congrArg Value.bool h5) ?_
   refine goff rfl rfl rfl (goff rfl rfl rfl (goff rfl rfl rfl (goff rfl rfl rfl (pt_ rfl rfl (sg_ rfl (nn_ (ct_ rfl (sr_ (sg_ rfl (nn_ ?_))))))))))
   refine gw_ret ?_
   refine nx_blk_ret (nx_blk_ret (nx_then_ret (nx_then_ret (nx_blk_ret (nx_then_ret ?_)))))
   have hE : exE (prevOf l k) ⟨ke, on, dy, mo⟩ = 1 := by unfold exE; simp [h2, hO, h4, h5]
   refine nx_ret1 rfl rfl fun wx hm => ?_
   exact ⟨ret_int (by rw [hinv.2, hat, if_neg (by rw [hE]; decide), hE]), hm.g⟩
  refine wl_set 45 rfl (congrArg Value.bool h5) ?_
  refine wl_guard_on rfl rfl rfl (fd_ fo295_3 rfl rfl (wl_guard_on rfl rfl rfl (lk_ sc3 0 rfl rfl rfl (wl_guard_on rfl rfl rfl ?_))))
  refine wl_callw rfl cb169 rfl rfl (fun wx hm => (in_any _ _ _ wx)) ?_
  refine wl_guard_on rfl rfl rfl (wl_ov (ov_un_not rfl) rfl (pf_ rfl rfl (sg_ rfl (nn_ ?_))))
  refine gw_cond rfl (fun hh => ?_) (fun hh => ?_)
  ·have h6 : (inB mo (-1) 1000000) = false := by simpa using hh
   clear hh
   refine sr_ (sg_ rfl (nn_ ?_))
   refine gw_ret ?_
   refine nx_blk_ret (nx_blk_ret (nx_then_ret (nx_then_ret (nx_blk_ret (nx_then_ret ?_)))))
   have hE : exE (prevOf l k) ⟨ke, on, dy, mo⟩ = 1 := by unfold exE; simp [h2, hO, h4, h5, h6]
   refine nx_ret1 rfl rfl fun wx hm => ?_
   exact ⟨ret_int (by rw [hinv.2, hat, if_neg (by rw [hE]; decide), hE]), hm.g⟩
  have h6 : (inB mo (-1) 1000000) = true := by simpa using hh
  clear hh
  refine gw_skip (nx_blk_nrm (nx_blk_nrm (nx_then (gw_region ?_))))
  have hE : exE (prevOf l k) ⟨ke, on, dy, mo⟩ = 0 := by unfold exE; simp [h2, hO, h4, h5, h6]
  refine ad_ rfl rfl (mv_ rfl (wl_nil ?_))
  exact nx_round (k + 1) ⟨by omega, by rw [hinv.2, hat, if_pos hE]⟩ (by omega) ⟨rfl, rfl, rfl, (some_int (by omega)), trivial⟩ (fun _ hm => hm.pick [] [] [0] rfl rfl)
 have hk : ¬ (((k : Nat) : Int) < ((n : Nat) : Int)) := by simpa using hh
 clear hh
 refine gw_exit ?_
 refine nx_then_exit (nx_then_exit ?_)
 refine nx_blk_here ?_
 refine nx_then (sr_ (sg_ rfl (nn_ ?_)))
 refine gw_ret ?_
 refine nx_ret1 rfl rfl fun wx hm => ?_
 exact ⟨ret_int (by rw [hinv.2, scanE_end _ _ _ _ (by omega)]), hm.g⟩
theorem extrasFault_any (l : List Ex) (A : Option Addr) (n c : Nat) (w : World) (hl : SlT exEnc 4 295 w A n l) (hok : ∀ b ∈ l, ExOk b) (hn : n ≤ 1000000) :
  Calls Tryz.prog 200 #[.slice A n c] w (GotE w (extrasE l)) := by
 refine gw_enter ⟨45, w, none, []⟩ Tryz.func200 rfl Tryz.ntmps200 rfl (mem0 (X := [SlOld exEnc 4 295 w.heap.size none A n l]) (allF_cons hl.old allF_nil) (allL_cons SlOld.lasts allL_nil)) ?_
 refine sr_ ?_
 have hlen := hl.len
 refine sg_ rfl (nn_ (gw_seq (sr_ (mv_ rfl (wl_ov (ov_len es72 rfl) rfl ?_)))))
 refine wl_ov (ov_gtr rfl rfl) rfl ?_
 refine nn_ ?_
 refine gw_cond rfl (fun hh => ?_) (fun hh => ?_)
 ·have h1 : 30 < ((n : Nat) : Int) := by simpa using hh
  clear hh
  refine sr_ (sg_ rfl (nn_ ?_))
  refine gw_ret ?_
  refine nx_then_ret ?_
  refine nx_ret1 rfl rfl fun wx hm => ?_
  exact ⟨ret_int (by unfold extrasE; rw [if_pos (by omega)]), hm.g⟩
 have h1 : ¬ (30 < ((n : Nat) : Int)) := by simpa using hh
 clear hh
 refine gw_skip (nx_then (sr_ (sg_ rfl (nn_ (gw_seq (sr_ (mv_ rfl (wl_ov (ov_len es72 rfl) rfl (mv_ rfl (wl_nil ?_))))))))))
 refine nx_then (gw_block ?_)
 refine gw_loop (γ := Nat) (fun (k : Nat) => k ≤ n ∧ extrasE l = scanE exE (prevOf l k) (l.drop k)) (fun (k : Nat) => [(3, .string (prevEx l k)), (9, .slice A n c), (10, .int .i64 ((n : Nat) : Int)), (11, .int .i64 ((k : Nat) : Int))]) (fun (k : Nat) => fun _ => True) (fun (k : Nat) => []) (fun (k : Nat) => []) (fun (k : Nat) => [SlOld exEnc 4 295 w.heap.size none A n l]) (fun (k : Nat) => n - k) 0 ⟨Nat.zero_le _, by unfold extrasE; rw [if_neg (by omega)]; rfl⟩ ⟨rfl, rfl, rfl, rfl, trivial⟩ (fun _ hm => hm.pick [] [] [0] rfl rfl) ?_
 intro k hinv
 replace hinv : k ≤ n ∧ extrasE l = scanE exE (prevOf l k) (l.drop k) := hinv
 refine sr_ (wl_ov (ov_lss rfl rfl) rfl (nn_ (gw_seq ?_)))
 refine gw_cond rfl (fun hh => ?_) (fun hh => ?_)
 ·have hk : ((k : Nat) : Int) < ((n : Nat) : Int) := by simpa using hh
  clear hh
  refine gw_skip (nx_then (gw_seq (gw_block (sr_ ?_))))
  obtain ⟨b, off, hA, _, _⟩ := hl.get (by omega)
  subst hA
  obtain ⟨x, hx⟩ : ∃ x, l[k]? = some x := ⟨_, List.getElem?_eq_getElem (by omega)⟩
  obtain ⟨ke, on, dy, mo⟩ := x
  have hat := scanE_at exE l k _ hx
  have hk1 : ke.size ≤ 1000000 := hok _ (List.mem_of_getElem? hx)
  refine wl_ov (ov_index (j := k) es72 rfl rfl (by omega)) rfl ?_
  refine wl_ov (ov_elem (vs := [.string ke, .int .i64 on, .int .i64 dy, .int .i64 mo]) rz295 rfl (fun _ hm => (hm.fact 0 rfl).1) hx rfl rfl) rfl ?_
  refine wl_alloc zc295 rfl fun g1 => ?_
  refine wl_stores (cs' := [.string ke, .int .i64 on, .int .i64 dy, .int .i64 mo]) 0 rz295 rfl rfl rfl rfl rfl rfl rfl rfl ?_
  refine nn_ (gw_seq (gw_block (sr_ (fd_ fo295_0 rfl rfl (lk_ sc9 0 rfl rfl rfl ?_)))))
  refine wl_callv rfl cb153 rfl rfl (fun wx hm => (key_any _ wx (by omega))) ?_
  refine wl_ov (ov_un_not rfl) rfl (sg_ rfl (nn_ ?_))
  refine gw_cond rfl (fun hh => ?_) (fun hh => ?_)
  ·have h2 : (keyB ke) = false := by simpa using hh
   clear hh
   refine sr_ (sg_ rfl (nn_ ?_))
   refine gw_ret ?_
   refine nx_blk_ret (nx_then_ret (nx_blk_ret (nx_then_ret (nx_then_ret (nx_blk_ret (nx_then_ret ?_))))))
   have hE : exE (prevOf l k) ⟨ke, on, dy, mo⟩ = 5 := by unfold exE; simp [h2]
   refine nx_ret1 rfl rfl fun wx hm => ?_
   exact ⟨ret_int (by rw [hinv.2, hat, if_neg (by rw [hE]; decide), hE]), hm.g⟩
  have h2 : (keyB ke) = true := by simpa using hh
  clear hh
  refine sr_ (fd_ fo295_0 rfl rfl (lk_ sc9 0 rfl rfl rfl (mv_ rfl ?_)))
  refine wl_ov (ov_sleq rfl rfl) rfl ?_
  refine sg_ rfl (nn_ ?_)
  refine gw_cond rfl (fun hh => ?_) (fun hh => ?_)
  ·have h9 : (Op.bytesLess ke.toList (prevEx l k).toList || ke.toList == (prevEx l k).toList) = true := by simpa using hh
   clear hh
   refine sr_ ?_
   have hO : leEx (prevOf l k) ⟨ke, on, dy, mo⟩ = true := (prevEx_le (b := ⟨ke, on, dy, mo⟩) (by simpa using h2)).symm.trans h9
   refine sg_ rfl (nn_ ?_)
   refine gw_ret ?_
   refine nx_blk_ret (nx_then_ret (nx_blk_ret (nx_then_ret (nx_then_ret (nx_blk_ret (nx_then_ret ?_))))))
   have hE : exE (prevOf l k) ⟨ke, on, dy, mo⟩ = 7 := by unfold exE; simp [h2, hO]
   refine nx_ret1 rfl rfl fun wx hm => ?_
   exact ⟨ret_int (by rw [hinv.2, hat, if_neg (by rw [hE]; decide), hE]), hm.g⟩
  have h9 : (Op.bytesLess ke.toList (prevEx l k).toList || ke.toList == (prevEx l k).toList) = false := by simpa using hh
  clear hh
  refine sr_ ?_
  have hO : leEx (prevOf l k) ⟨ke, on, dy, mo⟩ = false := (prevEx_le (b := ⟨ke, on, dy, mo⟩) (by simpa using h2)).symm.trans h9
  refine fd_ fo295_1 rfl rfl (lk_ sc3 0 rfl rfl rfl ?_)
  refine wl_callw rfl cb75 rfl rfl (fun wx hm => (rin_any _ _ _ wx)) ?_
  refine wl_ov (ov_un_not rfl) rfl (mv_ rfl ?_)
  rcases Bool.eq_false_or_eq_true (!(inB on 0 1000000)) with h4 | h4
  ·refine wl_set 30 rfl (congrArg Value.bool h4) ?_
   refine goff rfl rfl rfl (goff rfl rfl rfl (goff rfl rfl rfl (goff rfl rfl rfl (pt_ rfl rfl (mv_ rfl (goff rfl rfl rfl (goff rfl rfl rfl (goff rfl rfl rfl (goff rfl rfl rfl (pt_ rfl rfl (sg_ rfl (nn_ ?_))))))))))))
   refine ct_ rfl (sr_ (sg_ rfl (nn_ ?_)))
   refine gw_ret ?_
   refine nx_blk_ret (nx_then_ret (nx_blk_ret (nx_then_ret (nx_then_ret (nx_blk_ret (nx_then_ret ?_))))))
   have hE : exE (prevOf l k) ⟨ke, on, dy, mo⟩ = 1 := by unfold exE; simp [h2, hO, h4]
   refine nx_ret1 rfl rfl fun wx hm => ?_
   exact ⟨ret_int (by rw [hinv.2, hat, if_neg (by rw [hE]; decide), hE]), hm.g⟩
  refine wl_set 30 rfl (congrArg Value.bool h4) ?_
  refine wl_guard_on rfl rfl rfl (fd_ fo295_2 rfl rfl (wl_guard_on rfl rfl rfl (lk_ sc3 0 rfl rfl rfl (wl_guard_on rfl rfl rfl ?_))))
  refine wl_callw rfl cb75 rfl rfl (fun wx hm => (rin_any _ _ _ wx)) ?_
  refine wl_guard_on rfl rfl rfl (wl_ov (ov_un_not rfl) rfl (pf_ rfl rfl (mv_ rfl ?_)))
  rcases Bool.eq_false_or_eq_true (!(inB dy 0 1000000)) with h5 | h5
  ·refine wl_set 36 rfl (congrArg Value.bool h5) ?_
   refine goff rfl rfl rfl (goff rfl rfl rfl (goff rfl rfl rfl (goff rfl rfl rfl (pt_ rfl rfl (sg_ rfl (nn_ (ct_ rfl (sr_ (sg_ rfl (nn_ ?_))))))))))
   refine gw_ret ?_
   refine nx_blk_ret (nx_then_ret (nx_blk_ret (nx_then_ret (nx_then_ret (nx_blk_ret (nx_then_ret ?_))))))
   have hE : exE (prevOf l k) ⟨ke, on, dy, mo⟩ = 1 := by unfold exE; simp [h2, hO, h4, h5]
   refine nx_ret1 rfl rfl fun wx hm => ?_
   exact ⟨ret_int (by rw [hinv.2, hat, if_neg (by rw [hE]; decide), hE]), hm.g⟩
  refine wl_set 36 rfl (congrArg Value.bool h5) ?_
  refine wl_guard_on rfl rfl rfl (fd_ fo295_3 rfl rfl (wl_guard_on rfl rfl rfl (lk_ sc3 0 rfl rfl rfl (wl_guard_on rfl rfl rfl ?_))))
  refine wl_callw rfl cb75 rfl rfl (fun wx hm => (rin_any _ _ _ wx)) ?_
  refine wl_guard_on rfl rfl rfl (wl_ov (ov_un_not rfl) rfl (pf_ rfl rfl (sg_ rfl (nn_ ?_))))
  refine gw_cond rfl (fun hh => ?_) (fun hh => ?_)
  ·have h6 : (inB mo (-1) 1000000) = false := by simpa using hh
   clear hh
   refine sr_ (sg_ rfl (nn_ ?_))
   refine gw_ret ?_
   refine nx_blk_ret (nx_then_ret (nx_blk_ret (nx_then_ret (nx_then_ret (nx_blk_ret (nx_then_ret ?_))))))
   have hE : exE (prevOf l k) ⟨ke, on, dy, mo⟩ = 1 := by unfold exE; simp [h2, hO, h4, h5, h6]
   refine nx_ret1 rfl rfl fun wx hm => ?_
   exact ⟨ret_int (by rw [hinv.2, hat, if_neg (by rw [hE]; decide), hE]), hm.g⟩
  have h6 : (inB mo (-1) 1000000) = true := by simpa using hh
  clear hh
  refine gw_skip (nx_blk_nrm (nx_then (gw_region ?_)))
  have hE : exE (prevOf l k) ⟨ke, on, dy, mo⟩ = 0 := by unfold exE; simp [h2, hO, h4, h5, h6]
  refine fd_ fo295_0 rfl rfl (lk_ sc9 0 rfl rfl rfl (sg_ rfl (wl_nil (nx_blk_nrm (nx_then (gw_region (ad_ rfl rfl (mv_ rfl (wl_nil ?_)))))))))
  exact nx_round (k + 1) ⟨by omega, by rw [hinv.2, hat, if_pos hE]⟩ (by omega) ⟨(congrArg (fun z => some (Value.string z)) (prevEx_succ hx).symm), rfl, rfl, (some_int (by omega)), trivial⟩ (fun _ hm => hm.pick [] [] [0] rfl rfl)
 have hk : ¬ (((k : Nat) : Int) < ((n : Nat) : Int)) := by simpa using hh
 clear hh
 refine gw_exit ?_
 refine nx_then_exit (nx_then_exit ?_)
 refine nx_blk_here ?_
 refine nx_then (sr_ (sg_ rfl (nn_ ?_)))
 refine gw_ret ?_
 refine nx_ret1 rfl rfl fun wx hm => ?_
 exact ⟨ret_int (by rw [hinv.2, scanE_end _ _ _ _ (by omega)]), hm.g⟩
theorem ex_len (x : Ex) : (exEnc x).length = 4 := rfl
theorem extrasE_ok {l : List Ex} (h : extrasE l = 0) : l.length ≤ 30 ∧ ∀ x ∈ l, keyB x.key = true ∧ (0 ≤ x.once ∧ x.once ≤ 1000000) ∧ (0 ≤ x.day ∧ x.day ≤ 1000000) ∧ (-1 ≤ x.most ∧ x.most ≤ 1000000) := by
  unfold extrasE at h
  split at h
  · cases h
  · refine ⟨by omega, fun x hx => ?_⟩
    obtain ⟨q, hq⟩ := scan_each h x hx
    unfold exE at hq
    repeat (split at hq; · cases hq)
    rename_i h1 h2 h3 h4 h5
    simp [inB] at h1 h3 h4 h5
    exact ⟨h1, h3, h4, h5⟩
def exP (k : ByteArray) (x : Ex) : Bool := x.key.toList == k.toList
/-- What an extra costs. -/
def exV (x : Ex) (n : Int) : Int := x.once + (if 0 ≤ x.most then min (x.day * n) x.most else x.day * n)
def exAt (l : List Ex) (k : ByteArray) (n : Int) : Int := match l[(ixP (exP k) l 0).toNat]? with
  | some x => exV x n
  | none => 0
theorem exV_bound {x : Ex} {n : Int} (h1 : 0 ≤ x.once ∧ x.once ≤ 1000000) (h2 : 0 ≤ x.day ∧ x.day ≤ 1000000) (h3 : -1 ≤ x.most ∧ x.most ≤ 1000000) (hn : 0 ≤ n ∧ n ≤ 120) : (0 ≤ x.day * n ∧ x.day * n ≤ 120000000) ∧ 0 ≤ exV x n ∧ exV x n ≤ 121000000 := by
  have a : 0 ≤ x.day * n := Int.mul_nonneg h2.1 hn.1
  have b := Int.mul_le_mul h2.2 hn.2 hn.1 (by omega)
  unfold exV
  refine ⟨⟨a, by omega⟩, ?_⟩
  split <;> omega
theorem pred_extraAt_1_tariff (ke : ByteArray) (on : Int) (dy : Int) (mo : Int) (gk : Nat) (k : ByteArray) (w : World) (hk : Blk w gk 9 [.string k]) :
  Calls Tryz.prog 276 #[.agg #[.string ke, .int .i64 on, .int .i64 dy, .int .i64 mo], .pointer (some ⟨gk, 0, none⟩)] w (fun e w' => e = .returned (.bool (exP k ⟨ke, on, dy, mo⟩)) ∧ w.grownBy w' none) := by
 refine gw_enter ⟨8, w, none, []⟩ Tryz.func276 rfl Tryz.ntmps276 rfl (mem0 (X := [BlkOld w.heap.size none gk 9 [.string k]]) (allF_cons hk.old allF_nil) (allL_cons BlkOld.lasts allL_nil)) ?_
 refine sr_ ?_
 refine wl_box rfl rfl rfl fun g1 => ?_
 refine sg_ rfl (nn_ (sr_ (fd_ fo295_0 rfl rfl (lk_ sc9 0 rfl rfl rfl ?_))))
 refine wl_ov (ov_load (v := .string k) sc9 rfl (fun _ hm => (hm.fact 0 rfl).2) rfl) rfl ?_
 refine wl_ov (ov_seql rfl rfl) rfl (sg_ rfl (nn_ ?_))
 refine gw_ret ?_
 refine nx_ret1 rfl rfl fun wx hm => ?_
 exact ⟨rfl, hm.g⟩
theorem index_extraAt_1_tariff (l : List Ex) (A : Option Addr) (n c0 : Nat) (gk : Nat) (k : ByteArray) (w : World) (hl : SlT exEnc 4 295 w A n l) (hn : n ≤ 1000000) (hk : Blk w gk 9 [.string k]) :
  Calls Tryz.prog 275 #[.slice A n c0, .func (.func 276) #[] #[.pointer (some ⟨gk, 0, none⟩)]] w (GotE w (ixP (exP k) l 0)) := by
 refine gw_enter ⟨19, w, none, []⟩ Tryz.func275 rfl Tryz.ntmps275 rfl (mem0 (X := [SlOld exEnc 4 295 w.heap.size none A n l, BlkOld w.heap.size none gk 9 [.string k]]) (allF_cons hl.old (allF_cons hk.old allF_nil)) (allL_cons SlOld.lasts (allL_cons BlkOld.lasts allL_nil))) ?_
 refine sr_ ?_
 have hlen := hl.len
 refine sg_ rfl (nn_ (gw_seq (sr_ (mv_ rfl (wl_ov (ov_len es72 rfl) rfl (mv_ rfl (nn_ (gw_block ?_))))))))
 refine gw_loop (γ := Nat) (fun (i : Nat) => i ≤ n ∧ ixP (exP k) l 0 = ixP (exP k) (l.drop i) i) (fun (i : Nat) => [(0, .slice A n c0), (1, .func (.func 276) #[] #[.pointer (some ⟨gk, 0, none⟩)]), (7, .int .i64 ((n : Nat) : Int)), (8, .int .i64 ((i : Nat) : Int))]) (fun (i : Nat) => fun _ => True) (fun (i : Nat) => []) (fun (i : Nat) => []) (fun (i : Nat) => [SlOld exEnc 4 295 w.heap.size none A n l, BlkOld w.heap.size none gk 9 [.string k]]) (fun (i : Nat) => n - i) 0 ⟨Nat.zero_le _, rfl⟩ ⟨rfl, rfl, rfl, rfl, trivial⟩ (fun _ hm => hm.pick [] [] [0, 1] rfl rfl) ?_
 intro i hinv
 replace hinv : i ≤ n ∧ ixP (exP k) l 0 = ixP (exP k) (l.drop i) i := hinv
 refine sr_ (wl_ov (ov_lss rfl rfl) rfl (nn_ (gw_seq ?_)))
 refine gw_cond rfl (fun hh => ?_) (fun hh => ?_)
 ·have hi : ((i : Nat) : Int) < ((n : Nat) : Int) := by simpa using hh
  clear hh
  refine gw_skip (nx_then (gw_seq (gw_block (sr_ ?_))))
  obtain ⟨b, off, hA, _, _⟩ := hl.get (by omega)
  subst hA
  obtain ⟨x, hx⟩ : ∃ x, l[i]? = some x := ⟨_, List.getElem?_eq_getElem (by omega)⟩
  obtain ⟨ke, on, dy, mo⟩ := x
  have hat := ixP_at (p := exP k) hx
  refine mv_ rfl (sg_ rfl (nn_ (sr_ (mv_ rfl (mv_ rfl (mv_ rfl ?_))))))
  refine wl_ov (ov_index (j := i) es72 rfl rfl (by omega)) rfl ?_
  refine wl_ov (ov_elem (vs := [.string ke, .int .i64 on, .int .i64 dy, .int .i64 mo]) rz295 rfl (fun _ hm => (hm.fact 0 rfl).1) hx rfl rfl) rfl ?_
  refine wl_callv rfl cb276 rfl rfl (fun wx hm => (pred_extraAt_1_tariff ke on dy mo gk k wx (hm.fact 1 rfl).2)) ?_
  refine nn_ ?_
  refine gw_cond rfl (fun hh => ?_) (fun hh => ?_)
  ·have hq : (exP k ⟨ke, on, dy, mo⟩) = true := by simpa using hh
   clear hh
   refine sr_ (mv_ rfl (sg_ rfl (nn_ ?_)))
   refine gw_ret ?_
   refine nx_blk_ret (nx_then_ret (nx_then_ret (nx_blk_ret (nx_then_ret ?_))))
   refine nx_ret1 rfl rfl fun wx hm => ?_
   exact ⟨ret_int (by rw [hinv.2, hat, if_pos hq]), hm.g⟩
  have hq : (exP k ⟨ke, on, dy, mo⟩) = false := by simpa using hh
  clear hh
  refine gw_skip (nx_blk_nrm (nx_then (gw_region (ad_ rfl rfl (mv_ rfl (wl_nil ?_))))))
  exact nx_round (i + 1) ⟨by omega, by rw [hinv.2, hat, if_neg (by rw [hq]; decide)]⟩ (by omega) ⟨rfl, rfl, rfl, (some_int (by omega)), trivial⟩ (fun _ hm => hm.pick [] [] [0, 1] rfl rfl)
 have hi : ¬ (((i : Nat) : Int) < ((n : Nat) : Int)) := by simpa using hh
 clear hh
 refine gw_exit ?_
 refine nx_then_exit (nx_then_exit ?_)
 refine nx_blk_here ?_
 refine nx_then (sr_ (sg_ rfl ?_))
 refine wl_set 4 (v' := .int .i64 (-1)) rfl rfl ?_
 refine nn_ ?_
 refine gw_ret ?_
 refine nx_ret1 rfl rfl fun wx hm => ?_
 exact ⟨ret_int (by rw [hinv.2, List.drop_eq_nil_of_le (by omega)]; rfl), hm.g⟩
theorem extraAt_any (l : List Ex) (A : Option Addr) (n c0 : Nat) (k : ByteArray) (w : World) (hl : SlT exEnc 4 295 w A n l) (hn : n ≤ 1000000) :
  Calls Tryz.prog 210 #[.slice A n c0, .string k] w (GotE w (ixP (exP k) l 0)) := by
 refine gw_enter ⟨8, w, none, []⟩ Tryz.func210 rfl Tryz.ntmps210 rfl (mem0 (X := [SlOld exEnc 4 295 w.heap.size none A n l]) (allF_cons hl.old allF_nil) (allL_cons SlOld.lasts allL_nil)) ?_
 refine sr_ ?_
 refine wl_box rfl rfl rfl fun g1 => ?_
 refine sg_ rfl (nn_ (sr_ (mv_ rfl (wl_ov (ov_makeFunc rfl rfl) rfl ?_))))
 refine wl_callv rfl cb275 rfl rfl (fun wx hm => (index_extraAt_1_tariff l A n c0 _ k wx (hm.fact 0 rfl).1 hn (hm.blkI 0 rfl))) ?_
 refine sg_ rfl (nn_ ?_)
 refine gw_ret ?_
 refine nx_ret1 rfl rfl fun wx hm => ?_
 exact ⟨rfl, hm.g⟩
theorem extraCost_any (ke : ByteArray) (on dy mo nn : Int) (w : World) (h1 : 0 ≤ (⟨ke, on, dy, mo⟩ : Ex).once ∧ (⟨ke, on, dy, mo⟩ : Ex).once ≤ 1000000) (h2 : 0 ≤ (⟨ke, on, dy, mo⟩ : Ex).day ∧ (⟨ke, on, dy, mo⟩ : Ex).day ≤ 1000000) (h3 : -1 ≤ (⟨ke, on, dy, mo⟩ : Ex).most ∧ (⟨ke, on, dy, mo⟩ : Ex).most ≤ 1000000) (h4 : 0 ≤ nn ∧ nn ≤ 120) :
  Calls Tryz.prog 212 #[.agg #[.string ke, .int .i64 on, .int .i64 dy, .int .i64 mo], .int .i64 nn] w (GotE w (exV ⟨ke, on, dy, mo⟩ nn)) := by
 refine gw_enter ⟨21, w, none, []⟩ Tryz.func212 rfl Tryz.ntmps212 rfl (mem0 (X := []) allF_nil allL_nil) ?_
 refine sr_ ?_
 obtain ⟨⟨a1, a2⟩, a3, a4⟩ := exV_bound (x := ⟨ke, on, dy, mo⟩) h1 h2 h3 h4
 dsimp only at a1 a2
 obtain ⟨h10, h11⟩ := h1
 obtain ⟨h20, h21⟩ := h2
 obtain ⟨h30, h31⟩ := h3
 unfold exV at a3 a4
 dsimp only at a3 a4 h10 h11 h20 h21 h30 h31
 refine wl_box rfl rfl rfl fun g1 => ?_
 refine sg_ rfl (nn_ (sr_ (fd_ fo295_2 rfl rfl (lk_ sc3 0 rfl rfl rfl (mv_ rfl ?_)))))
 refine wl_ov (ov_mul rfl rfl (by omega) (by omega)) rfl ?_
 refine sg_ rfl (nn_ (gw_seq (sr_ (fd_ fo295_3 rfl rfl (lk_ sc3 0 rfl rfl rfl ?_)))))
 refine wl_ov (ov_geq rfl rfl) rfl ?_
 refine nn_ ?_
 refine gw_cond rfl (fun hh => ?_) (fun hh => ?_)
 ·have hm0 : 0 ≤ mo := by simpa using hh
  clear hh
  refine gw_region ?_
  rw [if_pos hm0] at a3 a4
  refine mv_ rfl (fd_ fo295_3 rfl rfl (lk_ sc3 0 rfl rfl rfl ?_))
  refine wl_ov (ov_min rfl rfl) rfl ?_
  refine sg_ rfl (nn_ (sr_ (fd_ fo295_1 rfl rfl (lk_ sc3 0 rfl rfl rfl (mv_ rfl (ad_ rfl rfl (sg_ rfl (nn_ ?_))))))))
  refine gw_ret ?_
  refine nx_ret1 rfl rfl fun wx hm => ?_
  exact ⟨ret_int (by unfold exV; rw [if_pos (show 0 ≤ mo from hm0)]), hm.g⟩
 have hm0 : ¬ (0 ≤ mo) := by simpa using hh
 clear hh
 refine gw_skip (nx_then (sr_ ?_))
 rw [if_neg hm0] at a3 a4
 refine fd_ fo295_1 rfl rfl (lk_ sc3 0 rfl rfl rfl (mv_ rfl (ad_ rfl rfl (sg_ rfl (nn_ ?_)))))
 refine gw_ret ?_
 refine nx_ret1 rfl rfl fun wx hm => ?_
 exact ⟨ret_int (by unfold exV; rw [if_neg (show ¬ 0 ≤ mo from hm0)]), hm.g⟩
theorem ex_two {a b : Ex} {q : Nat} (ha : a.key.size ≤ 1000000) (hb : b.key.size ≤ 1000000) : ∀ x ∈ [a, b].take q, ExOk x := fun x hx => by
  have h := List.mem_of_mem_take hx
  rcases List.mem_cons.1 h with rfl | h
  · exact ha
  · rw [List.mem_singleton.1 h]; exact hb
theorem gextras_any (w : World) (B sb m : Nat) (hS : Strm 25 w B sb m) (hm : m ≤ 100000000000) :
  Calls Tryz.prog 195 #[.pointer (some ⟨sb, 0, none⟩)] w (fun e w' => ∃ (A : Option Addr) (n c : Nat) (l : List Ex), e = .returned (.slice A n c) ∧ SlT exEnc 4 295 w' A n l ∧ (∀ x ∈ l, ExOk x) ∧ n ≤ 2 ∧ n ≤ c ∧ Strm 25 w' B sb (m + 30) ∧ w.grownBy w' (some sb)) := by
 refine gw_enter ⟨42, w, (some sb), []⟩ Tryz.func195 rfl Tryz.ntmps195 rfl (memS (X := []) hS allF_nil allL_nil) ?_
 refine sr_ (sg_ rfl (nn_ (sr_ (mv_ rfl ?_))))
 refine wl_buildSlice (e := 3) (cs := [.int .i64 0, .int .i64 5, .int .i64 100]) rfl (by kernel_rfl) rfl fun g1 => ?_
 refine wl_got (γ := Int) (val := fun v => .int .i64 v) (φ := fun v => v ∈ ([0, 5, 100] : List Int)) rfl cb63 rfl rfl rfl rfl (fun wx hm => (pick_any [0, 5, 100] _ _ _ wx B sb _ hm.k (by omega) (by simp) (by simp) (hm.blkI 0 rfl) (hm.neRow 0 rfl rfl))) fun v2 hv2 => ?_
 have bv2 : 0 ≤ v2 ∧ v2 ≤ 100 := mem_rng hv2 (by decide)
 have bv20 := bv2.1
 have bv21 := bv2.2
 clear bv2
 refine mv_ rfl ?_
 refine wl_buildSlice (e := 3) (cs := [.int .i64 0, .int .i64 2]) rfl (by kernel_rfl) rfl fun g3 => ?_
 refine wl_got (γ := Int) (val := fun v => .int .i64 v) (φ := fun v => v ∈ ([0, 2] : List Int)) rfl cb63 rfl rfl rfl rfl (fun wx hm => (pick_any [0, 2] _ _ _ wx B sb _ hm.k (by omega) (by simp) (by simp) (hm.blkI 0 rfl) (hm.neRow 0 rfl rfl))) fun v4 hv4 => ?_
 have bv4 : 0 ≤ v4 ∧ v4 ≤ 2 := mem_rng hv4 (by decide)
 have bv40 := bv4.1
 have bv41 := bv4.2
 clear bv4
 refine mv_ rfl ?_
 refine wl_buildSlice (e := 3) (cs := [.int .i64 (-1), .int .i64 0, .int .i64 7]) rfl (by kernel_rfl) rfl fun g5 => ?_
 refine wl_got (γ := Int) (val := fun v => .int .i64 v) (φ := fun v => v ∈ ([-1, 0, 7] : List Int)) rfl cb63 rfl rfl rfl rfl (fun wx hm => (pick_any [-1, 0, 7] _ _ _ wx B sb _ hm.k (by omega) (by simp) (by simp) (hm.blkI 0 rfl) (hm.neRow 0 rfl rfl))) fun v6 hv6 => ?_
 have bv6 : -1 ≤ v6 ∧ v6 ≤ 7 := mem_rng hv6 (by decide)
 have bv60 := bv6.1
 have bv61 := bv6.2
 clear bv6
 refine wl_ov (ov_build (cs := [.string ⟨#[109, 97, 112]⟩, .int .i64 v2, .int .i64 v4, .int .i64 v6]) rfl (by kernel_rfl)) rfl ?_
 refine mv_ rfl ?_
 refine wl_buildSlice (e := 3) (cs := [.int .i64 0, .int .i64 10]) rfl (by kernel_rfl) rfl fun g7 => ?_
 refine wl_got (γ := Int) (val := fun v => .int .i64 v) (φ := fun v => v ∈ ([0, 10] : List Int)) rfl cb63 rfl rfl rfl rfl (fun wx hm => (pick_any [0, 10] _ _ _ wx B sb _ hm.k (by omega) (by simp) (by simp) (hm.blkI 0 rfl) (hm.neRow 0 rfl rfl))) fun v8 hv8 => ?_
 have bv8 : 0 ≤ v8 ∧ v8 ≤ 10 := mem_rng hv8 (by decide)
 have bv80 := bv8.1
 have bv81 := bv8.2
 clear bv8
 refine mv_ rfl ?_
 refine wl_buildSlice (e := 3) (cs := [.int .i64 0, .int .i64 3, .int .i64 50]) rfl (by kernel_rfl) rfl fun g9 => ?_
 refine wl_got (γ := Int) (val := fun v => .int .i64 v) (φ := fun v => v ∈ ([0, 3, 50] : List Int)) rfl cb63 rfl rfl rfl rfl (fun wx hm => (pick_any [0, 3, 50] _ _ _ wx B sb _ hm.k (by omega) (by simp) (by simp) (hm.blkI 0 rfl) (hm.neRow 0 rfl rfl))) fun v10 hv10 => ?_
 have bv10 : 0 ≤ v10 ∧ v10 ≤ 50 := mem_rng hv10 (by decide)
 have bv100 := bv10.1
 have bv101 := bv10.2
 clear bv10
 refine mv_ rfl ?_
 refine wl_buildSlice (e := 3) (cs := [.int .i64 (-1), .int .i64 (-1), .int .i64 20, .int .i64 1000]) rfl (by kernel_rfl) rfl fun g11 => ?_
 refine wl_got (γ := Int) (val := fun v => .int .i64 v) (φ := fun v => v ∈ ([-1, -1, 20, 1000] : List Int)) rfl cb63 rfl rfl rfl rfl (fun wx hm => (pick_any [-1, -1, 20, 1000] _ _ _ wx B sb _ hm.k (by omega) (by simp) (by simp) (hm.blkI 0 rfl) (hm.neRow 0 rfl rfl))) fun v12 hv12 => ?_
 have bv12 : -1 ≤ v12 ∧ v12 ≤ 1000 := mem_rng hv12 (by decide)
 have bv120 := bv12.1
 have bv121 := bv12.2
 clear bv12
 refine wl_ov (ov_build (cs := [.string ⟨#[115, 101, 97, 116]⟩, .int .i64 v8, .int .i64 v10, .int .i64 v12]) rfl (by kernel_rfl)) rfl ?_
 refine wl_buildSlice (e := 295) (cs := [.string ⟨#[109, 97, 112]⟩, .int .i64 v2, .int .i64 v4, .int .i64 v6, .string ⟨#[115, 101, 97, 116]⟩, .int .i64 v8, .int .i64 v10, .int .i64 v12]) rfl (by kernel_rfl) rfl fun g13 => ?_
 refine sg_ rfl (nn_ (gw_seq (sr_ (mv_ rfl ?_))))
 refine wl_got (γ := Bool) (val := fun v => .bool v) (φ := fun v => True) rfl cb64 rfl rfl rfl rfl (fun wx hm => ((flip_any _ wx B sb _ hm.k (by omega) (by omega) (by omega)).mono fun _ _ ⟨v, he, hS, hg⟩ => ⟨v, trivial, he, hS, hg⟩)) fun f14 _ => ?_
 refine nn_ ?_
 refine gw_cond rfl (fun hh => ?_) (fun hh => ?_)
 ·have hf : f14 = true := by simpa using hh
  clear hh
  refine gw_region (mv_ rfl (mv_ rfl ?_))
  refine wl_buildSlice (e := 9) (cs := [.string ⟨#[]⟩, .string ⟨#[65]⟩, .string ⟨#[109, 97, 112]⟩, .string ⟨#[115, 101, 97, 116]⟩]) rfl (by kernel_rfl) rfl fun g15 => ?_
  refine wl_got (γ := ByteArray) (val := fun v => .string v) (φ := fun v => v ∈ ([⟨#[]⟩, ⟨#[65]⟩, ⟨#[109, 97, 112]⟩, ⟨#[115, 101, 97, 116]⟩] : List ByteArray)) rfl cb62 rfl rfl rfl rfl (fun wx hm => (some_any [⟨#[]⟩, ⟨#[65]⟩, ⟨#[109, 97, 112]⟩, ⟨#[115, 101, 97, 116]⟩] _ _ _ wx B sb _ hm.k (by omega) (by simp) (by simp) (hm.blkI 0 rfl) (hm.neRow 0 rfl rfl))) fun s16 hs16 => ?_
  have zs16 : s16.size ≤ 100 := mem_sz hs16 (by decide)
  refine mv_ rfl ?_
  refine wl_got (γ := Int) (val := fun v => .int .i64 v) (φ := fun v => -2000000000000000 ≤ v ∧ v ≤ 2000000000000000) rfl cb65 rfl rfl rfl rfl (fun wx hm => (odd_any _ _ wx B sb _ hm.k (by omega) (by omega) (by omega) (by omega))) fun v17 hv17 => ?_
  refine mv_ rfl ?_
  refine wl_got (γ := Int) (val := fun v => .int .i64 v) (φ := fun v => -2000000000000000 ≤ v ∧ v ≤ 2000000000000000) rfl cb65 rfl rfl rfl rfl (fun wx hm => (odd_any _ _ wx B sb _ hm.k (by omega) (by omega) (by omega) (by omega))) fun v18 hv18 => ?_
  refine wl_ov (ov_build (cs := [.string s16, .int .i64 v17, .int .i64 0, .int .i64 v18]) rfl (by kernel_rfl)) rfl ?_
  refine wl_ov (ov_index (j := 1) es72 rfl rfl (by decide)) rfl ?_
  refine wl_stores (cs' := [.string ⟨#[109, 97, 112]⟩, .int .i64 v2, .int .i64 v4, .int .i64 v6, .string s16, .int .i64 v17, .int .i64 0, .int .i64 v18]) 1 rz295 rfl rfl rfl rfl rfl rfl rfl rfl ?_
  refine nn_ (sr_ (mv_ rfl (mv_ rfl ?_)))
  refine wl_buildSlice (e := 3) (cs := [.int .i64 0, .int .i64 1, .int .i64 2, .int .i64 2]) rfl (by kernel_rfl) rfl fun g19 => ?_
  refine wl_got (γ := Int) (val := fun v => .int .i64 v) (φ := fun v => v ∈ ([0, 1, 2, 2] : List Int)) rfl cb63 rfl rfl rfl rfl (fun wx hm => (pick_any [0, 1, 2, 2] _ _ _ wx B sb _ hm.k (by omega) (by simp) (by simp) (hm.blkI 0 rfl) (hm.neRow 0 rfl rfl))) fun vp hvp => ?_
  have bvp : 0 ≤ vp ∧ vp ≤ 2 := mem_rng hvp (by decide)
  have bvp0 := bvp.1
  have bvp1 := bvp.2
  clear bvp
  obtain ⟨q, rfl⟩ := Int.eq_ofNat_of_zero_le bvp0
  have hq2 : q ≤ 2 := by omega
  refine wl_ov (ov_sliceHi (hi := q) es72 rfl rfl rfl (by omega)) rfl ?_
  refine sg_ rfl (nn_ ?_)
  refine gw_ret ?_
  refine nx_ret1 rfl rfl fun wx hm => ?_
  have hS := SlT.ofBlk (l := ([⟨⟨#[109, 97, 112]⟩, v2, v4, v6⟩, ⟨s16, v17, 0, v18⟩] : List Ex)) ex_len (hm.blkI 2 rfl)
  exact ⟨_, q, 2, ([⟨⟨#[109, 97, 112]⟩, v2, v4, v6⟩, ⟨s16, v17, 0, v18⟩] : List Ex).take q, rfl, hS.takeT hq2, ex_two (show (⟨#[109, 97, 112]⟩ : ByteArray).size ≤ 1000000 by decide) (show (s16 : ByteArray).size ≤ 1000000 by omega), hq2, hq2, hm.k.more (by omega), hm.g⟩
 have hf : f14 = false := by simpa using hh
 clear hh
 refine gw_skip (nx_then (sr_ (mv_ rfl (mv_ rfl ?_))))
 refine wl_buildSlice (e := 3) (cs := [.int .i64 0, .int .i64 1, .int .i64 2, .int .i64 2]) rfl (by kernel_rfl) rfl fun g20 => ?_
 refine wl_got (γ := Int) (val := fun v => .int .i64 v) (φ := fun v => v ∈ ([0, 1, 2, 2] : List Int)) rfl cb63 rfl rfl rfl rfl (fun wx hm => (pick_any [0, 1, 2, 2] _ _ _ wx B sb _ hm.k (by omega) (by simp) (by simp) (hm.blkI 0 rfl) (hm.neRow 0 rfl rfl))) fun vp hvp => ?_
 have bvp : 0 ≤ vp ∧ vp ≤ 2 := mem_rng hvp (by decide)
 have bvp0 := bvp.1
 have bvp1 := bvp.2
 clear bvp
 obtain ⟨q, rfl⟩ := Int.eq_ofNat_of_zero_le bvp0
 have hq2 : q ≤ 2 := by omega
 refine wl_ov (ov_sliceHi (hi := q) es72 rfl rfl rfl (by omega)) rfl ?_
 refine sg_ rfl (nn_ ?_)
 refine gw_ret ?_
 refine nx_ret1 rfl rfl fun wx hm => ?_
 have hS := SlT.ofBlk (l := ([⟨⟨#[109, 97, 112]⟩, v2, v4, v6⟩, ⟨⟨#[115, 101, 97, 116]⟩, v8, v10, v12⟩] : List Ex)) ex_len (hm.blkI 1 rfl)
 exact ⟨_, q, 2, ([⟨⟨#[109, 97, 112]⟩, v2, v4, v6⟩, ⟨⟨#[115, 101, 97, 116]⟩, v8, v10, v12⟩] : List Ex).take q, rfl, hS.takeT hq2, ex_two (show (⟨#[109, 97, 112]⟩ : ByteArray).size ≤ 1000000 by decide) (show (⟨#[115, 101, 97, 116]⟩ : ByteArray).size ≤ 1000000 by decide), hq2, hq2, hm.k.more (by omega), hm.g⟩
end Go.Proofs.YtdoooppeiphefaaGreatDoor
namespace Go.Proofs.YtdoooppeiphefaaGreatDoor
open Go.RowKit
structure Fe where
  a : ByteArray
  b : ByteArray
  cents : Int
def feEnc (x : Fe) : List Value := [.string x.a, .string x.b, .int .i64 x.cents]
theorem fee_len (x : Fe) : (feEnc x).length = 3 := rfl
def FeOk (x : Fe) : Prop := x.a.size ≤ 1000000 ∧ x.b.size ≤ 1000000
def feLt (q r : Fe) : Bool := ltS q.a r.a || (eqS q.a r.a && ltS q.b r.b)
def leFe (p : Option Fe) (x : Fe) : Bool := match p with
  | none => false
  | some q => !feLt q x
def feeE (p : Option Fe) (x : Fe) : Int :=
  if keyB x.a = false then 5 else if keyB x.b = false then 5 else if (x.a.toList == x.b.toList) = true then 14 else
  if leFe p x = true then 7 else if inB x.cents 0 1000000 = false then 1 else 0
def feesE (l : List Fe) : Int := if 500 < l.length then 2 else scanE feeE none l
theorem feesE_ok {l : List Fe} (h : feesE l = 0) : l.length ≤ 500 ∧ ∀ x ∈ l, (x.a.toList == x.b.toList) = false ∧ 0 ≤ x.cents ∧ x.cents ≤ 1000000 := by
  unfold feesE at h
  split at h
  · cases h
  · refine ⟨by omega, fun x hx => ?_⟩
    obtain ⟨q, hq⟩ := scan_each h x hx
    unfold feeE at hq
    repeat (split at hq; · cases hq)
    rename_i h1 h2 h3 h4 h5
    exact ⟨by simpa using h3, inB_iff.1 (by simpa using h5)⟩
theorem cmpS_lt {a b : ByteArray} : (0 ≤ cmpS a b) ↔ ltS a b = false := by
  unfold cmpS ltS
  cases h : Go.Op.bytesLess a.toList b.toList
  · by_cases e : (a.toList == b.toList) = true
    · rw [e]; simp
    · have e : (a.toList == b.toList) = false := by simpa using e
      rw [e]; simp
  · simp
theorem or_fe (q r : Fe) : 0 ≤ firstE [cmpS q.a r.a, cmpS q.b r.b] ↔ feLt q r = false := by
  unfold feLt eqS
  rw [firstE_pair]
  by_cases h : cmpS q.a r.a = 0
  · rw [if_pos h]
    obtain ⟨h1, h2⟩ := cmpS_zero.1 h
    rw [cmpS_lt, h2]
    unfold ltS
    rw [h2, bl_irrefl]; simp
  · rw [if_neg h, cmpS_lt]
    have hne : (q.a.toList == r.a.toList) = false ∨ ltS q.a r.a = true := by
      cases h1 : ltS q.a r.a
      · left
        cases h2 : (q.a.toList == r.a.toList)
        · rfl
        · exact absurd (cmpS_zero.2 ⟨h1, by simpa using h2⟩) h
      · exact .inr rfl
    rcases hne with h1 | h1
    · rw [h1]; simp
    · rw [h1]; simp
theorem lt_fe (q r : Fe) : (Go.Op.bytesLess r.a.toList q.a.toList || (r.a.toList == q.a.toList && (Go.Op.bytesLess r.b.toList q.b.toList || r.b.toList == q.b.toList))) = !feLt q r := by
  have key : ∀ x y : ByteArray, (Go.Op.bytesLess x.toList y.toList || x.toList == y.toList) = !ltS y x := fun x y => by
    unfold ltS
    cases h1 : Go.Op.bytesLess x.toList y.toList
    · cases h2 : Go.Op.bytesLess y.toList x.toList
      · rw [bl_tri h1 h2]; simp
      · have e := bl_ne h2
        have e2 : (x.toList == y.toList) = false := by simpa using fun h => e h.symm
        rw [e2]; rfl
    · rw [bl_asymm h1]; rfl
  unfold feLt eqS
  rw [key r.b q.b]
  unfold ltS
  cases h1 : Go.Op.bytesLess r.a.toList q.a.toList
  · cases h2 : Go.Op.bytesLess q.a.toList r.a.toList
    · rw [bl_tri h1 h2]; simp
    · have e := bl_ne h2
      have e2 : (r.a.toList == q.a.toList) = false := by simpa using fun h => e h.symm
      rw [e2]; simp
  · have e := bl_ne h1
    have e2 : (q.a.toList == r.a.toList) = false := by simpa using fun h => e h.symm
    rw [bl_asymm h1, e2]; simp
theorem ar349 : arrSz Tryz.prog 349 = some (2, 1) := by kernel_rfl
theorem checkFees_any (l : List Fe) (A : Option Addr) (n c : Nat) (w : World) (hl : SlT feEnc 3 352 w A n l) (hok : ∀ b ∈ l, FeOk b) (hn : n ≤ 1000000) :
  Calls Tryz.prog 206 #[.slice A n c] w (GotE w (feesE l)) := by
 refine gw_enter ⟨64, w, none, []⟩ Tryz.func206 rfl Tryz.ntmps206 rfl (mem0 (X := [SlOld feEnc 3 352 w.heap.size none A n l]) (allF_cons hl.old allF_nil) (allL_cons SlOld.lasts allL_nil)) ?_
 refine sr_ ?_
 have hlen := hl.len
 refine sg_ rfl (nn_ (gw_seq (sr_ (mv_ rfl (wl_ov (ov_len es73 rfl) rfl ?_)))))
 refine wl_ov (ov_gtr rfl rfl) rfl ?_
 refine nn_ ?_
 refine gw_cond rfl (fun hh => ?_) (fun hh => ?_)
 ·have h1 : 500 < ((n : Nat) : Int) := by simpa using hh
  clear hh
  refine sr_ (sg_ rfl (nn_ ?_))
  refine gw_ret ?_
  refine nx_then_ret ?_
  refine nx_ret1 rfl rfl fun wx hm => ?_
  exact ⟨ret_int (by unfold feesE; rw [if_pos (by omega)]), hm.g⟩
 have h1 : ¬ (500 < ((n : Nat) : Int)) := by simpa using hh
 clear hh
 refine gw_skip (nx_then (gw_seq (sr_ (mv_ rfl (wl_ov (ov_len es73 rfl) rfl (mv_ rfl (nn_ (gw_block ?_))))))))
 refine gw_loop (γ := Nat) (fun (k : Nat) => k ≤ n ∧ feesE l = scanE feeE (prevOf l k) (l.drop k)) (fun (k : Nat) => [(0, .slice A n c), (8, .slice A n c), (9, .int .i64 ((n : Nat) : Int)), (10, .int .i64 ((k : Nat) : Int))]) (fun (k : Nat) => fun _ => True) (fun (k : Nat) => []) (fun (k : Nat) => []) (fun (k : Nat) => [SlOld feEnc 3 352 w.heap.size none A n l]) (fun (k : Nat) => n - k) 0 ⟨Nat.zero_le _, by unfold feesE; rw [if_neg (by omega)]; rfl⟩ ⟨rfl, rfl, rfl, rfl, trivial⟩ (fun _ hm => hm.pick [] [] [0] rfl rfl) ?_
 intro k hinv
 replace hinv : k ≤ n ∧ feesE l = scanE feeE (prevOf l k) (l.drop k) := hinv
 refine sr_ (wl_ov (ov_lss rfl rfl) rfl (nn_ (gw_seq ?_)))
 refine gw_cond rfl (fun hh => ?_) (fun hh => ?_)
 ·have hk : ((k : Nat) : Int) < ((n : Nat) : Int) := by simpa using hh
  clear hh
  refine gw_skip (nx_then (gw_seq (gw_block (sr_ ?_))))
  obtain ⟨b, off, hA, _, _⟩ := hl.get (by omega)
  subst hA
  obtain ⟨x, hx⟩ : ∃ x, l[k]? = some x := ⟨_, List.getElem?_eq_getElem (by omega)⟩
  obtain ⟨ka, kb, ce⟩ := x
  have hat := scanE_at feeE l k _ hx
  obtain ⟨hs1, hs2⟩ := hok _ (List.mem_of_getElem? hx)
  have hs1 : ka.size ≤ 1000000 := hs1
  have hs2 : kb.size ≤ 1000000 := hs2
  refine mv_ rfl ?_
  refine wl_ov (ov_index (j := k) es73 rfl rfl (by omega)) rfl ?_
  refine wl_ov (ov_elem (vs := [.string ka, .string kb, .int .i64 ce]) rz352 rfl (fun _ hm => (hm.fact 0 rfl).1) hx rfl rfl) rfl ?_
  refine wl_alloc zc352 rfl fun g1 => ?_
  refine sg_ rfl ?_
  refine wl_stores (cs' := [.string ka, .string kb, .int .i64 ce]) 0 rz352 rfl rfl rfl rfl rfl rfl rfl rfl ?_
  refine nn_ (gw_block (sr_ (fd_ fo352_0 rfl rfl (lk_ sc9 0 rfl rfl rfl ?_))))
  refine wl_callw rfl cb112 rfl rfl (fun wx hm => (isKey_any _ wx (by omega))) ?_
  refine wl_ov (ov_un_not rfl) rfl (mv_ rfl ?_)
  rcases Bool.eq_false_or_eq_true (!(keyB ka)) with h2 | h2
  ·refine wl_set 20 rfl (congrArg Value.bool h2) ?_
   have h2 : keyB ka = false := by simpa using h2
   refine goff rfl rfl rfl (goff rfl rfl rfl (goff rfl rfl rfl (goff rfl rfl rfl (pt_ rfl rfl (sg_ rfl (nn_ (ct_ rfl (sr_ (sg_ rfl (nn_ ?_))))))))))
   refine gw_ret ?_
   refine nx_blk_ret (nx_blk_ret (nx_then_ret (nx_then_ret (nx_blk_ret (nx_then_ret ?_)))))
   have hE : feeE (prevOf l k) ⟨ka, kb, ce⟩ = 5 := by unfold feeE leFe; simp [h2]
   refine nx_ret1 rfl rfl fun wx hm => ?_
   exact ⟨ret_int (by rw [hinv.2, hat, if_neg (by rw [hE]; decide), hE]), hm.g⟩
  refine wl_set 20 rfl (congrArg Value.bool h2) ?_
  have h2 : keyB ka = true := by simpa using h2
  refine wl_guard_on rfl rfl rfl (fd_ fo352_1 rfl rfl (wl_guard_on rfl rfl rfl (lk_ sc9 0 rfl rfl rfl (wl_guard_on rfl rfl rfl ?_))))
  refine wl_callw rfl cb112 rfl rfl (fun wx hm => (isKey_any _ wx (by omega))) ?_
  refine wl_guard_on rfl rfl rfl (wl_ov (ov_un_not rfl) rfl (pf_ rfl rfl (sg_ rfl (nn_ ?_))))
  refine gw_cond rfl (fun hh => ?_) (fun hh => ?_)
  ·have h3 : (keyB kb) = false := by simpa using hh
   clear hh
   refine sr_ ?_
   have h3 : keyB kb = false := by simpa using h3
   refine sg_ rfl (nn_ ?_)
   refine gw_ret ?_
   refine nx_blk_ret (nx_blk_ret (nx_then_ret (nx_then_ret (nx_blk_ret (nx_then_ret ?_)))))
   have hE : feeE (prevOf l k) ⟨ka, kb, ce⟩ = 5 := by unfold feeE leFe; simp [h2, h3]
   refine nx_ret1 rfl rfl fun wx hm => ?_
   exact ⟨ret_int (by rw [hinv.2, hat, if_neg (by rw [hE]; decide), hE]), hm.g⟩
  have h3 : (keyB kb) = true := by simpa using hh
  clear hh
  refine sr_ ?_
  have h3 : keyB kb = true := by simpa using h3
  refine fd_ fo352_0 rfl rfl (lk_ sc9 0 rfl rfl rfl (fd_ fo352_1 rfl rfl (lk_ sc9 0 rfl rfl rfl (wl_ov (ov_seql rfl rfl) rfl (sg_ rfl (nn_ ?_))))))
  refine gw_cond rfl (fun hh => ?_) (fun hh => ?_)
  ·have h4 : (ka.toList == kb.toList) = true := by simpa using hh
   clear hh
   refine sr_ (sg_ rfl (nn_ ?_))
   refine gw_ret ?_
   refine nx_blk_ret (nx_blk_ret (nx_then_ret (nx_then_ret (nx_blk_ret (nx_then_ret ?_)))))
   have hE : feeE (prevOf l k) ⟨ka, kb, ce⟩ = 14 := by unfold feeE leFe; simp [h2, h3, (beq_iff_eq.1 h4)]
   refine nx_ret1 rfl rfl fun wx hm => ?_
   exact ⟨ret_int (by rw [hinv.2, hat, if_neg (by rw [hE]; decide), hE]), hm.g⟩
  have h4 : (ka.toList == kb.toList) = false := by simpa using hh
  clear hh
  refine gw_seq ?_
  have h4 : ¬ ka.toList = kb.toList := by simpa using h4
  by_cases hk0 : k = 0
  ·refine gd (fun wz => Blk wz g1 352 [.string ka, .string kb, .int .i64 ce] ∧ (SlOld feEnc 3 352 w.heap.size none (some ⟨b, off, none⟩) n l) wz ∧ True) mixed (fun _ hm => ⟨hm.bl 0, hm.fa 0, trivial⟩) fun z => ?_
   refine wt 0 26 1 rfl z (ov_move rfl) ?_
   refine wt 1 26 3 rfl z (ov_gtr rfl rfl) ?_
   refine wa_set 34 (v' := .bool false) rfl (congrArg Value.bool (decide_eq_false (by omega))) ?_
   refine wt 2 26 7 rfl z (ov_move rfl) ?_
   refine wtf 3 26 15 rfl rfl rfl z ?_
   refine wtf 4 26 31 rfl rfl rfl z ?_
   refine wtf 5 26 63 rfl rfl rfl z ?_
   refine wtf 6 26 127 rfl rfl rfl z ?_
   refine wtf 7 26 255 rfl rfl rfl z ?_
   refine wtf 8 26 511 rfl rfl rfl z ?_
   refine wtf 9 26 1023 rfl rfl rfl z ?_
   refine wtf 10 26 2047 rfl rfl rfl z ?_
   refine wtf 11 26 4095 rfl rfl rfl z ?_
   refine wtf 12 26 8191 rfl rfl rfl z ?_
   refine wtf 13 26 16383 rfl rfl rfl z ?_
   refine wtf 14 26 32767 rfl rfl rfl z ?_
   refine wtf 15 26 65535 rfl rfl rfl z ?_
   refine wtf 16 26 131071 rfl rfl rfl z ?_
   refine wtf 17 26 262143 rfl rfl rfl z ?_
   refine wtf 18 26 524287 rfl rfl rfl z ?_
   refine wtf 19 26 1048575 rfl rfl rfl z ?_
   refine wtf 20 26 2097151 rfl rfl rfl z ?_
   refine wtf 21 26 4194303 rfl rfl rfl z ?_
   refine wtf 22 26 8388607 rfl rfl rfl z ?_
   refine wtf 23 26 16777215 rfl rfl rfl z ?_
   refine wt 24 26 33554431 rfl z (ov_pick_f rfl rfl) ?_
   refine wt 25 26 67108863 rfl z (ov_assign rfl) ?_
   refine wa_done (by kernel_rfl) ?_
   refine nx_then (cf_ rfl (sr_ (fd_ fo352_2 rfl rfl (lk_ sc3 0 rfl rfl rfl ?_))))
   refine wl_callw rfl cb169 rfl rfl (fun wx hm => (in_any _ _ _ wx)) ?_
   refine wl_ov (ov_un_not rfl) rfl (sg_ rfl (nn_ ?_))
   refine gw_cond rfl (fun hh => ?_) (fun hh => ?_)
   ·have h9 : (inB ce 0 1000000) = false := by simpa using hh
    clear hh
    refine sr_ (sg_ rfl (nn_ ?_))
    refine gw_ret ?_
    refine nx_blk_ret (nx_blk_ret (nx_then_ret (nx_then_ret (nx_blk_ret (nx_then_ret ?_)))))
    have hE : feeE (prevOf l k) ⟨ka, kb, ce⟩ = 1 := by unfold feeE leFe; rw [pv_zero hk0]; simp [h2, h3, h4, h9]
    refine nx_ret1 rfl rfl fun wx hm => ?_
    exact ⟨ret_int (by rw [hinv.2, hat, if_neg (by rw [hE]; decide), hE]), hm.g⟩
   have h9 : (inB ce 0 1000000) = true := by simpa using hh
   clear hh
   refine gw_skip (nx_blk_nrm (nx_blk_nrm (nx_then (gw_region ?_))))
   have hE : feeE (prevOf l k) ⟨ka, kb, ce⟩ = 0 := by unfold feeE leFe; rw [pv_zero hk0]; simp [h2, h3, h4, h9]
   refine ad_ rfl rfl (mv_ rfl (wl_nil ?_))
   exact nx_round (k + 1) ⟨by omega, by rw [hinv.2, hat, if_pos hE]⟩ (by omega) ⟨rfl, rfl, rfl, (some_int (by omega)), trivial⟩ (fun _ hm => hm.pick [] [] [0] rfl rfl)
  obtain ⟨y, hy⟩ : ∃ x, l[k - 1]? = some x := ⟨_, List.getElem?_eq_getElem (by omega)⟩
  obtain ⟨p0, p1, p2⟩ := y
  have hpv := pv_pos hk0 hy
  refine gd (fun wz => Blk wz g1 352 [.string ka, .string kb, .int .i64 ce] ∧ (SlOld feEnc 3 352 w.heap.size none (some ⟨b, off, none⟩) n l) wz ∧ True) mixed (fun _ hm => ⟨hm.bl 0, hm.fa 0, trivial⟩) fun z => ?_
  refine wt 0 26 1 rfl z (ov_move rfl) ?_
  refine wt 1 26 3 rfl z (ov_gtr rfl rfl) ?_
  refine wa_set 34 (v' := .bool true) rfl (congrArg Value.bool (decide_eq_true (by omega))) ?_
  refine wt 2 26 7 rfl z (ov_move rfl) ?_
  refine wto 3 26 15 rfl rfl rfl z (ov_move rfl) ?_
  refine wto 4 26 31 rfl rfl rfl z (ov_move rfl) ?_
  refine wto 5 26 63 rfl rfl rfl z (ov_sub rfl rfl (by omega) (by omega)) ?_
  refine wa_set 38 (v' := .int .i64 ((k - 1 : Nat) : Int)) rfl (congrArg (Value.int .i64) (by omega)) ?_
  refine wto 6 26 127 rfl rfl rfl z (ov_index (j := k - 1) es73 rfl rfl (by omega)) ?_
  refine wto 7 26 255 rfl rfl rfl z (ov_field fo352_0 rfl rfl) ?_
  refine wto 8 26 511 rfl rfl rfl z (ov_elem1 (k := 0) (v := .string p0) sc9 rfl (fun _ hm => (hm.2.1).1) hy rfl rfl) ?_
  refine wto 9 26 1023 rfl rfl rfl z (ov_field fo352_0 rfl rfl) ?_
  refine wto 10 26 2047 rfl rfl rfl z (ov_load sc9 rfl (fun _ hm => hm.1) rfl) ?_
  refine wto 12 26 6143 rfl rfl rfl z (ov_move rfl) ?_
  refine wto 13 26 14335 rfl rfl rfl z (ov_move rfl) ?_
  refine wto 14 26 30719 rfl rfl rfl z (ov_sub rfl rfl (by omega) (by omega)) ?_
  refine wa_set 47 (v' := .int .i64 ((k - 1 : Nat) : Int)) rfl (congrArg (Value.int .i64) (by omega)) ?_
  refine wto 15 26 63487 rfl rfl rfl z (ov_index (j := k - 1) es73 rfl rfl (by omega)) ?_
  refine wto 16 26 129023 rfl rfl rfl z (ov_field fo352_1 rfl rfl) ?_
  refine wto 17 26 260095 rfl rfl rfl z (ov_elem1 (k := 1) (v := .string p1) sc9 rfl (fun _ hm => (hm.2.1).1) hy rfl rfl) ?_
  refine wto 18 26 522239 rfl rfl rfl z (ov_field fo352_1 rfl rfl) ?_
  refine wto 19 26 1046527 rfl rfl rfl z (ov_load sc9 rfl (fun _ hm => hm.1) rfl) ?_
  refine wa1 11 rfl ?_
  refine wl_guard_on rfl rfl rfl ?_
  refine wl_callv rfl cb120 rfl rfl (fun wx hm => (cmp_string _ _ wx)) ?_
  refine wl_nil ?_
  refine nw 26 1048575 (fun _ hm => ⟨hm.bl 0, hm.fa 0, trivial⟩) fun z => ?_
  refine wa1 20 rfl ?_
  refine wl_guard_on rfl rfl rfl ?_
  refine wl_callv rfl cb120 rfl rfl (fun wx hm => (cmp_string _ _ wx)) ?_
  refine wl_nil ?_
  refine nw 26 2097151 (fun _ hm => ⟨hm.bl 0, hm.fa 0, trivial⟩) fun z => ?_
  refine wa1 21 rfl ?_
  refine wl_guard_on rfl rfl rfl ?_
  refine wl_buildSlice (e := 3) (cs := [.int .i64 (cmpS p0 ka), .int .i64 (cmpS p1 kb)]) rfl (by kernel_rfl) rfl fun g2 => ?_
  refine wl_nil ?_
  refine nw 26 4194303 (fun _ hm => ⟨hm.bl 1, hm.fa 0, trivial⟩) fun z => ?_
  refine wa1 22 rfl ?_
  refine wl_guard_on rfl rfl rfl ?_
  refine wl_callv rfl cb118 rfl rfl (fun wx hm => (or_two _ _ _ _ _ wx (hm.blkI 0 rfl))) ?_
  refine wl_nil ?_
  refine nw 26 8388607 (fun _ hm => ⟨hm.bl 1, hm.fa 0, trivial⟩) fun z => ?_
  refine wto 23 26 16777215 rfl rfl rfl z (ov_geq rfl rfl) ?_
  refine wt 24 26 33554431 rfl z (ov_pick_t rfl rfl) ?_
  refine wt 25 26 67108863 rfl z (ov_assign rfl) ?_
  refine wa_done (by kernel_rfl) ?_
  refine nx_then ?_
  refine gw_cond rfl (fun hh => ?_) (fun hh => ?_)
  ·have h8 : 0 ≤ firstE [cmpS p0 ka, cmpS p1 kb] := by simpa using hh
   clear hh
   refine sr_ ?_
   have h8 : feLt ⟨p0, p1, p2⟩ ⟨ka, kb, ce⟩ = false := (or_fe ⟨p0, p1, p2⟩ ⟨ka, kb, ce⟩).1 h8
   refine sg_ rfl (nn_ ?_)
   refine gw_ret ?_
   refine nx_blk_ret (nx_blk_ret (nx_then_ret (nx_then_ret (nx_blk_ret (nx_then_ret ?_)))))
   have hE : feeE (prevOf l k) ⟨ka, kb, ce⟩ = 7 := by unfold feeE leFe; rw [hpv]; simp [h2, h3, h4, h8]
   refine nx_ret1 rfl rfl fun wx hm => ?_
   exact ⟨ret_int (by rw [hinv.2, hat, if_neg (by rw [hE]; decide), hE]), hm.g⟩
  have h8 : ¬ (0 ≤ firstE [cmpS p0 ka, cmpS p1 kb]) := by simpa using hh
  clear hh
  refine sr_ ?_
  have h8 : feLt ⟨p0, p1, p2⟩ ⟨ka, kb, ce⟩ = true := by
   cases h : feLt ⟨p0, p1, p2⟩ ⟨ka, kb, ce⟩
   ·exact absurd ((or_fe ⟨p0, p1, p2⟩ ⟨ka, kb, ce⟩).2 h) h8
   rfl
  refine fd_ fo352_2 rfl rfl (lk_ sc3 1 rfl rfl rfl ?_)
  refine wl_callw rfl cb169 rfl rfl (fun wx hm => (in_any _ _ _ wx)) ?_
  refine wl_ov (ov_un_not rfl) rfl (sg_ rfl (nn_ ?_))
  refine gw_cond rfl (fun hh => ?_) (fun hh => ?_)
  ·have h9 : (inB ce 0 1000000) = false := by simpa using hh
   clear hh
   refine sr_ (sg_ rfl (nn_ ?_))
   refine gw_ret ?_
   refine nx_blk_ret (nx_blk_ret (nx_then_ret (nx_then_ret (nx_blk_ret (nx_then_ret ?_)))))
   have hE : feeE (prevOf l k) ⟨ka, kb, ce⟩ = 1 := by unfold feeE leFe; rw [hpv]; simp [h2, h3, h4, h8, h9]
   refine nx_ret1 rfl rfl fun wx hm => ?_
   exact ⟨ret_int (by rw [hinv.2, hat, if_neg (by rw [hE]; decide), hE]), hm.g⟩
  have h9 : (inB ce 0 1000000) = true := by simpa using hh
  clear hh
  refine gw_skip (nx_blk_nrm (nx_blk_nrm (nx_then (gw_region ?_))))
  have hE : feeE (prevOf l k) ⟨ka, kb, ce⟩ = 0 := by unfold feeE leFe; rw [hpv]; simp [h2, h3, h4, h8, h9]
  refine ad_ rfl rfl (mv_ rfl (wl_nil ?_))
  exact nx_round (k + 1) ⟨by omega, by rw [hinv.2, hat, if_pos hE]⟩ (by omega) ⟨rfl, rfl, rfl, (some_int (by omega)), trivial⟩ (fun _ hm => hm.pick [] [] [0] rfl rfl)
 have hk : ¬ (((k : Nat) : Int) < ((n : Nat) : Int)) := by simpa using hh
 clear hh
 refine gw_exit ?_
 refine nx_then_exit (nx_then_exit ?_)
 refine nx_blk_here ?_
 refine nx_then (sr_ (sg_ rfl (nn_ ?_)))
 refine gw_ret ?_
 refine nx_ret1 rfl rfl fun wx hm => ?_
 exact ⟨ret_int (by rw [hinv.2, scanE_end _ _ _ _ (by omega)]), hm.g⟩
theorem feesFault_any (l : List Fe) (A : Option Addr) (n c : Nat) (w : World) (hl : SlT feEnc 3 352 w A n l) (hok : ∀ b ∈ l, FeOk b) (hn : n ≤ 1000000) :
  Calls Tryz.prog 201 #[.slice A n c] w (GotE w (feesE l)) := by
 refine gw_enter ⟨74, w, none, []⟩ Tryz.func201 rfl Tryz.ntmps201 rfl (mem0 (X := [SlOld feEnc 3 352 w.heap.size none A n l]) (allF_cons hl.old allF_nil) (allL_cons SlOld.lasts allL_nil)) ?_
 refine sr_ ?_
 have hlen := hl.len
 refine sg_ rfl (nn_ (gw_seq (sr_ (mv_ rfl (wl_ov (ov_len es73 rfl) rfl ?_)))))
 refine wl_ov (ov_gtr rfl rfl) rfl ?_
 refine nn_ ?_
 refine gw_cond rfl (fun hh => ?_) (fun hh => ?_)
 ·have h1 : 500 < ((n : Nat) : Int) := by simpa using hh
  clear hh
  refine sr_ (sg_ rfl (nn_ ?_))
  refine gw_ret ?_
  refine nx_then_ret ?_
  refine nx_ret1 rfl rfl fun wx hm => ?_
  exact ⟨ret_int (by unfold feesE; rw [if_pos (by omega)]), hm.g⟩
 have h1 : ¬ (500 < ((n : Nat) : Int)) := by simpa using hh
 clear hh
 refine gw_skip (nx_then (gw_seq (sr_ (mv_ rfl (wl_ov (ov_len es73 rfl) rfl (mv_ rfl (nn_ (gw_block ?_))))))))
 refine gw_loop (γ := Nat) (fun (k : Nat) => k ≤ n ∧ feesE l = scanE feeE (prevOf l k) (l.drop k)) (fun (k : Nat) => [(0, .slice A n c), (8, .slice A n c), (9, .int .i64 ((n : Nat) : Int)), (10, .int .i64 ((k : Nat) : Int))]) (fun (k : Nat) => fun _ => True) (fun (k : Nat) => []) (fun (k : Nat) => []) (fun (k : Nat) => [SlOld feEnc 3 352 w.heap.size none A n l]) (fun (k : Nat) => n - k) 0 ⟨Nat.zero_le _, by unfold feesE; rw [if_neg (by omega)]; rfl⟩ ⟨rfl, rfl, rfl, rfl, trivial⟩ (fun _ hm => hm.pick [] [] [0] rfl rfl) ?_
 intro k hinv
 replace hinv : k ≤ n ∧ feesE l = scanE feeE (prevOf l k) (l.drop k) := hinv
 refine sr_ (wl_ov (ov_lss rfl rfl) rfl (nn_ (gw_seq ?_)))
 refine gw_cond rfl (fun hh => ?_) (fun hh => ?_)
 ·have hk : ((k : Nat) : Int) < ((n : Nat) : Int) := by simpa using hh
  clear hh
  refine gw_skip (nx_then (gw_seq (gw_block (sr_ ?_))))
  obtain ⟨b, off, hA, _, _⟩ := hl.get (by omega)
  subst hA
  obtain ⟨x, hx⟩ : ∃ x, l[k]? = some x := ⟨_, List.getElem?_eq_getElem (by omega)⟩
  obtain ⟨ka, kb, ce⟩ := x
  have hat := scanE_at feeE l k _ hx
  obtain ⟨hs1, hs2⟩ := hok _ (List.mem_of_getElem? hx)
  have hs1 : ka.size ≤ 1000000 := hs1
  have hs2 : kb.size ≤ 1000000 := hs2
  refine mv_ rfl ?_
  refine wl_ov (ov_index (j := k) es73 rfl rfl (by omega)) rfl ?_
  refine wl_ov (ov_elem (vs := [.string ka, .string kb, .int .i64 ce]) rz352 rfl (fun _ hm => (hm.fact 0 rfl).1) hx rfl rfl) rfl ?_
  refine wl_alloc zc352 rfl fun g1 => ?_
  refine sg_ rfl ?_
  refine wl_stores (cs' := [.string ka, .string kb, .int .i64 ce]) 0 rz352 rfl rfl rfl rfl rfl rfl rfl rfl ?_
  refine nn_ (gw_block (sr_ (fd_ fo352_0 rfl rfl (lk_ sc9 0 rfl rfl rfl ?_))))
  refine wl_callv rfl cb153 rfl rfl (fun wx hm => (key_any _ wx (by omega))) ?_
  refine wl_ov (ov_un_not rfl) rfl (mv_ rfl ?_)
  rcases Bool.eq_false_or_eq_true (!(keyB ka)) with h2 | h2
  ·refine wl_set 20 rfl (congrArg Value.bool h2) ?_
   have h2 : keyB ka = false := by simpa using h2
   refine goff rfl rfl rfl (goff rfl rfl rfl (goff rfl rfl rfl (goff rfl rfl rfl (pt_ rfl rfl (sg_ rfl (nn_ (ct_ rfl (sr_ (sg_ rfl (nn_ ?_))))))))))
   refine gw_ret ?_
   refine nx_blk_ret (nx_blk_ret (nx_then_ret (nx_then_ret (nx_blk_ret (nx_then_ret ?_)))))
   have hE : feeE (prevOf l k) ⟨ka, kb, ce⟩ = 5 := by unfold feeE leFe; simp [h2]
   refine nx_ret1 rfl rfl fun wx hm => ?_
   exact ⟨ret_int (by rw [hinv.2, hat, if_neg (by rw [hE]; decide), hE]), hm.g⟩
  refine wl_set 20 rfl (congrArg Value.bool h2) ?_
  have h2 : keyB ka = true := by simpa using h2
  refine wl_guard_on rfl rfl rfl (fd_ fo352_1 rfl rfl (wl_guard_on rfl rfl rfl (lk_ sc9 0 rfl rfl rfl (wl_guard_on rfl rfl rfl ?_))))
  refine wl_callv rfl cb153 rfl rfl (fun wx hm => (key_any _ wx (by omega))) ?_
  refine wl_guard_on rfl rfl rfl (wl_ov (ov_un_not rfl) rfl (pf_ rfl rfl (sg_ rfl (nn_ ?_))))
  refine gw_cond rfl (fun hh => ?_) (fun hh => ?_)
  ·have h3 : (keyB kb) = false := by simpa using hh
   clear hh
   refine sr_ ?_
   have h3 : keyB kb = false := by simpa using h3
   refine sg_ rfl (nn_ ?_)
   refine gw_ret ?_
   refine nx_blk_ret (nx_blk_ret (nx_then_ret (nx_then_ret (nx_blk_ret (nx_then_ret ?_)))))
   have hE : feeE (prevOf l k) ⟨ka, kb, ce⟩ = 5 := by unfold feeE leFe; simp [h2, h3]
   refine nx_ret1 rfl rfl fun wx hm => ?_
   exact ⟨ret_int (by rw [hinv.2, hat, if_neg (by rw [hE]; decide), hE]), hm.g⟩
  have h3 : (keyB kb) = true := by simpa using hh
  clear hh
  refine sr_ ?_
  have h3 : keyB kb = true := by simpa using h3
  refine fd_ fo352_0 rfl rfl (lk_ sc9 0 rfl rfl rfl (fd_ fo352_1 rfl rfl (lk_ sc9 0 rfl rfl rfl (wl_ov (ov_seql rfl rfl) rfl (sg_ rfl (nn_ ?_))))))
  refine gw_cond rfl (fun hh => ?_) (fun hh => ?_)
  ·have h4 : (ka.toList == kb.toList) = true := by simpa using hh
   clear hh
   refine sr_ (sg_ rfl (nn_ ?_))
   refine gw_ret ?_
   refine nx_blk_ret (nx_blk_ret (nx_then_ret (nx_then_ret (nx_blk_ret (nx_then_ret ?_)))))
   have hE : feeE (prevOf l k) ⟨ka, kb, ce⟩ = 14 := by unfold feeE leFe; simp [h2, h3, (beq_iff_eq.1 h4)]
   refine nx_ret1 rfl rfl fun wx hm => ?_
   exact ⟨ret_int (by rw [hinv.2, hat, if_neg (by rw [hE]; decide), hE]), hm.g⟩
  have h4 : (ka.toList == kb.toList) = false := by simpa using hh
  clear hh
  refine gw_seq ?_
  have h4 : ¬ ka.toList = kb.toList := by simpa using h4
  by_cases hk0 : k = 0
  ·refine gd (fun wz => Blk wz g1 352 [.string ka, .string kb, .int .i64 ce] ∧ (SlOld feEnc 3 352 w.heap.size none (some ⟨b, off, none⟩) n l) wz ∧ True) mixed (fun _ hm => ⟨hm.bl 0, hm.fa 0, trivial⟩) fun z => ?_
   refine wt 0 36 1 rfl z (ov_move rfl) ?_
   refine wt 1 36 3 rfl z (ov_gtr rfl rfl) ?_
   refine wa_set 34 (v' := .bool false) rfl (congrArg Value.bool (decide_eq_false (by omega))) ?_
   refine wt 2 36 7 rfl z (ov_move rfl) ?_
   refine wtf 3 36 15 rfl rfl rfl z ?_
   refine wtf 4 36 31 rfl rfl rfl z ?_
   refine wtf 5 36 63 rfl rfl rfl z ?_
   refine wtf 6 36 127 rfl rfl rfl z ?_
   refine wtf 7 36 255 rfl rfl rfl z ?_
   refine wtf 8 36 511 rfl rfl rfl z ?_
   refine wtf 9 36 1023 rfl rfl rfl z ?_
   refine wtf 10 36 2047 rfl rfl rfl z ?_
   refine wtf 11 36 4095 rfl rfl rfl z ?_
   refine wtf 12 36 8191 rfl rfl rfl z ?_
   refine wtu 13 36 16383 rfl rfl rfl z ?_
   refine wtu 14 36 32767 rfl rfl rfl z ?_
   refine wtu 15 36 65535 rfl rfl rfl z ?_
   refine wtu 16 36 131071 rfl rfl rfl z ?_
   refine wtu 17 36 262143 rfl rfl rfl z ?_
   refine wtu 18 36 524287 rfl rfl rfl z ?_
   refine wtu 19 36 1048575 rfl rfl rfl z ?_
   refine wtu 20 36 2097151 rfl rfl rfl z ?_
   refine wtu 21 36 4194303 rfl rfl rfl z ?_
   refine wtu 22 36 8388607 rfl rfl rfl z ?_
   refine wtu 23 36 16777215 rfl rfl rfl z ?_
   refine wtu 24 36 33554431 rfl rfl rfl z ?_
   refine wtu 25 36 67108863 rfl rfl rfl z ?_
   refine wtu 26 36 134217727 rfl rfl rfl z ?_
   refine wtu 27 36 268435455 rfl rfl rfl z ?_
   refine wtu 28 36 536870911 rfl rfl rfl z ?_
   refine wtu 29 36 1073741823 rfl rfl rfl z ?_
   refine wtu 30 36 2147483647 rfl rfl rfl z ?_
   refine wtu 31 36 4294967295 rfl rfl rfl z ?_
   refine wtu 32 36 8589934591 rfl rfl rfl z ?_
   refine wtf 33 36 17179869183 rfl rfl rfl z ?_
   refine wt 34 36 34359738367 rfl z (ov_pick_f rfl rfl) ?_
   refine wt 35 36 68719476735 rfl z (ov_assign rfl) ?_
   refine wa_done (by kernel_rfl) ?_
   refine nx_then (cf_ rfl (sr_ (fd_ fo352_2 rfl rfl (lk_ sc3 0 rfl rfl rfl ?_))))
   refine wl_callw rfl cb75 rfl rfl (fun wx hm => (rin_any _ _ _ wx)) ?_
   refine wl_ov (ov_un_not rfl) rfl (sg_ rfl (nn_ ?_))
   refine gw_cond rfl (fun hh => ?_) (fun hh => ?_)
   ·have h9 : (inB ce 0 1000000) = false := by simpa using hh
    clear hh
    refine sr_ (sg_ rfl (nn_ ?_))
    refine gw_ret ?_
    refine nx_blk_ret (nx_blk_ret (nx_then_ret (nx_then_ret (nx_blk_ret (nx_then_ret ?_)))))
    have hE : feeE (prevOf l k) ⟨ka, kb, ce⟩ = 1 := by unfold feeE leFe; rw [pv_zero hk0]; simp [h2, h3, h4, h9]
    refine nx_ret1 rfl rfl fun wx hm => ?_
    exact ⟨ret_int (by rw [hinv.2, hat, if_neg (by rw [hE]; decide), hE]), hm.g⟩
   have h9 : (inB ce 0 1000000) = true := by simpa using hh
   clear hh
   refine gw_skip (nx_blk_nrm (nx_blk_nrm (nx_then (gw_region ?_))))
   have hE : feeE (prevOf l k) ⟨ka, kb, ce⟩ = 0 := by unfold feeE leFe; rw [pv_zero hk0]; simp [h2, h3, h4, h9]
   refine ad_ rfl rfl (mv_ rfl (wl_nil ?_))
   exact nx_round (k + 1) ⟨by omega, by rw [hinv.2, hat, if_pos hE]⟩ (by omega) ⟨rfl, rfl, rfl, (some_int (by omega)), trivial⟩ (fun _ hm => hm.pick [] [] [0] rfl rfl)
  obtain ⟨y, hy⟩ : ∃ x, l[k - 1]? = some x := ⟨_, List.getElem?_eq_getElem (by omega)⟩
  obtain ⟨p0, p1, p2⟩ := y
  have hpv := pv_pos hk0 hy
  refine gd (fun wz => Blk wz g1 352 [.string ka, .string kb, .int .i64 ce] ∧ (SlOld feEnc 3 352 w.heap.size none (some ⟨b, off, none⟩) n l) wz ∧ True) mixed (fun _ hm => ⟨hm.bl 0, hm.fa 0, trivial⟩) fun z => ?_
  refine wt 0 36 1 rfl z (ov_move rfl) ?_
  refine wt 1 36 3 rfl z (ov_gtr rfl rfl) ?_
  refine wa_set 34 (v' := .bool true) rfl (congrArg Value.bool (decide_eq_true (by omega))) ?_
  refine wt 2 36 7 rfl z (ov_move rfl) ?_
  refine wto 3 36 15 rfl rfl rfl z (ov_field fo352_0 rfl rfl) ?_
  refine wto 4 36 31 rfl rfl rfl z (ov_load sc9 rfl (fun _ hm => hm.1) rfl) ?_
  refine wto 5 36 63 rfl rfl rfl z (ov_move rfl) ?_
  refine wto 6 36 127 rfl rfl rfl z (ov_move rfl) ?_
  refine wto 7 36 255 rfl rfl rfl z (ov_sub rfl rfl (by omega) (by omega)) ?_
  refine wa_set 40 (v' := .int .i64 ((k - 1 : Nat) : Int)) rfl (congrArg (Value.int .i64) (by omega)) ?_
  refine wto 8 36 511 rfl rfl rfl z (ov_index (j := k - 1) es73 rfl rfl (by omega)) ?_
  refine wto 9 36 1023 rfl rfl rfl z (ov_field fo352_0 rfl rfl) ?_
  refine wto 10 36 2047 rfl rfl rfl z (ov_elem1 (k := 0) (v := .string p0) sc9 rfl (fun _ hm => (hm.2.1).1) hy rfl rfl) ?_
  refine wto 11 36 4095 rfl rfl rfl z (ov_slss rfl rfl) ?_
  refine wto 12 36 8191 rfl rfl rfl z (ov_move rfl) ?_
  rcases Bool.eq_false_or_eq_true (Op.bytesLess ka.toList p0.toList) with h5 | h5
  ·refine wa_set 45 rfl (congrArg Value.bool h5) ?_
   have h8 : feLt ⟨p0, p1, p2⟩ ⟨ka, kb, ce⟩ = false := by have h := lt_fe ⟨p0, p1, p2⟩ ⟨ka, kb, ce⟩; simp only at h; rw [h5] at h; simpa using h.symm
   refine wtf 13 36 16383 rfl rfl rfl z ?_
   refine wtf 14 36 32767 rfl rfl rfl z ?_
   refine wtf 15 36 65535 rfl rfl rfl z ?_
   refine wtf 16 36 131071 rfl rfl rfl z ?_
   refine wtf 17 36 262143 rfl rfl rfl z ?_
   refine wtf 18 36 524287 rfl rfl rfl z ?_
   refine wtf 19 36 1048575 rfl rfl rfl z ?_
   refine wtf 20 36 2097151 rfl rfl rfl z ?_
   refine wtf 21 36 4194303 rfl rfl rfl z ?_
   refine wtf 22 36 8388607 rfl rfl rfl z ?_
   refine wtu 23 36 16777215 rfl rfl rfl z ?_
   refine wtu 24 36 33554431 rfl rfl rfl z ?_
   refine wtu 25 36 67108863 rfl rfl rfl z ?_
   refine wtu 26 36 134217727 rfl rfl rfl z ?_
   refine wtu 27 36 268435455 rfl rfl rfl z ?_
   refine wtu 28 36 536870911 rfl rfl rfl z ?_
   refine wtu 29 36 1073741823 rfl rfl rfl z ?_
   refine wtu 30 36 2147483647 rfl rfl rfl z ?_
   refine wtu 31 36 4294967295 rfl rfl rfl z ?_
   refine wtf 32 36 8589934591 rfl rfl rfl z ?_
   refine wto 33 36 17179869183 rfl rfl rfl z (ov_pick_t rfl rfl) ?_
   refine wt 34 36 34359738367 rfl z (ov_pick_t rfl rfl) ?_
   refine wt 35 36 68719476735 rfl z (ov_assign rfl) ?_
   refine wa_done (by kernel_rfl) ?_
   refine nx_then (ct_ rfl (sr_ (sg_ rfl (nn_ ?_))))
   refine gw_ret ?_
   refine nx_blk_ret (nx_blk_ret (nx_then_ret (nx_then_ret (nx_blk_ret (nx_then_ret ?_)))))
   have hE : feeE (prevOf l k) ⟨ka, kb, ce⟩ = 7 := by unfold feeE leFe; rw [hpv]; simp [h2, h3, h4, h8]
   refine nx_ret1 rfl rfl fun wx hm => ?_
   exact ⟨ret_int (by rw [hinv.2, hat, if_neg (by rw [hE]; decide), hE]), hm.g⟩
  refine wa_set 45 rfl (congrArg Value.bool h5) ?_
  refine wto 13 36 16383 rfl rfl rfl z (ov_field fo352_0 rfl rfl) ?_
  refine wto 14 36 32767 rfl rfl rfl z (ov_load sc9 rfl (fun _ hm => hm.1) rfl) ?_
  refine wto 15 36 65535 rfl rfl rfl z (ov_move rfl) ?_
  refine wto 16 36 131071 rfl rfl rfl z (ov_move rfl) ?_
  refine wto 17 36 262143 rfl rfl rfl z (ov_sub rfl rfl (by omega) (by omega)) ?_
  refine wa_set 50 (v' := .int .i64 ((k - 1 : Nat) : Int)) rfl (congrArg (Value.int .i64) (by omega)) ?_
  refine wto 18 36 524287 rfl rfl rfl z (ov_index (j := k - 1) es73 rfl rfl (by omega)) ?_
  refine wto 19 36 1048575 rfl rfl rfl z (ov_field fo352_0 rfl rfl) ?_
  refine wto 20 36 2097151 rfl rfl rfl z (ov_elem1 (k := 0) (v := .string p0) sc9 rfl (fun _ hm => (hm.2.1).1) hy rfl rfl) ?_
  refine wto 21 36 4194303 rfl rfl rfl z (ov_seql rfl rfl) ?_
  refine wto 22 36 8388607 rfl rfl rfl z (ov_move rfl) ?_
  rcases Bool.eq_false_or_eq_true (ka.toList == p0.toList) with h6 | h6
  ·refine wa_set 55 rfl (congrArg Value.bool h6) ?_
   refine wto 23 36 16777215 rfl rfl rfl z (ov_field fo352_1 rfl rfl) ?_
   refine wto 24 36 33554431 rfl rfl rfl z (ov_load sc9 rfl (fun _ hm => hm.1) rfl) ?_
   refine wto 25 36 67108863 rfl rfl rfl z (ov_move rfl) ?_
   refine wto 26 36 134217727 rfl rfl rfl z (ov_move rfl) ?_
   refine wto 27 36 268435455 rfl rfl rfl z (ov_sub rfl rfl (by omega) (by omega)) ?_
   refine wa_set 60 (v' := .int .i64 ((k - 1 : Nat) : Int)) rfl (congrArg (Value.int .i64) (by omega)) ?_
   refine wto 28 36 536870911 rfl rfl rfl z (ov_index (j := k - 1) es73 rfl rfl (by omega)) ?_
   refine wto 29 36 1073741823 rfl rfl rfl z (ov_field fo352_1 rfl rfl) ?_
   refine wto 30 36 2147483647 rfl rfl rfl z (ov_elem1 (k := 1) (v := .string p1) sc9 rfl (fun _ hm => (hm.2.1).1) hy rfl rfl) ?_
   refine wto 31 36 4294967295 rfl rfl rfl z (ov_sleq rfl rfl) ?_
   refine wto 32 36 8589934591 rfl rfl rfl z (ov_pick_t rfl rfl) ?_
   refine wto 33 36 17179869183 rfl rfl rfl z (ov_pick_f rfl rfl) ?_
   refine wt 34 36 34359738367 rfl z (ov_pick_t rfl rfl) ?_
   refine wt 35 36 68719476735 rfl z (ov_assign rfl) ?_
   refine wa_done (by kernel_rfl) ?_
   refine nx_then ?_
   refine gw_cond rfl (fun hh => ?_) (fun hh => ?_)
   ·have h7 : (Op.bytesLess kb.toList p1.toList || kb.toList == p1.toList) = true := by simpa using hh
    clear hh
    refine sr_ ?_
    have h8 : feLt ⟨p0, p1, p2⟩ ⟨ka, kb, ce⟩ = false := by have h := lt_fe ⟨p0, p1, p2⟩ ⟨ka, kb, ce⟩; simp only at h; rw [h5, h6, h7] at h; simpa using h.symm
    refine sg_ rfl (nn_ ?_)
    refine gw_ret ?_
    refine nx_blk_ret (nx_blk_ret (nx_then_ret (nx_then_ret (nx_blk_ret (nx_then_ret ?_)))))
    have hE : feeE (prevOf l k) ⟨ka, kb, ce⟩ = 7 := by unfold feeE leFe; rw [hpv]; simp [h2, h3, h4, h8]
    refine nx_ret1 rfl rfl fun wx hm => ?_
    exact ⟨ret_int (by rw [hinv.2, hat, if_neg (by rw [hE]; decide), hE]), hm.g⟩
   have h7 : (Op.bytesLess kb.toList p1.toList || kb.toList == p1.toList) = false := by simpa using hh
   clear hh
   refine sr_ ?_
   have h8 : feLt ⟨p0, p1, p2⟩ ⟨ka, kb, ce⟩ = true := by have h := lt_fe ⟨p0, p1, p2⟩ ⟨ka, kb, ce⟩; simp only at h; rw [h5, h6, h7] at h; simpa using h.symm
   refine fd_ fo352_2 rfl rfl (lk_ sc3 0 rfl rfl rfl ?_)
   refine wl_callw rfl cb75 rfl rfl (fun wx hm => (rin_any _ _ _ wx)) ?_
   refine wl_ov (ov_un_not rfl) rfl (sg_ rfl (nn_ ?_))
   refine gw_cond rfl (fun hh => ?_) (fun hh => ?_)
   ·have h9 : (inB ce 0 1000000) = false := by simpa using hh
    clear hh
    refine sr_ (sg_ rfl (nn_ ?_))
    refine gw_ret ?_
    refine nx_blk_ret (nx_blk_ret (nx_then_ret (nx_then_ret (nx_blk_ret (nx_then_ret ?_)))))
    have hE : feeE (prevOf l k) ⟨ka, kb, ce⟩ = 1 := by unfold feeE leFe; rw [hpv]; simp [h2, h3, h4, h8, h9]
    refine nx_ret1 rfl rfl fun wx hm => ?_
    exact ⟨ret_int (by rw [hinv.2, hat, if_neg (by rw [hE]; decide), hE]), hm.g⟩
   have h9 : (inB ce 0 1000000) = true := by simpa using hh
   clear hh
   refine gw_skip (nx_blk_nrm (nx_blk_nrm (nx_then (gw_region ?_))))
   have hE : feeE (prevOf l k) ⟨ka, kb, ce⟩ = 0 := by unfold feeE leFe; rw [hpv]; simp [h2, h3, h4, h8, h9]
   refine ad_ rfl rfl (mv_ rfl (wl_nil ?_))
   exact nx_round (k + 1) ⟨by omega, by rw [hinv.2, hat, if_pos hE]⟩ (by omega) ⟨rfl, rfl, rfl, (some_int (by omega)), trivial⟩ (fun _ hm => hm.pick [] [] [0] rfl rfl)
  refine wa_set 55 rfl (congrArg Value.bool h6) ?_
  have h8 : feLt ⟨p0, p1, p2⟩ ⟨ka, kb, ce⟩ = true := by have h := lt_fe ⟨p0, p1, p2⟩ ⟨ka, kb, ce⟩; simp only at h; rw [h5, h6] at h; simpa using h.symm
  refine wtf 23 36 16777215 rfl rfl rfl z ?_
  refine wtf 24 36 33554431 rfl rfl rfl z ?_
  refine wtf 25 36 67108863 rfl rfl rfl z ?_
  refine wtf 26 36 134217727 rfl rfl rfl z ?_
  refine wtf 27 36 268435455 rfl rfl rfl z ?_
  refine wtf 28 36 536870911 rfl rfl rfl z ?_
  refine wtf 29 36 1073741823 rfl rfl rfl z ?_
  refine wtf 30 36 2147483647 rfl rfl rfl z ?_
  refine wtf 31 36 4294967295 rfl rfl rfl z ?_
  refine wto 32 36 8589934591 rfl rfl rfl z (ov_pick_f rfl rfl) ?_
  refine wto 33 36 17179869183 rfl rfl rfl z (ov_pick_f rfl rfl) ?_
  refine wt 34 36 34359738367 rfl z (ov_pick_t rfl rfl) ?_
  refine wt 35 36 68719476735 rfl z (ov_assign rfl) ?_
  refine wa_done (by kernel_rfl) ?_
  refine nx_then (cf_ rfl (sr_ (fd_ fo352_2 rfl rfl (lk_ sc3 0 rfl rfl rfl ?_))))
  refine wl_callw rfl cb75 rfl rfl (fun wx hm => (rin_any _ _ _ wx)) ?_
  refine wl_ov (ov_un_not rfl) rfl (sg_ rfl (nn_ ?_))
  refine gw_cond rfl (fun hh => ?_) (fun hh => ?_)
  ·have h9 : (inB ce 0 1000000) = false := by simpa using hh
   clear hh
   refine sr_ (sg_ rfl (nn_ ?_))
   refine gw_ret ?_
   refine nx_blk_ret (nx_blk_ret (nx_then_ret (nx_then_ret (nx_blk_ret (nx_then_ret ?_)))))
   have hE : feeE (prevOf l k) ⟨ka, kb, ce⟩ = 1 := by unfold feeE leFe; rw [hpv]; simp [h2, h3, h4, h8, h9]
   refine nx_ret1 rfl rfl fun wx hm => ?_
   exact ⟨ret_int (by rw [hinv.2, hat, if_neg (by rw [hE]; decide), hE]), hm.g⟩
  have h9 : (inB ce 0 1000000) = true := by simpa using hh
  clear hh
  refine gw_skip (nx_blk_nrm (nx_blk_nrm (nx_then (gw_region ?_))))
  have hE : feeE (prevOf l k) ⟨ka, kb, ce⟩ = 0 := by unfold feeE leFe; rw [hpv]; simp [h2, h3, h4, h8, h9]
  refine ad_ rfl rfl (mv_ rfl (wl_nil ?_))
  exact nx_round (k + 1) ⟨by omega, by rw [hinv.2, hat, if_pos hE]⟩ (by omega) ⟨rfl, rfl, rfl, (some_int (by omega)), trivial⟩ (fun _ hm => hm.pick [] [] [0] rfl rfl)
 have hk : ¬ (((k : Nat) : Int) < ((n : Nat) : Int)) := by simpa using hh
 clear hh
 refine gw_exit ?_
 refine nx_then_exit (nx_then_exit ?_)
 refine nx_blk_here ?_
 refine nx_then (sr_ (sg_ rfl (nn_ ?_)))
 refine gw_ret ?_
 refine nx_ret1 rfl rfl fun wx hm => ?_
 exact ⟨ret_int (by rw [hinv.2, scanE_end _ _ _ _ (by omega)]), hm.g⟩
def feP (a b : ByteArray) (x : Fe) : Bool := x.a.toList == a.toList && x.b.toList == b.toList
def feAt (l : List Fe) (a b : ByteArray) : Int := match l[(ixP (feP a b) l 0).toNat]? with
  | some x => x.cents
  | none => 0
/-- The error and the fee of FeeOf. -/
def feeOfC (l : List Fe) (a b : ByteArray) : Int := firstE [feesE l, whenE (!keyB a || !keyB b) 5]
def feeOfE (l : List Fe) (a b : ByteArray) : Int := if feeOfC l a b = 0 then (if (a.toList == b.toList) = true then 0 else if 0 ≤ ixP (feP a b) l 0 then 0 else 8) else feeOfC l a b
def feeOfV (l : List Fe) (a b : ByteArray) : Int := if feeOfC l a b = 0 then (if (a.toList == b.toList) = true then 0 else if 0 ≤ ixP (feP a b) l 0 then feAt l a b else 0) else 0
theorem feAt_of {l : List Fe} {a b : ByteArray} {i : Nat} {x : Fe} (h : ixP (feP a b) l 0 = ((i : Nat) : Int)) (hx : l[i]? = some x) : feAt l a b = x.cents := by
  unfold feAt; rw [h, Int.toNat_natCast, hx]
theorem tFeeOf_any (l : List Fe) (A : Option Addr) (n c0 : Nat) (ka kb : ByteArray) (w : World) (hl : SlT feEnc 3 352 w A n l) (hok : ∀ b ∈ l, FeOk b) (hn : n ≤ 1000000) (h1 : ka.size ≤ 1000000) (h2 : kb.size ≤ 1000000) :
  Calls Tryz.prog 213 #[.slice A n c0, .string ka, .string kb] w (fun e w' => e = .returned (.tuple #[.int .i64 (feeOfV l ka kb), .int .i64 (feeOfE l ka kb)]) ∧ w.grownBy w' none) := by
 refine gw_enter ⟨49, w, none, []⟩ Tryz.func213 rfl Tryz.ntmps213 rfl (mem0 (X := [SlOld feEnc 3 352 w.heap.size none A n l]) (allF_cons hl.old allF_nil) (allL_cons SlOld.lasts allL_nil)) ?_
 refine sr_ ?_
 have hlen := hl.len
 obtain ⟨XE, hXE⟩ : ∃ E, E = feesE l := ⟨_, rfl⟩
 refine sg_ rfl (sg_ rfl (nn_ (gw_seq (sr_ (mv_ rfl ?_)))))
 refine wl_callv (v := .int .i64 XE) rfl cb206 rfl rfl (fun wx hm => (by rw [hXE]; exact checkFees_any l A n c0 wx (hm.fact 0 rfl).1 hok hn)) ?_
 refine mv_ rfl ?_
 refine wl_callw rfl cb112 rfl rfl (fun wx hm => (isKey_any _ wx (by omega))) ?_
 refine wl_ov (ov_un_not rfl) rfl (mv_ rfl ?_)
 rcases Bool.eq_false_or_eq_true (!(keyB ka)) with h2 | h2
 ·refine wl_set 16 rfl (congrArg Value.bool h2) ?_
  have hC : feeOfC l ka kb = firstE [XE, whenE true 5] := by unfold feeOfC; rw [h2, ← hXE]; rfl
  refine goff rfl rfl rfl (goff rfl rfl rfl (goff rfl rfl rfl (pt_ rfl rfl ?_)))
  refine wl_callw rfl cb67 rfl rfl (fun wx hm => (when_any _ _ wx)) ?_
  refine wl_buildSlice (e := 33) (cs := [.int .i64 XE, .int .i64 (whenE true 5)]) rfl (by kernel_rfl) rfl fun g1 => ?_
  refine wl_callw rfl cb66 rfl rfl (fun wx hm => (first_any [XE, whenE true 5] _ _ _ wx (hm.blkI 0 rfl) (by simp))) ?_
  refine sg_ rfl (nn_ (sr_ (mv_ rfl (wl_ov (ov_neq rfl rfl) rfl (nn_ ?_)))))
  refine gw_cond rfl (fun hh => ?_) (fun hh => ?_)
  ·have hz : ¬ (firstE [XE, whenE true 5] = 0) := by simpa using hh
   clear hh
   refine sr_ (mv_ rfl (sg_ rfl (sg_ rfl (nn_ ?_))))
   refine gw_ret ?_
   refine nx_then_ret ?_
   refine nx_ret2 rfl rfl rfl fun wx hm => ?_
   refine ⟨?_, hm.g⟩
   unfold feeOfE feeOfV
   rw [hC, if_neg hz, if_neg hz]
  have hz : firstE [XE, whenE true 5] = 0 := by simpa using hh
  clear hh
  refine gw_skip (nx_then (gw_seq (sr_ (mv_ rfl (mv_ rfl (wl_ov (ov_seql rfl rfl) rfl (nn_ ?_)))))))
  refine gw_cond rfl (fun hh => ?_) (fun hh => ?_)
  ·have hab : (ka.toList == kb.toList) = true := by simpa using hh
   clear hh
   refine sr_ (sg_ rfl (sg_ rfl (nn_ ?_)))
   refine gw_ret ?_
   refine nx_then_ret ?_
   refine nx_ret2 rfl rfl rfl fun wx hm => ?_
   refine ⟨?_, hm.g⟩
   unfold feeOfE feeOfV
   rw [hC, if_pos hz, if_pos hz, if_pos hab, if_pos hab]
  have hab : (ka.toList == kb.toList) = false := by simpa using hh
  clear hh
  refine gw_skip (nx_then (gw_seq (sr_ (mv_ rfl (wl_ov (ov_len es73 rfl) rfl (mv_ rfl (nn_ (gw_block ?_))))))))
  refine gw_loop (γ := Nat) (fun (i : Nat) => i ≤ n ∧ ixP (feP ka kb) l 0 = ixP (feP ka kb) (l.drop i) i) (fun (i : Nat) => [(1, .string ka), (2, .string kb), (30, .slice A n c0), (31, .int .i64 ((n : Nat) : Int)), (32, .int .i64 ((i : Nat) : Int))]) (fun (i : Nat) => fun _ => True) (fun (i : Nat) => [(g1, 33, [.int .i64 XE, .int .i64 (whenE true 5)])]) (fun (i : Nat) => []) (fun (i : Nat) => [SlOld feEnc 3 352 w.heap.size none A n l]) (fun (i : Nat) => n - i) 0 ⟨Nat.zero_le _, rfl⟩ ⟨rfl, rfl, rfl, rfl, rfl, trivial⟩ (fun _ hm => hm.pick [0] [] [0] rfl rfl) ?_
  intro i hinv
  replace hinv : i ≤ n ∧ ixP (feP ka kb) l 0 = ixP (feP ka kb) (l.drop i) i := hinv
  refine sr_ (wl_ov (ov_lss rfl rfl) rfl (nn_ (gw_seq ?_)))
  refine gw_cond rfl (fun hh => ?_) (fun hh => ?_)
  ·have hi : ((i : Nat) : Int) < ((n : Nat) : Int) := by simpa using hh
   clear hh
   refine gw_skip (nx_then (gw_seq (gw_block (sr_ ?_))))
   obtain ⟨b, off, hA, _, _⟩ := hl.get (by omega)
   subst hA
   obtain ⟨x, hx⟩ : ∃ x, l[i]? = some x := ⟨_, List.getElem?_eq_getElem (by omega)⟩
   obtain ⟨xa, xb, xc⟩ := x
   have hat := ixP_at (p := feP ka kb) hx
   refine wl_ov (ov_index (j := i) es73 rfl rfl (by omega)) rfl ?_
   refine wl_ov (ov_elem (vs := [.string xa, .string xb, .int .i64 xc]) rz352 rfl (fun _ hm => (hm.fact 0 rfl).1) hx rfl rfl) rfl ?_
   refine wl_alloc zc352 rfl fun g2 => ?_
   refine wl_stores (cs' := [.string xa, .string xb, .int .i64 xc]) 0 rz352 rfl rfl rfl rfl rfl rfl rfl rfl ?_
   refine nn_ (sr_ (fd_ fo352_0 rfl rfl (lk_ sc9 0 rfl rfl rfl (mv_ rfl (wl_ov (ov_seql rfl rfl) rfl (mv_ rfl ?_))))))
   rcases Bool.eq_false_or_eq_true (xa.toList == ka.toList) with h5 | h5
   ·refine wl_set 40 rfl (congrArg Value.bool h5) ?_
    refine wl_guard_on rfl rfl rfl (fd_ fo352_1 rfl rfl (wl_guard_on rfl rfl rfl (lk_ sc9 0 rfl rfl rfl (wl_guard_on rfl rfl rfl (mv_ rfl (wl_guard_on rfl rfl rfl (wl_ov (ov_seql rfl rfl) rfl (pt_ rfl rfl (nn_ ?_)))))))))
    refine gw_cond rfl (fun hh => ?_) (fun hh => ?_)
    ·have h6 : (xb.toList == kb.toList) = true := by simpa using hh
     clear hh
     refine sr_ ?_
     have hq : feP ka kb ⟨xa, xb, xc⟩ = true := by unfold feP; dsimp only; rw [h5, h6]; rfl
     have hix : ixP (feP ka kb) l 0 = ((i : Nat) : Int) := by rw [hinv.2, hat, if_pos hq]
     have hva := feAt_of hix hx
     dsimp only at hva
     have hi00 : 0 ≤ ixP (feP ka kb) l 0 := by rw [hix]; omega
     refine fd_ fo352_2 rfl rfl (lk_ sc3 0 rfl rfl rfl (sg_ rfl (sg_ rfl (nn_ ?_))))
     refine gw_ret ?_
     refine nx_blk_ret (nx_then_ret (nx_then_ret (nx_blk_ret (nx_then_ret ?_))))
     refine nx_ret2 rfl rfl rfl fun wx hm => ?_
     refine ⟨?_, hm.g⟩
     unfold feeOfE feeOfV
     rw [hC, if_pos hz, if_pos hz, if_neg (show ¬ (ka.toList == kb.toList) = true by rw [hab]; decide), if_neg (show ¬ (ka.toList == kb.toList) = true by rw [hab]; decide), if_pos hi00, if_pos hi00, hva]
    have h6 : (xb.toList == kb.toList) = false := by simpa using hh
    clear hh
    refine gw_skip (nx_blk_nrm (nx_then (gw_region ?_)))
    have hq : feP ka kb ⟨xa, xb, xc⟩ = false := by unfold feP; dsimp only; rw [h5, h6]; rfl
    refine ad_ rfl rfl (mv_ rfl (wl_nil ?_))
    exact nx_round (i + 1) ⟨by omega, by rw [hinv.2, hat, if_neg (by rw [hq]; decide)]⟩ (by omega) ⟨rfl, rfl, rfl, rfl, (some_int (by omega)), trivial⟩ (fun _ hm => hm.pick [1] [] [0] rfl rfl)
   refine wl_set 40 rfl (congrArg Value.bool h5) ?_
   have hq : feP ka kb ⟨xa, xb, xc⟩ = false := by unfold feP; dsimp only; rw [h5]; rfl
   refine goff rfl rfl rfl (goff rfl rfl rfl (goff rfl rfl rfl (goff rfl rfl rfl (pf_ rfl rfl (nn_ (cf_ rfl (gw_skip (nx_blk_nrm (nx_then (gw_region (ad_ rfl rfl (mv_ rfl ?_))))))))))))
   refine wl_nil ?_
   exact nx_round (i + 1) ⟨by omega, by rw [hinv.2, hat, if_neg (by rw [hq]; decide)]⟩ (by omega) ⟨rfl, rfl, rfl, rfl, (some_int (by omega)), trivial⟩ (fun _ hm => hm.pick [1] [] [0] rfl rfl)
  have hi : ¬ (((i : Nat) : Int) < ((n : Nat) : Int)) := by simpa using hh
  clear hh
  refine gw_exit ?_
  refine nx_then_exit (nx_then_exit ?_)
  refine nx_blk_here ?_
  refine nx_then (sr_ ?_)
  have hix : ixP (feP ka kb) l 0 = -1 := by rw [hinv.2, List.drop_eq_nil_of_le (by omega)]; rfl
  have hi00 : ¬ 0 ≤ ixP (feP ka kb) l 0 := by rw [hix]; omega
  refine sg_ rfl (sg_ rfl (nn_ ?_))
  refine gw_ret ?_
  refine nx_ret2 rfl rfl rfl fun wx hm => ?_
  refine ⟨?_, hm.g⟩
  unfold feeOfE feeOfV
  rw [hC, if_pos hz, if_pos hz, if_neg (show ¬ (ka.toList == kb.toList) = true by rw [hab]; decide), if_neg (show ¬ (ka.toList == kb.toList) = true by rw [hab]; decide), if_neg hi00, if_neg hi00]
 refine wl_set 16 rfl (congrArg Value.bool h2) ?_
 have hC : feeOfC l ka kb = firstE [XE, whenE (!keyB kb) 5] := by unfold feeOfC; rw [h2, ← hXE]; rfl
 refine wl_guard_on rfl rfl rfl (mv_ rfl (wl_guard_on rfl rfl rfl ?_))
 refine wl_callw rfl cb112 rfl rfl (fun wx hm => (isKey_any _ wx (by omega))) ?_
 refine wl_guard_on rfl rfl rfl (wl_ov (ov_un_not rfl) rfl (pf_ rfl rfl ?_))
 refine wl_callw rfl cb67 rfl rfl (fun wx hm => (when_any _ _ wx)) ?_
 refine wl_buildSlice (e := 33) (cs := [.int .i64 XE, .int .i64 (whenE (!(keyB kb)) 5)]) rfl (by kernel_rfl) rfl fun g3 => ?_
 refine wl_callw rfl cb66 rfl rfl (fun wx hm => (first_any [XE, whenE (!(keyB kb)) 5] _ _ _ wx (hm.blkI 0 rfl) (by simp))) ?_
 refine sg_ rfl (nn_ (sr_ (mv_ rfl (wl_ov (ov_neq rfl rfl) rfl (nn_ ?_)))))
 refine gw_cond rfl (fun hh => ?_) (fun hh => ?_)
 ·have hz : ¬ (firstE [XE, whenE (!(keyB kb)) 5] = 0) := by simpa using hh
  clear hh
  refine sr_ (mv_ rfl (sg_ rfl (sg_ rfl (nn_ ?_))))
  refine gw_ret ?_
  refine nx_then_ret ?_
  refine nx_ret2 rfl rfl rfl fun wx hm => ?_
  refine ⟨?_, hm.g⟩
  unfold feeOfE feeOfV
  rw [hC, if_neg hz, if_neg hz]
 have hz : firstE [XE, whenE (!(keyB kb)) 5] = 0 := by simpa using hh
 clear hh
 refine gw_skip (nx_then (gw_seq (sr_ (mv_ rfl (mv_ rfl (wl_ov (ov_seql rfl rfl) rfl (nn_ ?_)))))))
 refine gw_cond rfl (fun hh => ?_) (fun hh => ?_)
 ·have hab : (ka.toList == kb.toList) = true := by simpa using hh
  clear hh
  refine sr_ (sg_ rfl (sg_ rfl (nn_ ?_)))
  refine gw_ret ?_
  refine nx_then_ret ?_
  refine nx_ret2 rfl rfl rfl fun wx hm => ?_
  refine ⟨?_, hm.g⟩
  unfold feeOfE feeOfV
  rw [hC, if_pos hz, if_pos hz, if_pos hab, if_pos hab]
 have hab : (ka.toList == kb.toList) = false := by simpa using hh
 clear hh
 refine gw_skip (nx_then (gw_seq (sr_ (mv_ rfl (wl_ov (ov_len es73 rfl) rfl (mv_ rfl (nn_ (gw_block ?_))))))))
 refine gw_loop (γ := Nat) (fun (i : Nat) => i ≤ n ∧ ixP (feP ka kb) l 0 = ixP (feP ka kb) (l.drop i) i) (fun (i : Nat) => [(1, .string ka), (2, .string kb), (30, .slice A n c0), (31, .int .i64 ((n : Nat) : Int)), (32, .int .i64 ((i : Nat) : Int))]) (fun (i : Nat) => fun _ => True) (fun (i : Nat) => [(g3, 33, [.int .i64 XE, .int .i64 (whenE (!(keyB kb)) 5)])]) (fun (i : Nat) => []) (fun (i : Nat) => [SlOld feEnc 3 352 w.heap.size none A n l]) (fun (i : Nat) => n - i) 0 ⟨Nat.zero_le _, rfl⟩ ⟨rfl, rfl, rfl, rfl, rfl, trivial⟩ (fun _ hm => hm.pick [0] [] [0] rfl rfl) ?_
 intro i hinv
 replace hinv : i ≤ n ∧ ixP (feP ka kb) l 0 = ixP (feP ka kb) (l.drop i) i := hinv
 refine sr_ (wl_ov (ov_lss rfl rfl) rfl (nn_ (gw_seq ?_)))
 refine gw_cond rfl (fun hh => ?_) (fun hh => ?_)
 ·have hi : ((i : Nat) : Int) < ((n : Nat) : Int) := by simpa using hh
  clear hh
  refine gw_skip (nx_then (gw_seq (gw_block (sr_ ?_))))
  obtain ⟨b, off, hA, _, _⟩ := hl.get (by omega)
  subst hA
  obtain ⟨x, hx⟩ : ∃ x, l[i]? = some x := ⟨_, List.getElem?_eq_getElem (by omega)⟩
  obtain ⟨xa, xb, xc⟩ := x
  have hat := ixP_at (p := feP ka kb) hx
  refine wl_ov (ov_index (j := i) es73 rfl rfl (by omega)) rfl ?_
  refine wl_ov (ov_elem (vs := [.string xa, .string xb, .int .i64 xc]) rz352 rfl (fun _ hm => (hm.fact 0 rfl).1) hx rfl rfl) rfl ?_
  refine wl_alloc zc352 rfl fun g4 => ?_
  refine wl_stores (cs' := [.string xa, .string xb, .int .i64 xc]) 0 rz352 rfl rfl rfl rfl rfl rfl rfl rfl ?_
  refine nn_ (sr_ (fd_ fo352_0 rfl rfl (lk_ sc9 0 rfl rfl rfl (mv_ rfl (wl_ov (ov_seql rfl rfl) rfl (mv_ rfl ?_))))))
  rcases Bool.eq_false_or_eq_true (xa.toList == ka.toList) with h5 | h5
  ·refine wl_set 40 rfl (congrArg Value.bool h5) ?_
   refine wl_guard_on rfl rfl rfl (fd_ fo352_1 rfl rfl (wl_guard_on rfl rfl rfl (lk_ sc9 0 rfl rfl rfl (wl_guard_on rfl rfl rfl (mv_ rfl (wl_guard_on rfl rfl rfl (wl_ov (ov_seql rfl rfl) rfl (pt_ rfl rfl (nn_ ?_)))))))))
   refine gw_cond rfl (fun hh => ?_) (fun hh => ?_)
   ·have h6 : (xb.toList == kb.toList) = true := by simpa using hh
    clear hh
    refine sr_ ?_
    have hq : feP ka kb ⟨xa, xb, xc⟩ = true := by unfold feP; dsimp only; rw [h5, h6]; rfl
    have hix : ixP (feP ka kb) l 0 = ((i : Nat) : Int) := by rw [hinv.2, hat, if_pos hq]
    have hva := feAt_of hix hx
    dsimp only at hva
    have hi00 : 0 ≤ ixP (feP ka kb) l 0 := by rw [hix]; omega
    refine fd_ fo352_2 rfl rfl (lk_ sc3 0 rfl rfl rfl (sg_ rfl (sg_ rfl (nn_ ?_))))
    refine gw_ret ?_
    refine nx_blk_ret (nx_then_ret (nx_then_ret (nx_blk_ret (nx_then_ret ?_))))
    refine nx_ret2 rfl rfl rfl fun wx hm => ?_
    refine ⟨?_, hm.g⟩
    unfold feeOfE feeOfV
    rw [hC, if_pos hz, if_pos hz, if_neg (show ¬ (ka.toList == kb.toList) = true by rw [hab]; decide), if_neg (show ¬ (ka.toList == kb.toList) = true by rw [hab]; decide), if_pos hi00, if_pos hi00, hva]
   have h6 : (xb.toList == kb.toList) = false := by simpa using hh
   clear hh
   refine gw_skip (nx_blk_nrm (nx_then (gw_region ?_)))
   have hq : feP ka kb ⟨xa, xb, xc⟩ = false := by unfold feP; dsimp only; rw [h5, h6]; rfl
   refine ad_ rfl rfl (mv_ rfl (wl_nil ?_))
   exact nx_round (i + 1) ⟨by omega, by rw [hinv.2, hat, if_neg (by rw [hq]; decide)]⟩ (by omega) ⟨rfl, rfl, rfl, rfl, (some_int (by omega)), trivial⟩ (fun _ hm => hm.pick [1] [] [0] rfl rfl)
  refine wl_set 40 rfl (congrArg Value.bool h5) ?_
  have hq : feP ka kb ⟨xa, xb, xc⟩ = false := by unfold feP; dsimp only; rw [h5]; rfl
  refine goff rfl rfl rfl (goff rfl rfl rfl (goff rfl rfl rfl (goff rfl rfl rfl (pf_ rfl rfl (nn_ (cf_ rfl (gw_skip (nx_blk_nrm (nx_then (gw_region (ad_ rfl rfl (mv_ rfl ?_))))))))))))
  refine wl_nil ?_
  exact nx_round (i + 1) ⟨by omega, by rw [hinv.2, hat, if_neg (by rw [hq]; decide)]⟩ (by omega) ⟨rfl, rfl, rfl, rfl, (some_int (by omega)), trivial⟩ (fun _ hm => hm.pick [1] [] [0] rfl rfl)
 have hi : ¬ (((i : Nat) : Int) < ((n : Nat) : Int)) := by simpa using hh
 clear hh
 refine gw_exit ?_
 refine nx_then_exit (nx_then_exit ?_)
 refine nx_blk_here ?_
 refine nx_then (sr_ ?_)
 have hix : ixP (feP ka kb) l 0 = -1 := by rw [hinv.2, List.drop_eq_nil_of_le (by omega)]; rfl
 have hi00 : ¬ 0 ≤ ixP (feP ka kb) l 0 := by rw [hix]; omega
 refine sg_ rfl (sg_ rfl (nn_ ?_))
 refine gw_ret ?_
 refine nx_ret2 rfl rfl rfl fun wx hm => ?_
 refine ⟨?_, hm.g⟩
 unfold feeOfE feeOfV
 rw [hC, if_pos hz, if_pos hz, if_neg (show ¬ (ka.toList == kb.toList) = true by rw [hab]; decide), if_neg (show ¬ (ka.toList == kb.toList) = true by rw [hab]; decide), if_neg hi00, if_neg hi00]
def prEnc (x : ByteArray × ByteArray) : List Value := [.string x.1, .string x.2]
theorem pr_len (x : ByteArray × ByteArray) : (prEnc x).length = 2 := rfl
theorem pr_sz {x : ByteArray × ByteArray} (h : x ∈ ([(⟨#[115, 49]⟩, ⟨#[115, 50]⟩), (⟨#[115, 49]⟩, ⟨#[115, 51]⟩), (⟨#[115, 50]⟩, ⟨#[115, 49]⟩), (⟨#[115, 51]⟩, ⟨#[115, 50]⟩)] : List (ByteArray × ByteArray))) : x.1.size ≤ 100 ∧ x.2.size ≤ 100 := by
  have key : ∀ y ∈ ([(⟨#[115, 49]⟩, ⟨#[115, 50]⟩), (⟨#[115, 49]⟩, ⟨#[115, 51]⟩), (⟨#[115, 50]⟩, ⟨#[115, 49]⟩), (⟨#[115, 51]⟩, ⟨#[115, 50]⟩)] : List (ByteArray × ByteArray)), y.1.size ≤ 100 ∧ y.2.size ≤ 100 := by decide
  exact key x h
theorem fe_snoc {l : List Fe} {x : Fe} (h : ∀ y ∈ l, FeOk y) (h1 : x.a.size ≤ 1000000) (h2 : x.b.size ≤ 1000000) : ∀ y ∈ l ++ [x], FeOk y := fun y hy => by
  rcases List.mem_append.1 hy with hy | hy
  · exact h y hy
  · rw [List.mem_singleton.1 hy]; exact ⟨h1, h2⟩
theorem gfees_any (w : World) (B sb m : Nat) (hS : Strm 25 w B sb m) (hm : m ≤ 100000000000) :
  Calls Tryz.prog 196 #[.pointer (some ⟨sb, 0, none⟩)] w (fun e w' => ∃ (A : Option Addr) (n c : Nat) (l : List Fe), e = .returned (.slice A n c) ∧ SlT feEnc 3 352 w' A n l ∧ (∀ x ∈ l, FeOk x) ∧ n ≤ 5 ∧ n ≤ c ∧ Strm 25 w' B sb (m + 30) ∧ w.grownBy w' (some sb)) := by
 refine gw_enter ⟨46, w, (some sb), []⟩ Tryz.func196 rfl Tryz.ntmps196 rfl (memS (X := []) hS allF_nil allL_nil) ?_
 refine sr_ (sg_ rfl (nn_ (sr_ (sg_ rfl (nn_ (gw_seq (sr_ ?_)))))))
 refine wl_ov (ov_build (cs := [.string ⟨#[115, 49]⟩, .string ⟨#[115, 50]⟩]) rfl (by kernel_rfl)) rfl ?_
 refine wl_ov (ov_build (cs := [.string ⟨#[115, 49]⟩, .string ⟨#[115, 51]⟩]) rfl (by kernel_rfl)) rfl ?_
 refine wl_ov (ov_build (cs := [.string ⟨#[115, 50]⟩, .string ⟨#[115, 49]⟩]) rfl (by kernel_rfl)) rfl ?_
 refine wl_ov (ov_build (cs := [.string ⟨#[115, 51]⟩, .string ⟨#[115, 50]⟩]) rfl (by kernel_rfl)) rfl ?_
 refine wl_buildSlice (e := 349) (cs := [.string ⟨#[115, 49]⟩, .string ⟨#[115, 50]⟩, .string ⟨#[115, 49]⟩, .string ⟨#[115, 51]⟩, .string ⟨#[115, 50]⟩, .string ⟨#[115, 49]⟩, .string ⟨#[115, 51]⟩, .string ⟨#[115, 50]⟩]) rfl (by kernel_rfl) rfl fun g1 => ?_
 refine wl_ov (ov_len es350 rfl) rfl ?_
 refine wl_set 11 (v' := .int .i64 4) rfl rfl ?_
 refine mv_ rfl (nn_ (gw_block ?_))
 refine gw_nilOwn 352 3 ?_
 refine gw_loop (γ := Nat × Nat × Value × List Fe × List Value) (fun g => g.1 ≤ 4 ∧ g.2.1 ≤ g.1 ∧ g.2.2.2.1.length = g.2.1 ∧ (∀ x ∈ g.2.2.2.1, FeOk x) ∧ g.2.2.2.2 = g.2.2.2.1.flatMap feEnc) (fun g => [(0, .pointer (some ⟨sb, 0, none⟩)), (2, .slice none 0 0), (3, g.2.2.1), (10, .slice (some ⟨g1, 0, none⟩) 4 4), (11, .int .i64 4), (12, .int .i64 ((g.1 : Nat) : Int))]) (fun g => fun w => Strm 25 w B sb (m + 2 * g.1)) (fun g => [(g1, 349, [.string ⟨#[115, 49]⟩, .string ⟨#[115, 50]⟩, .string ⟨#[115, 49]⟩, .string ⟨#[115, 51]⟩, .string ⟨#[115, 50]⟩, .string ⟨#[115, 49]⟩, .string ⟨#[115, 51]⟩, .string ⟨#[115, 50]⟩])]) (fun g => [⟨g.2.2.1, 352, 3, g.2.1, g.2.2.2.2⟩]) (fun g => []) (fun g => 4 - g.1) (0, 0, .slice none 0 0, [], []) ⟨Nat.zero_le _, Nat.zero_le _, rfl, (fun _ h => by cases h), rfl⟩ ⟨rfl, rfl, rfl, rfl, rfl, rfl, trivial⟩ (fun _ hm => (hm.more rfl (by first | omega | (dsimp only; omega))).pick [0] [0] [] rfl rfl) ?_
 rintro ⟨k, n, v, l, xs⟩ hinv
 replace hinv : k ≤ 4 ∧ n ≤ k ∧ l.length = n ∧ (∀ x ∈ l, FeOk x) ∧ xs = l.flatMap feEnc := hinv
 dsimp only
 refine sr_ ?_
 obtain ⟨hi0, hi1, hi2, hi3, rfl⟩ := hinv
 refine wl_ov (ov_lss rfl rfl) rfl (nn_ (gw_seq ?_))
 refine gw_cond rfl (fun hh => ?_) (fun hh => ?_)
 ·have hk : ((k : Nat) : Int) < 4 := by simpa using hh
  clear hh
  refine gw_skip (nx_then (gw_seq (gw_block (sr_ ?_))))
  obtain ⟨nm, hx⟩ : ∃ x, ([(⟨#[115, 49]⟩, ⟨#[115, 50]⟩), (⟨#[115, 49]⟩, ⟨#[115, 51]⟩), (⟨#[115, 50]⟩, ⟨#[115, 49]⟩), (⟨#[115, 51]⟩, ⟨#[115, 50]⟩)] : List (ByteArray × ByteArray))[k]? = some x := ⟨_, List.getElem?_eq_getElem (by simp; omega)⟩
  obtain ⟨na, nb⟩ := nm
  obtain ⟨hna, hnb⟩ := pr_sz (List.mem_of_getElem? hx)
  dsimp only at hna hnb
  refine wl_ov (ov_index (j := k) es350 rfl rfl (by omega)) rfl ?_
  refine wl_ov (ov_elem (vs := [.string na, .string nb]) rz349 rfl (fun _ hm => (SlT.ofBlk (l := [(⟨#[115, 49]⟩, ⟨#[115, 50]⟩), (⟨#[115, 49]⟩, ⟨#[115, 51]⟩), (⟨#[115, 50]⟩, ⟨#[115, 49]⟩), (⟨#[115, 51]⟩, ⟨#[115, 50]⟩)]) pr_len (hm.blkI 0 rfl))) hx rfl rfl) rfl ?_
  refine wl_alloc zc349 rfl fun g2 => ?_
  refine wl_stores (cs' := [.string na, .string nb]) 0 rz349 rfl rfl rfl rfl rfl rfl rfl rfl ?_
  refine nn_ (sr_ (mv_ rfl ?_))
  refine wl_got (γ := Bool) (val := fun v => .bool v) (φ := fun v => True) rfl cb64 rfl rfl rfl rfl (fun wx hm => ((flip_any _ wx B sb _ hm.k (by omega) (by omega) (by omega)).mono fun _ _ ⟨v, he, hS, hg⟩ => ⟨v, trivial, he, hS, hg⟩)) fun f3 _ => ?_
  refine wl_ov (ov_un_not rfl) rfl (nn_ ?_)
  refine gw_cond rfl (fun hh => ?_) (fun hh => ?_)
  ·have hf : f3 = false := by simpa using hh
   clear hh
   refine gd (fun wz => Blk wz g2 349 [.string na, .string nb] ∧ Blk wz g1 349 [.string ⟨#[115, 49]⟩, .string ⟨#[115, 50]⟩, .string ⟨#[115, 49]⟩, .string ⟨#[115, 51]⟩, .string ⟨#[115, 50]⟩, .string ⟨#[115, 49]⟩, .string ⟨#[115, 51]⟩, .string ⟨#[115, 50]⟩] ∧ True) mixed (fun _ hm => ⟨hm.bl 0, hm.bl 1, trivial⟩) fun z => ?_
   refine wt 0 12 1 rfl z (ov_move rfl) ?_
   refine wt 1 12 3 rfl z (ov_indexP (j := 0) ar349 rfl rfl (by decide) rfl) ?_
   refine wt 2 12 7 rfl z (ov_load sc9 rfl (fun _ hm => hm.1) rfl) ?_
   refine wt 3 12 15 rfl z (ov_indexP (j := 1) ar349 rfl rfl (by decide) rfl) ?_
   refine wt 4 12 31 rfl z (ov_load sc9 rfl (fun _ hm => hm.1) rfl) ?_
   refine wt 5 12 63 rfl z (ov_move rfl) ?_
   refine wa1 6 rfl ?_
   refine wl_buildSlice (e := 3) (cs := [.int .i64 0, .int .i64 40, .int .i64 700]) rfl (by kernel_rfl) rfl fun g4 => ?_
   refine wl_nil ?_
   refine nw 12 127 (fun _ hm => ⟨hm.bl 1, hm.bl 2, trivial⟩) fun z => ?_
   refine wa1 7 rfl ?_
   refine wl_got (γ := Int) (val := fun v => .int .i64 v) (φ := fun v => v ∈ ([0, 40, 700] : List Int)) rfl cb63 rfl rfl rfl rfl (fun wx hm => (pick_any [0, 40, 700] _ _ _ wx B sb _ hm.k (by omega) (by simp) (by simp) (hm.blkI 0 rfl) (hm.neRow 0 rfl rfl))) fun v5 hv5 => ?_
   have bv5 : 0 ≤ v5 ∧ v5 ≤ 700 := mem_rng hv5 (by decide)
   have bv50 := bv5.1
   have bv51 := bv5.2
   clear bv5
   refine wl_nil ?_
   refine nw 12 255 (fun _ hm => ⟨hm.bl 1, hm.bl 2, trivial⟩) fun z => ?_
   refine wt 8 12 511 rfl z (ov_build (cs := [.string na, .string nb, .int .i64 v5]) rfl (by kernel_rfl)) ?_
   refine wa1 9 rfl ?_
   refine wl_buildSlice (e := 352) (cs := [.string na, .string nb, .int .i64 v5]) rfl (by kernel_rfl) rfl fun g6 => ?_
   refine wl_nil ?_
   refine nw 12 1023 (fun _ hm => ⟨hm.bl 2, hm.bl 3, trivial⟩) fun z => ?_
   refine wa1 10 rfl ?_
   refine wl_append (news := [.string na, .string nb, .int .i64 v5]) 0 0 ap73 rfl rfl rfl rfl rfl rfl rfl (by omega) (by unfold maxLen; omega) rfl rfl fun v2 hv2 => ?_
   refine wl_nil ?_
   refine nw 12 2047 (fun _ hm => ⟨hm.bl 2, hm.bl 3, trivial⟩) fun z => ?_
   refine wt 11 12 4095 rfl z (ov_assign rfl) ?_
   refine wa_done (by kernel_rfl) ?_
   refine nx_blk_nrm (nx_then (gw_region (ad_ rfl rfl (mv_ rfl (wl_nil ?_)))))
   exact nx_round (k + 1, n + 1, v2, l ++ [⟨na, nb, v5⟩], l.flatMap feEnc ++ ([.string na, .string nb, .int .i64 v5] : List Value)) ⟨by dsimp only; omega, by dsimp only; omega, by simp [hi2], fe_snoc hi3 (show na.size ≤ 1000000 by omega) (show nb.size ≤ 1000000 by omega), by simp [feEnc]⟩ (by dsimp only; omega) ⟨rfl, rfl, rfl, rfl, rfl, (some_int (by omega)), trivial⟩ (fun _ hm => (hm.more rfl (by first | omega | (dsimp only; omega))).pick [3] [0] [] rfl rfl)
  have hf : f3 = true := by simpa using hh
  clear hh
  refine gw_skip (nx_blk_nrm (nx_then (gw_region (ad_ rfl rfl (mv_ rfl (wl_nil ?_))))))
  exact nx_round (k + 1, n, v, l, l.flatMap feEnc) ⟨by dsimp only; omega, by dsimp only; omega, hi2, hi3, rfl⟩ (by dsimp only; omega) ⟨rfl, rfl, rfl, rfl, rfl, (some_int (by omega)), trivial⟩ (fun _ hm => (hm.more rfl (by first | omega | (dsimp only; omega))).pick [1] [0] [] rfl rfl)
 have hk : ¬ (((k : Nat) : Int) < 4) := by simpa using hh
 clear hh
 refine gw_exit ?_
 refine nx_then_exit (nx_then_exit ?_)
 refine nx_blk_here ?_
 refine nx_then (gw_seq (sr_ (mv_ rfl ?_)))
 refine wl_got (γ := Bool) (val := fun v => .bool v) (φ := fun v => True) rfl cb64 rfl rfl rfl rfl (fun wx hm => ((flip_any _ wx B sb _ hm.k (by omega) (by omega) (by omega)).mono fun _ _ ⟨v, he, hS, hg⟩ => ⟨v, trivial, he, hS, hg⟩)) fun f7 _ => ?_
 refine nn_ ?_
 refine gw_cond rfl (fun hh => ?_) (fun hh => ?_)
 ·have hf : f7 = true := by simpa using hh
  clear hh
  refine gw_region (mv_ rfl (mv_ rfl ?_))
  refine wl_buildSlice (e := 9) (cs := [.string ⟨#[115, 51]⟩, .string ⟨#[65]⟩, .string ⟨#[115, 49]⟩]) rfl (by kernel_rfl) rfl fun g8 => ?_
  refine wl_got (γ := ByteArray) (val := fun v => .string v) (φ := fun v => v ∈ ([⟨#[115, 51]⟩, ⟨#[65]⟩, ⟨#[115, 49]⟩] : List ByteArray)) rfl cb62 rfl rfl rfl rfl (fun wx hm => (some_any [⟨#[115, 51]⟩, ⟨#[65]⟩, ⟨#[115, 49]⟩] _ _ _ wx B sb _ hm.k (by omega) (by simp) (by simp) (hm.blkI 0 rfl) (hm.neRow 0 rfl rfl))) fun s9 hs9 => ?_
  have zs9 : s9.size ≤ 100 := mem_sz hs9 (by decide)
  refine mv_ rfl ?_
  refine wl_buildSlice (e := 9) (cs := [.string ⟨#[115, 51]⟩, .string ⟨#[115, 57]⟩, .string ⟨#[]⟩]) rfl (by kernel_rfl) rfl fun g10 => ?_
  refine wl_got (γ := ByteArray) (val := fun v => .string v) (φ := fun v => v ∈ ([⟨#[115, 51]⟩, ⟨#[115, 57]⟩, ⟨#[]⟩] : List ByteArray)) rfl cb62 rfl rfl rfl rfl (fun wx hm => (some_any [⟨#[115, 51]⟩, ⟨#[115, 57]⟩, ⟨#[]⟩] _ _ _ wx B sb _ hm.k (by omega) (by simp) (by simp) (hm.blkI 0 rfl) (hm.neRow 0 rfl rfl))) fun s11 hs11 => ?_
  have zs11 : s11.size ≤ 100 := mem_sz hs11 (by decide)
  refine mv_ rfl ?_
  refine wl_got (γ := Int) (val := fun v => .int .i64 v) (φ := fun v => -2000000000000000 ≤ v ∧ v ≤ 2000000000000000) rfl cb65 rfl rfl rfl rfl (fun wx hm => (odd_any _ _ wx B sb _ hm.k (by omega) (by omega) (by omega) (by omega))) fun v12 hv12 => ?_
  refine wl_ov (ov_build (cs := [.string s9, .string s11, .int .i64 v12]) rfl (by kernel_rfl)) rfl ?_
  refine wl_buildSlice (e := 352) (cs := [.string s9, .string s11, .int .i64 v12]) rfl (by kernel_rfl) rfl fun g13 => ?_
  refine wl_append (news := [.string s9, .string s11, .int .i64 v12]) 0 0 ap73 rfl rfl rfl rfl rfl rfl rfl (by omega) (by unfold maxLen; omega) rfl rfl fun v2 hv2 => ?_
  refine wl_look (R := ∃ A cc, v2 = .slice A (n + 1) cc) (fun wx hm => own_slice (hm.ownI 0 rfl)) ?_
  rintro ⟨A, c, rfl⟩
  refine sg_ rfl (nn_ (sr_ (mv_ rfl (sg_ rfl (nn_ ?_)))))
  refine gw_ret ?_
  refine nx_ret1 rfl rfl fun wx hm => ?_
  exact ⟨A, n + 1, c, l ++ [⟨s9, s11, v12⟩], rfl, SlT.ofOwn (l := l ++ [⟨s9, s11, v12⟩]) fee_len (by have h := hm.ownI 0 rfl; simpa [feEnc] using h) (by simp [hi2]), fe_snoc hi3 (show s9.size ≤ 1000000 by omega) (show s11.size ≤ 1000000 by omega), by omega, own_cap (hm.ownI 0 rfl), hm.k.more (by omega), hm.g⟩
 have hf : f7 = false := by simpa using hh
 clear hh
 refine gw_skip (nx_then (sr_ ?_))
 refine wl_look (R := ∃ A cc, v = .slice A n cc) (fun wx hm => own_slice (hm.ownI 0 rfl)) ?_
 rintro ⟨A, c, rfl⟩
 refine mv_ rfl (sg_ rfl (nn_ ?_))
 refine gw_ret ?_
 refine nx_ret1 rfl rfl fun wx hm => ?_
 exact ⟨A, n, c, l, rfl, SlT.ofOwn fee_len (hm.ownI 0 rfl) hi2, hi3, by omega, own_cap (hm.ownI 0 rfl), hm.k.more (by omega), hm.g⟩
end Go.Proofs.YtdoooppeiphefaaGreatDoor
namespace Go.Proofs.YtdoooppeiphefaaGreatDoor
open Go.RowKit
/-- A tax as it lies in a list: its kinds lie elsewhere. -/
structure Tx where
  key : ByteArray
  mille : Int
  A : Option Addr
  n : Nat
  c : Nat
  on : List Int
  over : Bool
def txEnc (x : Tx) : List Value := [.string x.key, .int .i64 x.mille, .slice x.A x.n x.c, .bool x.over]
theorem tx_len (x : Tx) : (txEnc x).length = 4 := rfl
def TxOk (x : Tx) : Prop := x.key.size ≤ 1000000 ∧ x.n ≤ 1000
/-- The kinds of all taxes of the list. -/
def Ons (l : List Tx) (w : World) : Prop := ∀ x ∈ l, SlT itEnc 1 3 w x.A x.n x.on
def OnsOld (N : Nat) (row : Option Nat) (l : List Tx) (w : World) : Prop := ∀ x ∈ l, SlOld itEnc 1 3 N row x.A x.n x.on w
theorem OnsOld.lasts {N : Nat} {row : Option Nat} {Tt : List TypeId} {l : List Tx} : Lasts2 N row Tt (OnsOld N row l) := lasts_all fun _ _ => SlOld.lasts
theorem Ons.lasts {N : Nat} {row : Option Nat} {Tt : List TypeId} {l : List Tx} (hT : Tt.contains 3 = true) : Lasts2 N row Tt (Ons l) := lasts_all fun _ _ => SlT.lasts2 hT
theorem Ons.old {l : List Tx} {w : World} (h : Ons l w) : OnsOld w.heap.size none l w := fun x hx => (h x hx).old
theorem OnsOld.ons {N : Nat} {row : Option Nat} {l : List Tx} {w : World} (h : OnsOld N row l w) : Ons l w := fun x hx => (h x hx).1
def onB (p : Option Int) (k : Int) : Bool := match p with
  | none => false
  | some q => decide (k ≤ q)
def onE (p : Option Int) (k : Int) : Int := if decide (k = 5) || !inB k 1 6 then 4 else if onB p k then 7 else 0
def onsE (l : List Int) : Int := scanE onE none l
def taxP (k : ByteArray) (x : Tx) : Bool := x.key.toList == k.toList
def taxE (pre : List Tx) (x : Tx) : Int := if !keyB x.key then 5 else if pre.any (taxP x.key) then 6 else if !inB x.mille 0 1000 then 1 else onsE x.on
def taxG : List Tx → List Tx → Int
  | _, [] => 0
  | pre, x :: r => if taxE pre x = 0 then taxG (pre ++ [x]) r else taxE pre x
theorem taxG_at {l : List Tx} {i : Nat} {x : Tx} (h : l[i]? = some x) : taxG (l.take i) (l.drop i) = if taxE (l.take i) x = 0 then taxG (l.take (i + 1)) (l.drop (i + 1)) else taxE (l.take i) x := by
  obtain ⟨hi, rfl⟩ := List.getElem?_eq_some_iff.1 h
  rw [List.drop_eq_getElem_cons hi, List.take_add_one, List.getElem?_eq_getElem hi]
  rfl
theorem taxG_end {l : List Tx} {i : Nat} (h : l.length ≤ i) : taxG (l.take i) (l.drop i) = 0 := by rw [List.drop_eq_nil_of_le h]; rfl
def taxesE (l : List Tx) : Int := if 10 < l.length then 2 else taxG [] l
theorem taxG_ok : ∀ {r pre : List Tx}, taxG pre r = 0 → ∀ x ∈ r, ∃ p, taxE p x = 0
  | [], _, _, x, hx => by cases hx
  | y :: t, pre, h, x, hx => by
    unfold taxG at h
    by_cases h0 : taxE pre y = 0
    · rw [if_pos h0] at h
      rcases List.mem_cons.1 hx with rfl | hx
      · exact ⟨_, h0⟩
      · exact taxG_ok h x hx
    · rw [if_neg h0] at h; exact absurd h h0
theorem taxesE_mille {l : List Tx} (h : taxesE l = 0) : l.length ≤ 10 ∧ ∀ x ∈ l, 0 ≤ x.mille ∧ x.mille ≤ 1000 := by
  unfold taxesE at h
  split at h
  · cases h
  · refine ⟨by omega, fun x hx => ?_⟩
    obtain ⟨p, hp⟩ := taxG_ok h x hx
    unfold taxE at hp
    split at hp
    · cases hp
    · split at hp
      · cases hp
      · split at hp
        · cases hp
        · rename_i h3
          exact inB_iff.1 (by simpa using h3)
theorem predTax_c (key : ByteArray) (mi : Int) (At : Option Addr) (nt ct : Nat) (on : List Int) (ov : Bool) (gk : Nat) (k0 : ByteArray) (k1 : Int) (k2 : Option Addr) (k3 k4 : Nat) (k5 : Bool) (w : World) (hk : Blk w gk 298 [.string k0, .int .i64 k1, .slice k2 k3 k4, .bool k5]) :
  Calls Tryz.prog 215 #[.agg #[.string key, .int .i64 mi, .slice At nt ct, .bool ov], .pointer (some ⟨gk, 0, none⟩)] w (fun e w' => e = .returned (.bool (taxP k0 ⟨key, mi, At, nt, ct, on, ov⟩)) ∧ w.grownBy w' none) := by
 refine gw_enter ⟨9, w, none, []⟩ Tryz.func215 rfl Tryz.ntmps215 rfl (mem0 (X := [BlkOld w.heap.size none gk 298 [.string k0, .int .i64 k1, .slice k2 k3 k4, .bool k5]]) (allF_cons hk.old allF_nil) (allL_cons BlkOld.lasts allL_nil)) ?_
 refine sr_ ?_
 refine wl_box rfl rfl rfl fun g1 => ?_
 refine sg_ rfl (nn_ (sr_ (fd_ fo298_0 rfl rfl (lk_ sc9 0 rfl rfl rfl (fd_ fo298_0 rfl rfl ?_)))))
 refine wl_ov (ov_load (v := .string k0) sc9 rfl (fun _ hm => (hm.fact 0 rfl).2) rfl) rfl ?_
 refine wl_ov (ov_seql rfl rfl) rfl (sg_ rfl (nn_ ?_))
 refine gw_ret ?_
 refine nx_ret1 rfl rfl fun wx hm => ?_
 exact ⟨rfl, hm.g⟩
theorem indexTax_c (l : List Tx) (A : Option Addr) (n c0 : Nat) (gk : Nat) (k0 : ByteArray) (k1 : Int) (k2 : Option Addr) (k3 k4 : Nat) (k5 : Bool) (w : World) (hl : SlT txEnc 4 298 w A n l) (hn : n ≤ 1000000) (hk : Blk w gk 298 [.string k0, .int .i64 k1, .slice k2 k3 k4, .bool k5]) :
  Calls Tryz.prog 279 #[.slice A n c0, .func (.func 215) #[] #[.pointer (some ⟨gk, 0, none⟩)]] w (GotE w (ixP (taxP k0) l 0)) := by
 refine gw_enter ⟨19, w, none, []⟩ Tryz.func279 rfl Tryz.ntmps279 rfl (mem0 (X := [SlOld txEnc 4 298 w.heap.size none A n l, BlkOld w.heap.size none gk 298 [.string k0, .int .i64 k1, .slice k2 k3 k4, .bool k5]]) (allF_cons hl.old (allF_cons hk.old allF_nil)) (allL_cons SlOld.lasts (allL_cons BlkOld.lasts allL_nil))) ?_
 refine sr_ ?_
 have hlen := hl.len
 refine sg_ rfl (nn_ (gw_seq (sr_ (mv_ rfl (wl_ov (ov_len es75 rfl) rfl (mv_ rfl (nn_ (gw_block ?_))))))))
 refine gw_loop (γ := Nat) (fun (i : Nat) => i ≤ n ∧ ixP (taxP k0) l 0 = ixP (taxP k0) (l.drop i) i) (fun (i : Nat) => [(0, .slice A n c0), (1, .func (.func 215) #[] #[.pointer (some ⟨gk, 0, none⟩)]), (7, .int .i64 ((n : Nat) : Int)), (8, .int .i64 ((i : Nat) : Int))]) (fun (i : Nat) => fun _ => True) (fun (i : Nat) => []) (fun (i : Nat) => []) (fun (i : Nat) => [SlOld txEnc 4 298 w.heap.size none A n l, BlkOld w.heap.size none gk 298 [.string k0, .int .i64 k1, .slice k2 k3 k4, .bool k5]]) (fun (i : Nat) => n - i) 0 ⟨Nat.zero_le _, rfl⟩ ⟨rfl, rfl, rfl, rfl, trivial⟩ (fun _ hm => hm.pick [] [] [0, 1] rfl rfl) ?_
 intro i hinv
 replace hinv : i ≤ n ∧ ixP (taxP k0) l 0 = ixP (taxP k0) (l.drop i) i := hinv
 refine sr_ (wl_ov (ov_lss rfl rfl) rfl (nn_ (gw_seq ?_)))
 refine gw_cond rfl (fun hh => ?_) (fun hh => ?_)
 ·have hi : ((i : Nat) : Int) < ((n : Nat) : Int) := by simpa using hh
  clear hh
  refine gw_skip (nx_then (gw_seq (gw_block (sr_ ?_))))
  obtain ⟨b, off, hA, _, _⟩ := hl.get (by omega)
  subst hA
  obtain ⟨x, hx⟩ : ∃ x, l[i]? = some x := ⟨_, List.getElem?_eq_getElem (by omega)⟩
  obtain ⟨key, mi, At, nt, ct, on, ov⟩ := x
  have hat := ixP_at (p := taxP k0) hx
  refine mv_ rfl (sg_ rfl (nn_ (sr_ (mv_ rfl (mv_ rfl (mv_ rfl ?_))))))
  refine wl_ov (ov_index (j := i) es75 rfl rfl (by omega)) rfl ?_
  refine wl_ov (ov_elem (vs := [.string key, .int .i64 mi, .slice At nt ct, .bool ov]) rz298 rfl (fun _ hm => (hm.fact 0 rfl).1) hx rfl rfl) rfl ?_
  refine wl_callv rfl cb215 rfl rfl (fun wx hm => (predTax_c key mi At nt ct on ov gk k0 k1 k2 k3 k4 k5 wx (hm.fact 1 rfl).2)) ?_
  refine nn_ ?_
  refine gw_cond rfl (fun hh => ?_) (fun hh => ?_)
  ·have hq : (taxP k0 ⟨key, mi, At, nt, ct, on, ov⟩) = true := by simpa using hh
   clear hh
   refine sr_ (mv_ rfl (sg_ rfl (nn_ ?_)))
   refine gw_ret ?_
   refine nx_blk_ret (nx_then_ret (nx_then_ret (nx_blk_ret (nx_then_ret ?_))))
   refine nx_ret1 rfl rfl fun wx hm => ?_
   exact ⟨ret_int (by rw [hinv.2, hat, if_pos hq]), hm.g⟩
  have hq : (taxP k0 ⟨key, mi, At, nt, ct, on, ov⟩) = false := by simpa using hh
  clear hh
  refine gw_skip (nx_blk_nrm (nx_then (gw_region (ad_ rfl rfl (mv_ rfl (wl_nil ?_))))))
  exact nx_round (i + 1) ⟨by omega, by rw [hinv.2, hat, if_neg (by rw [hq]; decide)]⟩ (by omega) ⟨rfl, rfl, rfl, (some_int (by omega)), trivial⟩ (fun _ hm => hm.pick [] [] [0, 1] rfl rfl)
 have hi : ¬ (((i : Nat) : Int) < ((n : Nat) : Int)) := by simpa using hh
 clear hh
 refine gw_exit ?_
 refine nx_then_exit (nx_then_exit ?_)
 refine nx_blk_here ?_
 refine nx_then (sr_ (sg_ rfl ?_))
 refine wl_set 4 (v' := .int .i64 (-1)) rfl rfl ?_
 refine nn_ ?_
 refine gw_ret ?_
 refine nx_ret1 rfl rfl fun wx hm => ?_
 exact ⟨ret_int (by rw [hinv.2, List.drop_eq_nil_of_le (by omega)]; rfl), hm.g⟩
theorem hasTax_c (l : List Tx) (A : Option Addr) (n c0 : Nat) (gk : Nat) (k0 : ByteArray) (k1 : Int) (k2 : Option Addr) (k3 k4 : Nat) (k5 : Bool) (w : World) (hl : SlT txEnc 4 298 w A n l) (hn : n ≤ 1000000) (hk : Blk w gk 298 [.string k0, .int .i64 k1, .slice k2 k3 k4, .bool k5]) :
  Calls Tryz.prog 214 #[.slice A n c0, .func (.func 215) #[] #[.pointer (some ⟨gk, 0, none⟩)]] w (fun e w' => e = .returned (.bool (l.any (taxP k0))) ∧ w.grownBy w' none) := by
 refine gw_enter ⟨9, w, none, []⟩ Tryz.func214 rfl Tryz.ntmps214 rfl (mem0 (X := [SlOld txEnc 4 298 w.heap.size none A n l, BlkOld w.heap.size none gk 298 [.string k0, .int .i64 k1, .slice k2 k3 k4, .bool k5]]) (allF_cons hl.old (allF_cons hk.old allF_nil)) (allL_cons SlOld.lasts (allL_cons BlkOld.lasts allL_nil))) ?_
 refine sr_ (sg_ rfl (nn_ (sr_ (mv_ rfl (mv_ rfl ?_)))))
 refine wl_callv rfl cb279 rfl rfl (fun wx hm => (indexTax_c l A n c0 gk k0 k1 k2 k3 k4 k5 wx (hm.fact 0 rfl).1 hn (hm.fact 1 rfl).2)) ?_
 refine wl_ov (ov_geq rfl rfl) rfl ?_
 refine sg_ rfl (nn_ ?_)
 refine gw_ret ?_
 refine nx_ret1 rfl rfl fun wx hm => ?_
 exact ⟨by rw [← ix_any], hm.g⟩
theorem checkTaxes_any (l : List Tx) (A : Option Addr) (n c0 : Nat) (w : World) (hl : SlT txEnc 4 298 w A n l) (hg : Ons l w) (hok : ∀ x ∈ l, TxOk x) (hn : n ≤ 1000000) (hc : n ≤ c0) :
  Calls Tryz.prog 104 #[.slice A n c0] w (GotE w (taxesE l)) := by
 refine gw_enter ⟨64, w, none, []⟩ Tryz.func104 rfl Tryz.ntmps104 rfl (mem0 (X := [SlOld txEnc 4 298 w.heap.size none A n l, OnsOld w.heap.size none l]) (allF_cons hl.old (allF_cons hg.old allF_nil)) (allL_cons SlOld.lasts (allL_cons OnsOld.lasts allL_nil))) ?_
 refine sr_ ?_
 have hlen := hl.len
 refine sg_ rfl (nn_ (gw_seq (sr_ (mv_ rfl (wl_ov (ov_len es75 rfl) rfl ?_)))))
 refine wl_ov (ov_gtr rfl rfl) rfl ?_
 refine nn_ ?_
 refine gw_cond rfl (fun hh => ?_) (fun hh => ?_)
 ·have h1 : 10 < ((n : Nat) : Int) := by simpa using hh
  clear hh
  refine sr_ (sg_ rfl (nn_ ?_))
  refine gw_ret ?_
  refine nx_then_ret ?_
  refine nx_ret1 rfl rfl fun wx hm => ?_
  exact ⟨ret_int (by unfold taxesE; rw [if_pos (by omega)]), hm.g⟩
 have h1 : ¬ (10 < ((n : Nat) : Int)) := by simpa using hh
 clear hh
 refine gw_skip (nx_then (gw_seq (sr_ (mv_ rfl (wl_ov (ov_len es75 rfl) rfl (mv_ rfl (nn_ (gw_block ?_))))))))
 obtain ⟨TE, hTE⟩ : ∃ E, E = taxesE l := ⟨_, rfl⟩
 rw [← hTE]
 refine gw_loop (γ := Nat) (fun (k : Nat) => k ≤ n ∧ TE = taxG (l.take k) (l.drop k)) (fun (k : Nat) => [(0, .slice A n c0), (10, .slice A n c0), (11, .int .i64 ((n : Nat) : Int)), (12, .int .i64 ((k : Nat) : Int))]) (fun (k : Nat) => fun _ => True) (fun (k : Nat) => []) (fun (k : Nat) => []) (fun (k : Nat) => [SlOld txEnc 4 298 w.heap.size none A n l, OnsOld w.heap.size none l]) (fun (k : Nat) => n - k) 0 ⟨Nat.zero_le _, by rw [hTE]; unfold taxesE; rw [if_neg (by omega)]; rfl⟩ ⟨rfl, rfl, rfl, rfl, trivial⟩ (fun _ hm => hm.pick [] [] [0, 1] rfl rfl) ?_
 intro k hinv
 replace hinv : k ≤ n ∧ TE = taxG (l.take k) (l.drop k) := hinv
 refine sr_ (wl_ov (ov_lss rfl rfl) rfl (nn_ (gw_seq ?_)))
 refine gw_cond rfl (fun hh => ?_) (fun hh => ?_)
 ·have hk : ((k : Nat) : Int) < ((n : Nat) : Int) := by simpa using hh
  clear hh
  refine gw_skip (nx_then (gw_seq (gw_block (sr_ ?_))))
  obtain ⟨b, off, hA, _, _⟩ := hl.get (by omega)
  subst hA
  obtain ⟨x, hx⟩ : ∃ x, l[k]? = some x := ⟨_, List.getElem?_eq_getElem (by omega)⟩
  obtain ⟨key, mi, At, nt, ct, on, ov⟩ := x
  have hat := taxG_at hx
  obtain ⟨hk1, hnt⟩ := hok _ (List.mem_of_getElem? hx)
  have hk1 : key.size ≤ 1000000 := hk1
  have hnt : nt ≤ 1000 := hnt
  have hout := hinv
  refine mv_ rfl ?_
  refine wl_ov (ov_index (j := k) es75 rfl rfl (by omega)) rfl ?_
  refine wl_ov (ov_elem (vs := [.string key, .int .i64 mi, .slice At nt ct, .bool ov]) rz298 rfl (fun _ hm => (hm.fact 0 rfl).1) hx rfl rfl) rfl ?_
  refine wl_alloc zc298 rfl fun g1 => ?_
  refine sg_ rfl ?_
  refine wl_stores (cs' := [.string key, .int .i64 mi, .slice At nt ct, .bool ov]) 0 rz298 rfl rfl rfl rfl rfl rfl rfl rfl ?_
  refine nn_ (gw_seq (gw_block (sr_ (fd_ fo298_0 rfl rfl (lk_ sc9 0 rfl rfl rfl ?_)))))
  refine wl_callw rfl cb112 rfl rfl (fun wx hm => (isKey_any _ wx (by omega))) ?_
  refine wl_ov (ov_un_not rfl) rfl (sg_ rfl (nn_ ?_))
  refine gw_cond rfl (fun hh => ?_) (fun hh => ?_)
  ·have h2 : (keyB key) = false := by simpa using hh
   clear hh
   refine sr_ (sg_ rfl (nn_ ?_))
   refine gw_ret ?_
   refine nx_blk_ret (nx_then_ret (nx_blk_ret (nx_then_ret (nx_then_ret (nx_blk_ret (nx_then_ret ?_))))))
   have hE : taxE (l.take k) ⟨key, mi, At, nt, ct, on, ov⟩ = 5 := by unfold taxE; simp [h2]
   refine nx_ret1 rfl rfl fun wx hm => ?_
   exact ⟨ret_int (by rw [hout.2, hat, if_neg (by rw [hE]; decide), hE]), hm.g⟩
  have h2 : (keyB key) = true := by simpa using hh
  clear hh
  refine sr_ (mv_ rfl (mv_ rfl ?_))
  refine wl_ov (ov_sliceHi (hi := k) es75 rfl rfl rfl (by omega)) rfl ?_
  refine wl_ov (ov_makeFunc rfl rfl) rfl ?_
  refine wl_callv rfl cb214 rfl rfl (fun wx hm => (hasTax_c (l.take k) _ k c0 _ _ _ _ _ _ _ wx (SlT.takeT (hm.fact 0 rfl).1 (by omega)) (by omega) (hm.blkI 0 rfl))) ?_
  refine sg_ rfl (nn_ ?_)
  refine gw_cond rfl (fun hh => ?_) (fun hh => ?_)
  ·have h3 : ((l.take k).any (taxP key)) = true := by simpa using hh
   clear hh
   refine sr_ (sg_ rfl (nn_ ?_))
   refine gw_ret ?_
   refine nx_blk_ret (nx_then_ret (nx_blk_ret (nx_then_ret (nx_then_ret (nx_blk_ret (nx_then_ret ?_))))))
   have hE : taxE (l.take k) ⟨key, mi, At, nt, ct, on, ov⟩ = 6 := by unfold taxE; simp [h2, h3]
   refine nx_ret1 rfl rfl fun wx hm => ?_
   exact ⟨ret_int (by rw [hout.2, hat, if_neg (by rw [hE]; decide), hE]), hm.g⟩
  have h3 : ((l.take k).any (taxP key)) = false := by simpa using hh
  clear hh
  refine sr_ (fd_ fo298_1 rfl rfl (lk_ sc3 0 rfl rfl rfl ?_))
  refine wl_callw rfl cb169 rfl rfl (fun wx hm => (in_any _ _ _ wx)) ?_
  refine wl_ov (ov_un_not rfl) rfl (sg_ rfl (nn_ ?_))
  refine gw_cond rfl (fun hh => ?_) (fun hh => ?_)
  ·have h4 : (inB mi 0 1000) = false := by simpa using hh
   clear hh
   refine sr_ (sg_ rfl (nn_ ?_))
   refine gw_ret ?_
   refine nx_blk_ret (nx_then_ret (nx_blk_ret (nx_then_ret (nx_then_ret (nx_blk_ret (nx_then_ret ?_))))))
   have hE : taxE (l.take k) ⟨key, mi, At, nt, ct, on, ov⟩ = 1 := by unfold taxE; simp [h2, h3, h4]
   refine nx_ret1 rfl rfl fun wx hm => ?_
   exact ⟨ret_int (by rw [hout.2, hat, if_neg (by rw [hE]; decide), hE]), hm.g⟩
  have h4 : (inB mi 0 1000) = true := by simpa using hh
  clear hh
  refine gw_skip (nx_blk_nrm (nx_then (sr_ ?_)))
  have hEo : taxE (l.take k) ⟨key, mi, At, nt, ct, on, ov⟩ = onsE on := by unfold taxE; simp [h2, h3, h4]
  refine wl_also (Y := SlOld itEnc 1 3 w.heap.size none At nt on) (SlOld.lasts) (fun wx hm => (hm.fact 1 rfl) _ (List.mem_of_getElem? hx)) ?_
  refine wl_look (R := on.length = nt) (fun wx hm => ((hm.fact 0 rfl)).1.len) ?_
  intro hol
  refine fd_ fo298_2 rfl rfl (lk_ sc22 0 rfl rfl rfl (wl_ov (ov_len es22 rfl) rfl (mv_ rfl (nn_ (gw_block ?_)))))
  refine gw_loop (γ := Nat) (fun (q : Nat) => q ≤ nt ∧ onsE on = scanE onE (prevOf on q) (on.drop q)) (fun (q : Nat) => [(0, .slice (some ⟨b, off, none⟩) n c0), (4, .pointer (some ⟨g1, 0, none⟩)), (10, .slice (some ⟨b, off, none⟩) n c0), (11, .int .i64 ((n : Nat) : Int)), (12, .int .i64 ((k : Nat) : Int)), (34, .slice At nt ct), (35, .int .i64 ((nt : Nat) : Int)), (36, .int .i64 ((q : Nat) : Int))]) (fun (q : Nat) => fun _ => True) (fun (q : Nat) => [(g1, 298, [.string key, .int .i64 mi, .slice At nt ct, .bool ov])]) (fun (q : Nat) => []) (fun (q : Nat) => [SlOld itEnc 1 3 w.heap.size none At nt on, SlOld txEnc 4 298 w.heap.size none (some ⟨b, off, none⟩) n l, OnsOld w.heap.size none l]) (fun (q : Nat) => nt - q) 0 ⟨Nat.zero_le _, rfl⟩ ⟨rfl, rfl, rfl, rfl, rfl, rfl, rfl, rfl, trivial⟩ (fun _ hm => hm.pick [0] [] [0, 1, 2] rfl rfl) ?_
  intro q hinv
  replace hinv : q ≤ nt ∧ onsE on = scanE onE (prevOf on q) (on.drop q) := hinv
  refine sr_ ?_
  have hin := hinv
  refine wl_ov (ov_lss rfl rfl) rfl (nn_ (gw_seq ?_))
  refine gw_cond rfl (fun hh => ?_) (fun hh => ?_)
  ·have hq : ((q : Nat) : Int) < ((nt : Nat) : Int) := by simpa using hh
   clear hh
   refine gw_skip (nx_then (gw_seq (gw_block (sr_ ?_))))
   refine wl_look (R := SlT itEnc 1 3 w At nt on) (fun wx hm => hg _ (List.mem_of_getElem? hx)) ?_
   intro hso
   obtain ⟨b2, o2, hA, _, _⟩ := hso.get (by omega)
   subst hA
   obtain ⟨z0, hy⟩ : ∃ x, on[q]? = some x := ⟨_, List.getElem?_eq_getElem (by omega)⟩
   have han := scanE_at onE on q _ hy
   refine mv_ rfl ?_
   refine wl_ov (ov_index (j := q) es22 rfl rfl (by omega)) rfl ?_
   refine wl_ov (ov_elem1 (k := 0) (v := .int .i64 z0) sc3 rfl (fun _ hm => (hm.fact 0 rfl).1) hy rfl rfl) rfl ?_
   refine sg_ rfl (sg_ rfl (nn_ (gw_block (sr_ (mv_ rfl (wl_ov (ov_eql rfl rfl) rfl (mv_ rfl ?_)))))))
   rcases Bool.eq_false_or_eq_true (decide (z0 = 5)) with h5 | h5
   ·refine wl_set 44 rfl (congrArg Value.bool h5) ?_
    replace h5 : z0 = 5 := of_decide_eq_true h5
    refine goff rfl rfl rfl (goff rfl rfl rfl (goff rfl rfl rfl (pt_ rfl rfl (sg_ rfl (nn_ (ct_ rfl (sr_ (sg_ rfl (nn_ ?_)))))))))
    refine gw_ret ?_
    refine nx_blk_ret (nx_blk_ret (nx_then_ret (nx_then_ret (nx_blk_ret (nx_blk_ret (nx_then_ret (nx_then_ret (nx_blk_ret (nx_then_ret ?_)))))))))
    have hE : onE (prevOf on q) z0 = 4 := by unfold onE; simp [h5]
    have hE2 : onsE on = 4 := by rw [hin.2, han, if_neg (by rw [hE]; decide), hE]
    refine nx_ret1 rfl rfl fun wx hm => ?_
    exact ⟨ret_int (by rw [hout.2, hat, if_neg (by rw [hEo, hE2]; decide), hEo, hE2]), hm.g⟩
   refine wl_set 44 rfl (congrArg Value.bool h5) ?_
   replace h5 : ¬ z0 = 5 := of_decide_eq_false h5
   refine wl_guard_on rfl rfl rfl (mv_ rfl (wl_guard_on rfl rfl rfl ?_))
   refine wl_callw rfl cb169 rfl rfl (fun wx hm => (in_any _ _ _ wx)) ?_
   refine wl_guard_on rfl rfl rfl (wl_ov (ov_un_not rfl) rfl (pf_ rfl rfl (sg_ rfl (nn_ ?_))))
   refine gw_cond rfl (fun hh => ?_) (fun hh => ?_)
   ·have h6 : (inB z0 1 6) = false := by simpa using hh
    clear hh
    refine sr_ (sg_ rfl (nn_ ?_))
    refine gw_ret ?_
    refine nx_blk_ret (nx_blk_ret (nx_then_ret (nx_then_ret (nx_blk_ret (nx_blk_ret (nx_then_ret (nx_then_ret (nx_blk_ret (nx_then_ret ?_)))))))))
    have hE : onE (prevOf on q) z0 = 4 := by unfold onE; simp [h5, h6]
    have hE2 : onsE on = 4 := by rw [hin.2, han, if_neg (by rw [hE]; decide), hE]
    refine nx_ret1 rfl rfl fun wx hm => ?_
    exact ⟨ret_int (by rw [hout.2, hat, if_neg (by rw [hEo, hE2]; decide), hEo, hE2]), hm.g⟩
   have h6 : (inB z0 1 6) = true := by simpa using hh
   clear hh
   refine sr_ ?_
   by_cases hq0 : q = 0
   ·have hO : onB (prevOf on q) z0 = false := by rw [prevOf_zero hq0]; rfl
    refine mv_ rfl ?_
    refine wl_ov (ov_gtr rfl rfl) rfl ?_
    refine wl_set 51 (v' := .bool false) rfl (congrArg Value.bool (decide_eq_false (by omega))) ?_
    refine mv_ rfl (goff rfl rfl rfl (goff rfl rfl rfl (goff rfl rfl rfl (goff rfl rfl rfl (goff rfl rfl rfl (goff rfl rfl rfl (goff rfl rfl rfl (goff rfl rfl rfl (pf_ rfl rfl (sg_ rfl (nn_ (cf_ rfl ?_))))))))))))
    refine gw_skip (nx_blk_nrm (nx_blk_nrm (nx_then (gw_region (ad_ rfl rfl (mv_ rfl (wl_nil ?_)))))))
    have hE : onE (prevOf on q) z0 = 0 := by unfold onE; simp [h5, h6, hO]
    exact nx_round (q + 1) ⟨by omega, by rw [hin.2, han, if_pos hE]⟩ (by omega) ⟨rfl, rfl, rfl, rfl, rfl, rfl, rfl, (some_int (by omega)), trivial⟩ (fun _ hm => hm.pick [0] [] [0, 1, 2] rfl rfl)
   obtain ⟨z1, hz⟩ : ∃ x, on[q - 1]? = some x := ⟨_, List.getElem?_eq_getElem (by omega)⟩
   refine mv_ rfl ?_
   refine wl_ov (ov_gtr rfl rfl) rfl ?_
   refine wl_set 51 (v' := .bool true) rfl (congrArg Value.bool (decide_eq_true (by omega))) ?_
   refine mv_ rfl (wl_guard_on rfl rfl rfl (mv_ rfl (wl_guard_on rfl rfl rfl (fd_ fo298_2 rfl rfl (wl_guard_on rfl rfl rfl (lk_ sc22 0 rfl rfl rfl (wl_guard_on rfl rfl rfl (mv_ rfl (wl_guard_on rfl rfl rfl ?_)))))))))
   refine wl_ov (ov_sub rfl rfl (by omega) (by omega)) rfl ?_
   refine wl_set 57 (v' := .int .i64 ((q - 1 : Nat) : Int)) rfl (congrArg (Value.int .i64) (by omega)) ?_
   refine wl_guard_on rfl rfl rfl ?_
   refine wl_ov (ov_index (j := q - 1) es22 rfl rfl (by omega)) rfl ?_
   refine wl_guard_on rfl rfl rfl ?_
   refine wl_ov (ov_elem1 (k := 0) (v := .int .i64 z1) sc3 rfl (fun _ hm => (hm.fact 0 rfl).1) hz rfl rfl) rfl ?_
   refine wl_guard_on rfl rfl rfl (wl_ov (ov_leq rfl rfl) rfl (pt_ rfl rfl (sg_ rfl (nn_ ?_))))
   refine gw_cond rfl (fun hh => ?_) (fun hh => ?_)
   ·have h7 : z0 ≤ z1 := by simpa using hh
    clear hh
    refine sr_ ?_
    have hO : onB (prevOf on q) z0 = true := by rw [prevOf_pos hq0 hz]; exact decide_eq_true h7
    refine sg_ rfl (nn_ ?_)
    refine gw_ret ?_
    refine nx_blk_ret (nx_blk_ret (nx_then_ret (nx_then_ret (nx_blk_ret (nx_blk_ret (nx_then_ret (nx_then_ret (nx_blk_ret (nx_then_ret ?_)))))))))
    have hE : onE (prevOf on q) z0 = 7 := by unfold onE; simp [h5, h6, hO]
    have hE2 : onsE on = 7 := by rw [hin.2, han, if_neg (by rw [hE]; decide), hE]
    refine nx_ret1 rfl rfl fun wx hm => ?_
    exact ⟨ret_int (by rw [hout.2, hat, if_neg (by rw [hEo, hE2]; decide), hEo, hE2]), hm.g⟩
   have h7 : ¬ (z0 ≤ z1) := by simpa using hh
   clear hh
   refine gw_skip (nx_blk_nrm (nx_blk_nrm (nx_then (gw_region ?_))))
   have hO : onB (prevOf on q) z0 = false := by rw [prevOf_pos hq0 hz]; exact decide_eq_false h7
   refine ad_ rfl rfl (mv_ rfl (wl_nil ?_))
   have hE : onE (prevOf on q) z0 = 0 := by unfold onE; simp [h5, h6, hO]
   exact nx_round (q + 1) ⟨by omega, by rw [hin.2, han, if_pos hE]⟩ (by omega) ⟨rfl, rfl, rfl, rfl, rfl, rfl, rfl, (some_int (by omega)), trivial⟩ (fun _ hm => hm.pick [0] [] [0, 1, 2] rfl rfl)
  have hq : ¬ (((q : Nat) : Int) < ((nt : Nat) : Int)) := by simpa using hh
  clear hh
  refine gw_exit ?_
  refine nx_then_exit (nx_then_exit ?_)
  refine nx_blk_here ?_
  refine nx_blk_nrm (nx_then (gw_region (ad_ rfl rfl (mv_ rfl (wl_nil ?_)))))
  have hE : taxE (l.take k) ⟨key, mi, At, nt, ct, on, ov⟩ = 0 := by rw [hEo, hin.2, scanE_end _ _ _ _ (by omega)]
  exact nx_round (k + 1) ⟨by omega, by rw [hout.2, hat, if_pos hE]⟩ (by omega) ⟨rfl, rfl, rfl, (some_int (by omega)), trivial⟩ (fun _ hm => hm.pick [] [] [1, 2] rfl rfl)
 have hk : ¬ (((k : Nat) : Int) < ((n : Nat) : Int)) := by simpa using hh
 clear hh
 refine gw_exit ?_
 refine nx_then_exit (nx_then_exit ?_)
 refine nx_blk_here ?_
 refine nx_then (sr_ (sg_ rfl (nn_ ?_)))
 refine gw_ret ?_
 refine nx_ret1 rfl rfl fun wx hm => ?_
 exact ⟨ret_int (by rw [hinv.2, taxG_end (by omega)]), hm.g⟩
theorem predTax_r (key : ByteArray) (mi : Int) (At : Option Addr) (nt ct : Nat) (on : List Int) (ov : Bool) (gk : Nat) (k0 : ByteArray) (k1 : Int) (k2 : Option Addr) (k3 k4 : Nat) (k5 : Bool) (w : World) (hk : Blk w gk 298 [.string k0, .int .i64 k1, .slice k2 k3 k4, .bool k5]) :
  Calls Tryz.prog 274 #[.agg #[.string key, .int .i64 mi, .slice At nt ct, .bool ov], .pointer (some ⟨gk, 0, none⟩)] w (fun e w' => e = .returned (.bool (taxP k0 ⟨key, mi, At, nt, ct, on, ov⟩)) ∧ w.grownBy w' none) := by
 refine gw_enter ⟨9, w, none, []⟩ Tryz.func274 rfl Tryz.ntmps274 rfl (mem0 (X := [BlkOld w.heap.size none gk 298 [.string k0, .int .i64 k1, .slice k2 k3 k4, .bool k5]]) (allF_cons hk.old allF_nil) (allL_cons BlkOld.lasts allL_nil)) ?_
 refine sr_ ?_
 refine wl_box rfl rfl rfl fun g1 => ?_
 refine sg_ rfl (nn_ (sr_ (fd_ fo298_0 rfl rfl (lk_ sc9 0 rfl rfl rfl (fd_ fo298_0 rfl rfl ?_)))))
 refine wl_ov (ov_load (v := .string k0) sc9 rfl (fun _ hm => (hm.fact 0 rfl).2) rfl) rfl ?_
 refine wl_ov (ov_seql rfl rfl) rfl (sg_ rfl (nn_ ?_))
 refine gw_ret ?_
 refine nx_ret1 rfl rfl fun wx hm => ?_
 exact ⟨rfl, hm.g⟩
theorem indexTax_r (l : List Tx) (A : Option Addr) (n c0 : Nat) (gk : Nat) (k0 : ByteArray) (k1 : Int) (k2 : Option Addr) (k3 k4 : Nat) (k5 : Bool) (w : World) (hl : SlT txEnc 4 298 w A n l) (hn : n ≤ 1000000) (hk : Blk w gk 298 [.string k0, .int .i64 k1, .slice k2 k3 k4, .bool k5]) :
  Calls Tryz.prog 279 #[.slice A n c0, .func (.func 274) #[] #[.pointer (some ⟨gk, 0, none⟩)]] w (GotE w (ixP (taxP k0) l 0)) := by
 refine gw_enter ⟨19, w, none, []⟩ Tryz.func279 rfl Tryz.ntmps279 rfl (mem0 (X := [SlOld txEnc 4 298 w.heap.size none A n l, BlkOld w.heap.size none gk 298 [.string k0, .int .i64 k1, .slice k2 k3 k4, .bool k5]]) (allF_cons hl.old (allF_cons hk.old allF_nil)) (allL_cons SlOld.lasts (allL_cons BlkOld.lasts allL_nil))) ?_
 refine sr_ ?_
 have hlen := hl.len
 refine sg_ rfl (nn_ (gw_seq (sr_ (mv_ rfl (wl_ov (ov_len es75 rfl) rfl (mv_ rfl (nn_ (gw_block ?_))))))))
 refine gw_loop (γ := Nat) (fun (i : Nat) => i ≤ n ∧ ixP (taxP k0) l 0 = ixP (taxP k0) (l.drop i) i) (fun (i : Nat) => [(0, .slice A n c0), (1, .func (.func 274) #[] #[.pointer (some ⟨gk, 0, none⟩)]), (7, .int .i64 ((n : Nat) : Int)), (8, .int .i64 ((i : Nat) : Int))]) (fun (i : Nat) => fun _ => True) (fun (i : Nat) => []) (fun (i : Nat) => []) (fun (i : Nat) => [SlOld txEnc 4 298 w.heap.size none A n l, BlkOld w.heap.size none gk 298 [.string k0, .int .i64 k1, .slice k2 k3 k4, .bool k5]]) (fun (i : Nat) => n - i) 0 ⟨Nat.zero_le _, rfl⟩ ⟨rfl, rfl, rfl, rfl, trivial⟩ (fun _ hm => hm.pick [] [] [0, 1] rfl rfl) ?_
 intro i hinv
 replace hinv : i ≤ n ∧ ixP (taxP k0) l 0 = ixP (taxP k0) (l.drop i) i := hinv
 refine sr_ (wl_ov (ov_lss rfl rfl) rfl (nn_ (gw_seq ?_)))
 refine gw_cond rfl (fun hh => ?_) (fun hh => ?_)
 ·have hi : ((i : Nat) : Int) < ((n : Nat) : Int) := by simpa using hh
  clear hh
  refine gw_skip (nx_then (gw_seq (gw_block (sr_ ?_))))
  obtain ⟨b, off, hA, _, _⟩ := hl.get (by omega)
  subst hA
  obtain ⟨x, hx⟩ : ∃ x, l[i]? = some x := ⟨_, List.getElem?_eq_getElem (by omega)⟩
  obtain ⟨key, mi, At, nt, ct, on, ov⟩ := x
  have hat := ixP_at (p := taxP k0) hx
  refine mv_ rfl (sg_ rfl (nn_ (sr_ (mv_ rfl (mv_ rfl (mv_ rfl ?_))))))
  refine wl_ov (ov_index (j := i) es75 rfl rfl (by omega)) rfl ?_
  refine wl_ov (ov_elem (vs := [.string key, .int .i64 mi, .slice At nt ct, .bool ov]) rz298 rfl (fun _ hm => (hm.fact 0 rfl).1) hx rfl rfl) rfl ?_
  refine wl_callv rfl cb274 rfl rfl (fun wx hm => (predTax_r key mi At nt ct on ov gk k0 k1 k2 k3 k4 k5 wx (hm.fact 1 rfl).2)) ?_
  refine nn_ ?_
  refine gw_cond rfl (fun hh => ?_) (fun hh => ?_)
  ·have hq : (taxP k0 ⟨key, mi, At, nt, ct, on, ov⟩) = true := by simpa using hh
   clear hh
   refine sr_ (mv_ rfl (sg_ rfl (nn_ ?_)))
   refine gw_ret ?_
   refine nx_blk_ret (nx_then_ret (nx_then_ret (nx_blk_ret (nx_then_ret ?_))))
   refine nx_ret1 rfl rfl fun wx hm => ?_
   exact ⟨ret_int (by rw [hinv.2, hat, if_pos hq]), hm.g⟩
  have hq : (taxP k0 ⟨key, mi, At, nt, ct, on, ov⟩) = false := by simpa using hh
  clear hh
  refine gw_skip (nx_blk_nrm (nx_then (gw_region (ad_ rfl rfl (mv_ rfl (wl_nil ?_))))))
  exact nx_round (i + 1) ⟨by omega, by rw [hinv.2, hat, if_neg (by rw [hq]; decide)]⟩ (by omega) ⟨rfl, rfl, rfl, (some_int (by omega)), trivial⟩ (fun _ hm => hm.pick [] [] [0, 1] rfl rfl)
 have hi : ¬ (((i : Nat) : Int) < ((n : Nat) : Int)) := by simpa using hh
 clear hh
 refine gw_exit ?_
 refine nx_then_exit (nx_then_exit ?_)
 refine nx_blk_here ?_
 refine nx_then (sr_ (sg_ rfl ?_))
 refine wl_set 4 (v' := .int .i64 (-1)) rfl rfl ?_
 refine nn_ ?_
 refine gw_ret ?_
 refine nx_ret1 rfl rfl fun wx hm => ?_
 exact ⟨ret_int (by rw [hinv.2, List.drop_eq_nil_of_le (by omega)]; rfl), hm.g⟩
theorem hasTax_r (l : List Tx) (A : Option Addr) (n c0 : Nat) (gk : Nat) (k0 : ByteArray) (k1 : Int) (k2 : Option Addr) (k3 k4 : Nat) (k5 : Bool) (w : World) (hl : SlT txEnc 4 298 w A n l) (hn : n ≤ 1000000) (hk : Blk w gk 298 [.string k0, .int .i64 k1, .slice k2 k3 k4, .bool k5]) :
  Calls Tryz.prog 214 #[.slice A n c0, .func (.func 274) #[] #[.pointer (some ⟨gk, 0, none⟩)]] w (fun e w' => e = .returned (.bool (l.any (taxP k0))) ∧ w.grownBy w' none) := by
 refine gw_enter ⟨9, w, none, []⟩ Tryz.func214 rfl Tryz.ntmps214 rfl (mem0 (X := [SlOld txEnc 4 298 w.heap.size none A n l, BlkOld w.heap.size none gk 298 [.string k0, .int .i64 k1, .slice k2 k3 k4, .bool k5]]) (allF_cons hl.old (allF_cons hk.old allF_nil)) (allL_cons SlOld.lasts (allL_cons BlkOld.lasts allL_nil))) ?_
 refine sr_ (sg_ rfl (nn_ (sr_ (mv_ rfl (mv_ rfl ?_)))))
 refine wl_callv rfl cb279 rfl rfl (fun wx hm => (indexTax_r l A n c0 gk k0 k1 k2 k3 k4 k5 wx (hm.fact 0 rfl).1 hn (hm.fact 1 rfl).2)) ?_
 refine wl_ov (ov_geq rfl rfl) rfl ?_
 refine sg_ rfl (nn_ ?_)
 refine gw_ret ?_
 refine nx_ret1 rfl rfl fun wx hm => ?_
 exact ⟨by rw [← ix_any], hm.g⟩
theorem taxesFault_any (l : List Tx) (A : Option Addr) (n c0 : Nat) (w : World) (hl : SlT txEnc 4 298 w A n l) (hg : Ons l w) (hok : ∀ x ∈ l, TxOk x) (hn : n ≤ 1000000) (hc : n ≤ c0) :
  Calls Tryz.prog 203 #[.slice A n c0] w (GotE w (taxesE l)) := by
 refine gw_enter ⟨62, w, none, []⟩ Tryz.func203 rfl Tryz.ntmps203 rfl (mem0 (X := [SlOld txEnc 4 298 w.heap.size none A n l, OnsOld w.heap.size none l]) (allF_cons hl.old (allF_cons hg.old allF_nil)) (allL_cons SlOld.lasts (allL_cons OnsOld.lasts allL_nil))) ?_
 refine sr_ ?_
 have hlen := hl.len
 refine sg_ rfl (nn_ (gw_seq (sr_ (mv_ rfl (wl_ov (ov_len es75 rfl) rfl ?_)))))
 refine wl_ov (ov_gtr rfl rfl) rfl ?_
 refine nn_ ?_
 refine gw_cond rfl (fun hh => ?_) (fun hh => ?_)
 ·have h1 : 10 < ((n : Nat) : Int) := by simpa using hh
  clear hh
  refine sr_ (sg_ rfl (nn_ ?_))
  refine gw_ret ?_
  refine nx_then_ret ?_
  refine nx_ret1 rfl rfl fun wx hm => ?_
  exact ⟨ret_int (by unfold taxesE; rw [if_pos (by omega)]), hm.g⟩
 have h1 : ¬ (10 < ((n : Nat) : Int)) := by simpa using hh
 clear hh
 refine gw_skip (nx_then (gw_seq (sr_ (mv_ rfl (wl_ov (ov_len es75 rfl) rfl (mv_ rfl (nn_ (gw_block ?_))))))))
 obtain ⟨TE, hTE⟩ : ∃ E, E = taxesE l := ⟨_, rfl⟩
 rw [← hTE]
 refine gw_loop (γ := Nat) (fun (k : Nat) => k ≤ n ∧ TE = taxG (l.take k) (l.drop k)) (fun (k : Nat) => [(0, .slice A n c0), (10, .slice A n c0), (11, .int .i64 ((n : Nat) : Int)), (12, .int .i64 ((k : Nat) : Int))]) (fun (k : Nat) => fun _ => True) (fun (k : Nat) => []) (fun (k : Nat) => []) (fun (k : Nat) => [SlOld txEnc 4 298 w.heap.size none A n l, OnsOld w.heap.size none l]) (fun (k : Nat) => n - k) 0 ⟨Nat.zero_le _, by rw [hTE]; unfold taxesE; rw [if_neg (by omega)]; rfl⟩ ⟨rfl, rfl, rfl, rfl, trivial⟩ (fun _ hm => hm.pick [] [] [0, 1] rfl rfl) ?_
 intro k hinv
 replace hinv : k ≤ n ∧ TE = taxG (l.take k) (l.drop k) := hinv
 refine sr_ (wl_ov (ov_lss rfl rfl) rfl (nn_ (gw_seq ?_)))
 refine gw_cond rfl (fun hh => ?_) (fun hh => ?_)
 ·have hk : ((k : Nat) : Int) < ((n : Nat) : Int) := by simpa using hh
  clear hh
  refine gw_skip (nx_then (gw_seq (gw_block (sr_ ?_))))
  obtain ⟨b, off, hA, _, _⟩ := hl.get (by omega)
  subst hA
  obtain ⟨x, hx⟩ : ∃ x, l[k]? = some x := ⟨_, List.getElem?_eq_getElem (by omega)⟩
  obtain ⟨key, mi, At, nt, ct, on, ov⟩ := x
  have hat := taxG_at hx
  obtain ⟨hk1, hnt⟩ := hok _ (List.mem_of_getElem? hx)
  have hk1 : key.size ≤ 1000000 := hk1
  have hnt : nt ≤ 1000 := hnt
  have hout := hinv
  refine mv_ rfl ?_
  refine wl_ov (ov_index (j := k) es75 rfl rfl (by omega)) rfl ?_
  refine wl_ov (ov_elem (vs := [.string key, .int .i64 mi, .slice At nt ct, .bool ov]) rz298 rfl (fun _ hm => (hm.fact 0 rfl).1) hx rfl rfl) rfl ?_
  refine wl_alloc zc298 rfl fun g1 => ?_
  refine sg_ rfl ?_
  refine wl_stores (cs' := [.string key, .int .i64 mi, .slice At nt ct, .bool ov]) 0 rz298 rfl rfl rfl rfl rfl rfl rfl rfl ?_
  refine nn_ (gw_seq (gw_block (sr_ (fd_ fo298_0 rfl rfl (lk_ sc9 0 rfl rfl rfl ?_)))))
  refine wl_callv rfl cb153 rfl rfl (fun wx hm => (key_any _ wx (by omega))) ?_
  refine wl_ov (ov_un_not rfl) rfl (sg_ rfl (nn_ ?_))
  refine gw_cond rfl (fun hh => ?_) (fun hh => ?_)
  ·have h2 : (keyB key) = false := by simpa using hh
   clear hh
   refine sr_ (sg_ rfl (nn_ ?_))
   refine gw_ret ?_
   refine nx_blk_ret (nx_then_ret (nx_blk_ret (nx_then_ret (nx_then_ret (nx_blk_ret (nx_then_ret ?_))))))
   have hE : taxE (l.take k) ⟨key, mi, At, nt, ct, on, ov⟩ = 5 := by unfold taxE; simp [h2]
   refine nx_ret1 rfl rfl fun wx hm => ?_
   exact ⟨ret_int (by rw [hout.2, hat, if_neg (by rw [hE]; decide), hE]), hm.g⟩
  have h2 : (keyB key) = true := by simpa using hh
  clear hh
  refine sr_ (mv_ rfl (mv_ rfl ?_))
  refine wl_ov (ov_sliceHi (hi := k) es75 rfl rfl rfl (by omega)) rfl ?_
  refine wl_ov (ov_makeFunc rfl rfl) rfl ?_
  refine wl_callv rfl cb214 rfl rfl (fun wx hm => (hasTax_r (l.take k) _ k c0 _ _ _ _ _ _ _ wx (SlT.takeT (hm.fact 0 rfl).1 (by omega)) (by omega) (hm.blkI 0 rfl))) ?_
  refine sg_ rfl (nn_ ?_)
  refine gw_cond rfl (fun hh => ?_) (fun hh => ?_)
  ·have h3 : ((l.take k).any (taxP key)) = true := by simpa using hh
   clear hh
   refine sr_ (sg_ rfl (nn_ ?_))
   refine gw_ret ?_
   refine nx_blk_ret (nx_then_ret (nx_blk_ret (nx_then_ret (nx_then_ret (nx_blk_ret (nx_then_ret ?_))))))
   have hE : taxE (l.take k) ⟨key, mi, At, nt, ct, on, ov⟩ = 6 := by unfold taxE; simp [h2, h3]
   refine nx_ret1 rfl rfl fun wx hm => ?_
   exact ⟨ret_int (by rw [hout.2, hat, if_neg (by rw [hE]; decide), hE]), hm.g⟩
  have h3 : ((l.take k).any (taxP key)) = false := by simpa using hh
  clear hh
  refine sr_ (fd_ fo298_1 rfl rfl (lk_ sc3 0 rfl rfl rfl ?_))
  refine wl_callw rfl cb75 rfl rfl (fun wx hm => (rin_any _ _ _ wx)) ?_
  refine wl_ov (ov_un_not rfl) rfl (sg_ rfl (nn_ ?_))
  refine gw_cond rfl (fun hh => ?_) (fun hh => ?_)
  ·have h4 : (inB mi 0 1000) = false := by simpa using hh
   clear hh
   refine sr_ (sg_ rfl (nn_ ?_))
   refine gw_ret ?_
   refine nx_blk_ret (nx_then_ret (nx_blk_ret (nx_then_ret (nx_then_ret (nx_blk_ret (nx_then_ret ?_))))))
   have hE : taxE (l.take k) ⟨key, mi, At, nt, ct, on, ov⟩ = 1 := by unfold taxE; simp [h2, h3, h4]
   refine nx_ret1 rfl rfl fun wx hm => ?_
   exact ⟨ret_int (by rw [hout.2, hat, if_neg (by rw [hE]; decide), hE]), hm.g⟩
  have h4 : (inB mi 0 1000) = true := by simpa using hh
  clear hh
  refine gw_skip (nx_blk_nrm (nx_then (sr_ ?_)))
  have hEo : taxE (l.take k) ⟨key, mi, At, nt, ct, on, ov⟩ = onsE on := by unfold taxE; simp [h2, h3, h4]
  refine wl_also (Y := SlOld itEnc 1 3 w.heap.size none At nt on) (SlOld.lasts) (fun wx hm => (hm.fact 1 rfl) _ (List.mem_of_getElem? hx)) ?_
  refine wl_look (R := on.length = nt) (fun wx hm => ((hm.fact 0 rfl)).1.len) ?_
  intro hol
  refine fd_ fo298_2 rfl rfl (lk_ sc22 0 rfl rfl rfl (wl_ov (ov_len es22 rfl) rfl (mv_ rfl (nn_ (gw_block ?_)))))
  refine gw_loop (γ := Nat) (fun (q : Nat) => q ≤ nt ∧ onsE on = scanE onE (prevOf on q) (on.drop q)) (fun (q : Nat) => [(0, .slice (some ⟨b, off, none⟩) n c0), (4, .pointer (some ⟨g1, 0, none⟩)), (10, .slice (some ⟨b, off, none⟩) n c0), (11, .int .i64 ((n : Nat) : Int)), (12, .int .i64 ((k : Nat) : Int)), (34, .slice At nt ct), (35, .int .i64 ((nt : Nat) : Int)), (36, .int .i64 ((q : Nat) : Int))]) (fun (q : Nat) => fun _ => True) (fun (q : Nat) => [(g1, 298, [.string key, .int .i64 mi, .slice At nt ct, .bool ov])]) (fun (q : Nat) => []) (fun (q : Nat) => [SlOld itEnc 1 3 w.heap.size none At nt on, SlOld txEnc 4 298 w.heap.size none (some ⟨b, off, none⟩) n l, OnsOld w.heap.size none l]) (fun (q : Nat) => nt - q) 0 ⟨Nat.zero_le _, rfl⟩ ⟨rfl, rfl, rfl, rfl, rfl, rfl, rfl, rfl, trivial⟩ (fun _ hm => hm.pick [0] [] [0, 1, 2] rfl rfl) ?_
  intro q hinv
  replace hinv : q ≤ nt ∧ onsE on = scanE onE (prevOf on q) (on.drop q) := hinv
  refine sr_ ?_
  have hin := hinv
  refine wl_ov (ov_lss rfl rfl) rfl (nn_ (gw_seq ?_))
  refine gw_cond rfl (fun hh => ?_) (fun hh => ?_)
  ·have hq : ((q : Nat) : Int) < ((nt : Nat) : Int) := by simpa using hh
   clear hh
   refine gw_skip (nx_then (gw_seq (gw_block (sr_ ?_))))
   refine wl_look (R := SlT itEnc 1 3 w At nt on) (fun wx hm => hg _ (List.mem_of_getElem? hx)) ?_
   intro hso
   obtain ⟨b2, o2, hA, _, _⟩ := hso.get (by omega)
   subst hA
   obtain ⟨z0, hy⟩ : ∃ x, on[q]? = some x := ⟨_, List.getElem?_eq_getElem (by omega)⟩
   have han := scanE_at onE on q _ hy
   refine mv_ rfl ?_
   refine wl_ov (ov_index (j := q) es22 rfl rfl (by omega)) rfl ?_
   refine wl_ov (ov_elem1 (k := 0) (v := .int .i64 z0) sc3 rfl (fun _ hm => (hm.fact 0 rfl).1) hy rfl rfl) rfl ?_
   refine sg_ rfl (sg_ rfl (nn_ (gw_seq (sr_ (mv_ rfl ?_)))))
   refine wl_callw rfl cb75 rfl rfl (fun wx hm => (rin_any _ _ _ wx)) ?_
   refine wl_ov (ov_un_not rfl) rfl (mv_ rfl ?_)
   rcases Bool.eq_false_or_eq_true (!(inB z0 1 6)) with h5 | h5
   ·refine wl_set 44 rfl (congrArg Value.bool h5) ?_
    refine goff rfl rfl rfl (goff rfl rfl rfl (pt_ rfl rfl (nn_ (ct_ rfl (sr_ (sg_ rfl (nn_ ?_)))))))
    refine gw_ret ?_
    refine nx_then_ret (nx_blk_ret (nx_then_ret (nx_then_ret (nx_blk_ret (nx_blk_ret (nx_then_ret (nx_then_ret (nx_blk_ret (nx_then_ret ?_)))))))))
    have hE : onE (prevOf on q) z0 = 4 := by unfold onE; simp [h5]
    have hE2 : onsE on = 4 := by rw [hin.2, han, if_neg (by rw [hE]; decide), hE]
    refine nx_ret1 rfl rfl fun wx hm => ?_
    exact ⟨ret_int (by rw [hout.2, hat, if_neg (by rw [hEo, hE2]; decide), hEo, hE2]), hm.g⟩
   refine wl_set 44 rfl (congrArg Value.bool h5) ?_
   refine wl_guard_on rfl rfl rfl (mv_ rfl (wl_guard_on rfl rfl rfl (wl_ov (ov_eql rfl rfl) rfl (pf_ rfl rfl (nn_ ?_)))))
   refine gw_cond rfl (fun hh => ?_) (fun hh => ?_)
   ·have h6 : z0 = 5 := by simpa using hh
    clear hh
    refine sr_ (sg_ rfl (nn_ ?_))
    refine gw_ret ?_
    refine nx_then_ret (nx_blk_ret (nx_then_ret (nx_then_ret (nx_blk_ret (nx_blk_ret (nx_then_ret (nx_then_ret (nx_blk_ret (nx_then_ret ?_)))))))))
    have hE : onE (prevOf on q) z0 = 4 := by unfold onE; simp [h6]
    have hE2 : onsE on = 4 := by rw [hin.2, han, if_neg (by rw [hE]; decide), hE]
    refine nx_ret1 rfl rfl fun wx hm => ?_
    exact ⟨ret_int (by rw [hout.2, hat, if_neg (by rw [hEo, hE2]; decide), hEo, hE2]), hm.g⟩
   have h6 : ¬ (z0 = 5) := by simpa using hh
   clear hh
   refine gw_skip (nx_then (sr_ ?_))
   by_cases hq0 : q = 0
   ·have hO : onB (prevOf on q) z0 = false := by rw [prevOf_zero hq0]; rfl
    refine mv_ rfl ?_
    refine wl_ov (ov_gtr rfl rfl) rfl ?_
    refine wl_set 49 (v' := .bool false) rfl (congrArg Value.bool (decide_eq_false (by omega))) ?_
    refine mv_ rfl (goff rfl rfl rfl (goff rfl rfl rfl (goff rfl rfl rfl (goff rfl rfl rfl (goff rfl rfl rfl (goff rfl rfl rfl (goff rfl rfl rfl (goff rfl rfl rfl (pf_ rfl rfl (nn_ (cf_ rfl (gw_skip ?_))))))))))))
    refine nx_blk_nrm (nx_then (gw_region (ad_ rfl rfl (mv_ rfl (wl_nil ?_)))))
    have hE : onE (prevOf on q) z0 = 0 := by unfold onE; simp [h5, h6, hO]
    exact nx_round (q + 1) ⟨by omega, by rw [hin.2, han, if_pos hE]⟩ (by omega) ⟨rfl, rfl, rfl, rfl, rfl, rfl, rfl, (some_int (by omega)), trivial⟩ (fun _ hm => hm.pick [0] [] [0, 1, 2] rfl rfl)
   obtain ⟨z1, hz⟩ : ∃ x, on[q - 1]? = some x := ⟨_, List.getElem?_eq_getElem (by omega)⟩
   refine mv_ rfl ?_
   refine wl_ov (ov_gtr rfl rfl) rfl ?_
   refine wl_set 49 (v' := .bool true) rfl (congrArg Value.bool (decide_eq_true (by omega))) ?_
   refine mv_ rfl (wl_guard_on rfl rfl rfl (mv_ rfl (wl_guard_on rfl rfl rfl (fd_ fo298_2 rfl rfl (wl_guard_on rfl rfl rfl (lk_ sc22 0 rfl rfl rfl (wl_guard_on rfl rfl rfl (mv_ rfl (wl_guard_on rfl rfl rfl ?_)))))))))
   refine wl_ov (ov_sub rfl rfl (by omega) (by omega)) rfl ?_
   refine wl_set 55 (v' := .int .i64 ((q - 1 : Nat) : Int)) rfl (congrArg (Value.int .i64) (by omega)) ?_
   refine wl_guard_on rfl rfl rfl ?_
   refine wl_ov (ov_index (j := q - 1) es22 rfl rfl (by omega)) rfl ?_
   refine wl_guard_on rfl rfl rfl ?_
   refine wl_ov (ov_elem1 (k := 0) (v := .int .i64 z1) sc3 rfl (fun _ hm => (hm.fact 0 rfl).1) hz rfl rfl) rfl ?_
   refine wl_guard_on rfl rfl rfl (wl_ov (ov_leq rfl rfl) rfl (pt_ rfl rfl (nn_ ?_)))
   refine gw_cond rfl (fun hh => ?_) (fun hh => ?_)
   ·have h7 : z0 ≤ z1 := by simpa using hh
    clear hh
    refine sr_ ?_
    have hO : onB (prevOf on q) z0 = true := by rw [prevOf_pos hq0 hz]; exact decide_eq_true h7
    refine sg_ rfl (nn_ ?_)
    refine gw_ret ?_
    refine nx_blk_ret (nx_then_ret (nx_then_ret (nx_blk_ret (nx_blk_ret (nx_then_ret (nx_then_ret (nx_blk_ret (nx_then_ret ?_))))))))
    have hE : onE (prevOf on q) z0 = 7 := by unfold onE; simp [h5, h6, hO]
    have hE2 : onsE on = 7 := by rw [hin.2, han, if_neg (by rw [hE]; decide), hE]
    refine nx_ret1 rfl rfl fun wx hm => ?_
    exact ⟨ret_int (by rw [hout.2, hat, if_neg (by rw [hEo, hE2]; decide), hEo, hE2]), hm.g⟩
   have h7 : ¬ (z0 ≤ z1) := by simpa using hh
   clear hh
   refine gw_skip (nx_blk_nrm (nx_then (gw_region ?_)))
   have hO : onB (prevOf on q) z0 = false := by rw [prevOf_pos hq0 hz]; exact decide_eq_false h7
   refine ad_ rfl rfl (mv_ rfl (wl_nil ?_))
   have hE : onE (prevOf on q) z0 = 0 := by unfold onE; simp [h5, h6, hO]
   exact nx_round (q + 1) ⟨by omega, by rw [hin.2, han, if_pos hE]⟩ (by omega) ⟨rfl, rfl, rfl, rfl, rfl, rfl, rfl, (some_int (by omega)), trivial⟩ (fun _ hm => hm.pick [0] [] [0, 1, 2] rfl rfl)
  have hq : ¬ (((q : Nat) : Int) < ((nt : Nat) : Int)) := by simpa using hh
  clear hh
  refine gw_exit ?_
  refine nx_then_exit (nx_then_exit ?_)
  refine nx_blk_here ?_
  refine nx_blk_nrm (nx_then (gw_region (ad_ rfl rfl (mv_ rfl (wl_nil ?_)))))
  have hE : taxE (l.take k) ⟨key, mi, At, nt, ct, on, ov⟩ = 0 := by rw [hEo, hin.2, scanE_end _ _ _ _ (by omega)]
  exact nx_round (k + 1) ⟨by omega, by rw [hout.2, hat, if_pos hE]⟩ (by omega) ⟨rfl, rfl, rfl, (some_int (by omega)), trivial⟩ (fun _ hm => hm.pick [] [] [1, 2] rfl rfl)
 have hk : ¬ (((k : Nat) : Int) < ((n : Nat) : Int)) := by simpa using hh
 clear hh
 refine gw_exit ?_
 refine nx_then_exit (nx_then_exit ?_)
 refine nx_blk_here ?_
 refine nx_then (sr_ (sg_ rfl (nn_ ?_)))
 refine gw_ret ?_
 refine nx_ret1 rfl rfl fun wx hm => ?_
 exact ⟨ret_int (by rw [hinv.2, taxG_end (by omega)]), hm.g⟩
end Go.Proofs.YtdoooppeiphefaaGreatDoor
namespace Go.Proofs.YtdoooppeiphefaaGreatDoor
open Go.RowKit
theorem legs_at {fr : Int} {l : List Lg} {k : Nat} {g : Lg} (h : l[k]? = some g) :
    legsE fr l (l.length - k) = if legE fr (prevOf l k) (decide (k + 1 = l.length)) g = 0 then legsE fr l (l.length - (k + 1)) else legE fr (prevOf l k) (decide (k + 1 = l.length)) g := by
  have hk := (List.getElem?_eq_some_iff.1 h).1
  obtain ⟨m, hm⟩ : ∃ m, l.length - k = m + 1 := ⟨l.length - k - 1, by omega⟩
  have hm2 : l.length - (k + 1) = m := by omega
  have hm3 : l.length - (m + 1) = k := by omega
  rw [hm, hm2]
  simp only [legsE, hm3, h]
  have : decide (m = 0) = decide (k + 1 = l.length) := by
    by_cases h : k + 1 = l.length <;> simp [h] <;> omega
  rw [this]
def HrOk (key driver : ByteArray) (l : List Lg) : Prop := key.size ≤ 1000000 ∧ driver.size ≤ 1000000 ∧ ∀ g ∈ l, LgOk g
theorem hireE_stop {key driver : ByteArray} {fr to_ : Int} {l : List Lg} {e : Int} (h : e = firstE [whenE (!keyB key || !keyB driver) 5, timeE fr to_]) (hne : e ≠ 0) : hireE ⟨key, driver, fr, to_, l⟩ = e := by
  unfold hireE
  simp only [firstE] at h ⊢
  split
  · rename_i h1
    rw [if_pos h1] at h
    split
    · rename_i h2
      rw [if_pos h2] at h
      exact absurd h hne
    · rename_i h2
      rw [if_neg h2] at h
      exact h.symm
  · rename_i h1
    rw [if_neg h1] at h
    exact h.symm
theorem firstE_pad (X : Int) : firstE [0, 0, X] = X := by
  show firstE [X] = X
  by_cases h : X = 0
  · rw [h]; rfl
  · simp [firstE, h]
theorem hireE_pass {key driver : ByteArray} {fr to_ : Int} {l : List Lg} (h : 0 = firstE [whenE (!keyB key || !keyB driver) 5, timeE fr to_]) : hireE ⟨key, driver, fr, to_, l⟩ = if l.length = 0 then 3 else if 20 < l.length then 2 else legsE fr l l.length := by
  have := firstE_two h.symm
  unfold hireE
  simp only [this.1, this.2]
  exact firstE_pad _
set_option maxRecDepth 100000 in
set_option maxHeartbeats 4000000 in
theorem hcheck_any (key driver : ByteArray) (fr to_ : Int) (l : List Lg) (A : Option Addr) (n c : Nat) (w : World) (hl : SlT lgEnc 9 278 w A n l) (hok : HrOk key driver l) (hn : n ≤ 1000000) :
    Calls Tryz.prog 273 #[.agg #[.string key, .string driver, .int .i64 fr, .int .i64 to_, .slice A n c]] w (GotE w (hireE ⟨key, driver, fr, to_, l⟩)) := by
  obtain ⟨E1, hE1⟩ : ∃ E, E = firstE [whenE (!keyB key || !keyB driver) 5, timeE fr to_] := ⟨_, rfl⟩
  have Hstop := Lib.hid (fun (h : E1 ≠ 0) => hireE_stop (l := l) hE1 h)
  have Hpass := Lib.hid (fun (h : E1 = 0) => hireE_pass (l := l) (h.symm.trans hE1))
  have Hl := Lib.hid hl.len
  have cK : ∀ w, Calls Tryz.prog 112 #[.string key] w fun e w' => e = .returned (.bool (keyB key)) ∧ w' = w := fun w => flipw (isKey_any _ _ (by have := hok.1; omega))
  have cD : ∀ w, Calls Tryz.prog 112 #[.string driver] w fun e w' => e = .returned (.bool (keyB driver)) ∧ w' = w := fun w => flipw (isKey_any _ _ (by have := hok.2.1; omega))
  have Hok := Lib.hid hok.2.2
  generalize keyB key = K at cK hE1
  generalize keyB driver = D at cD hE1
  obtain ⟨R, hR⟩ : ∃ R, R = hireE ⟨key, driver, fr, to_, l⟩ := ⟨_, rfl⟩
  rw [← hR] at Hstop Hpass ⊢
  have CK := Lib.hid cK
  have CD := Lib.hid cD
  have HE1 := Lib.hid hE1
  clear cK cD hE1 hR hok
  obtain ⟨T, hT⟩ : ∃ T, T = timeE fr to_ := ⟨_, rfl⟩
  have cT : ∀ w, Calls Tryz.prog 114 #[.agg #[.int .i64 fr, .int .i64 to_]] w (GotE w T) := fun w => by rw [hT]; exact time_any _ _ _
  have CT := Lib.hid cT
  rw [← hT] at HE1
  clear cT hT
  go_enter Tryz.func273, Tryz.ntmps273
  go_wp2_with fail
  have hB : Blk (w.alloc (.cells #[.string key, .string driver, .int .i64 fr, .int .i64 to_, .slice A n c] 182)) w.heap.size 182 [.string key, .string driver, .int .i64 fr, .int .i64 to_, .slice A n c] := Blk.at_ w rfl _ _
  have k0 := hB.cell_of (i := 0) (v := .string key) rfl
  have k1 := hB.cell_of (i := 1) (v := .string driver) rfl
  have k2 := hB.cell_of (i := 2) (v := .int .i64 fr) rfl
  have k3 := hB.cell_of (i := 3) (v := .int .i64 to_) rfl
  go_upto_region 1 with fail
  go_cut [3] (fun v wx => v = .int .i64 E1 ∧ (w.alloc (.cells #[.string key, .string driver, .int .i64 fr, .int .i64 to_, .slice A n c] 182)).grownBy wx none)
  case first =>
    cases K
    · first | go_region_with (first
        | (go_at_call 114; refine (CT.out _).mono ?_; rintro e w4 ⟨rfl, hg4⟩)
        | (go_at_call 112; with_reducible refine (CK.out _).mono ?_; rintro e w3 ⟨rfl, rfl⟩)
        | (go_at_call 112; with_reducible refine (CD.out _).mono ?_; rintro e w3 ⟨rfl, rfl⟩)
        | (go_at_call 67; refine (when_any _ _ _).mono ?_; rintro e w5 ⟨rfl, rfl⟩)
        | (go_at_call 66; refine (first_any [whenE true 5, T] _ _ _ _ (Blk.at_ _ rfl _ _) (by simp)).mono ?_; rintro e w6 ⟨rfl, rfl⟩)) | fail
      all_goals
        go_wp2_with fail
        go_meet
        exact ⟨ret_val (by rw [HE1.out]; rfl), grow_alloc (grow_trans (grow_drew (World.grownBy.refl _ _)) hg4) _⟩
    · go_region_held3 (fun wx => wx.cell? ⟨w.heap.size, 0, none⟩ = some (.string key) ∧ wx.cell? ⟨w.heap.size, 1, none⟩ = some (.string driver) ∧ wx.cell? ⟨w.heap.size, 2, none⟩ = some (.int .i64 fr) ∧ wx.cell? ⟨w.heap.size, 3, none⟩ = some (.int .i64 to_))
        (first
          | exact ⟨k0, k1, k2, k3⟩
          | exact q4
          | exact q5 _)
        (first
          | (go_at_call 114; refine (CT.out _).mono ?_; rintro e w4 ⟨rfl, hg4⟩; have hb2 := (hB.drewN 1).grown hg4 (by simp); have q5 := fun o => And.intro ((hb2.alloc o).cell_of (i := 0) (v := .string key) rfl) (And.intro ((hb2.alloc o).cell_of (i := 1) (v := .string driver) rfl) (And.intro ((hb2.alloc o).cell_of (i := 2) (v := .int .i64 fr) rfl) ((hb2.alloc o).cell_of (i := 3) (v := .int .i64 to_) rfl))); have q4 := And.intro (hb2.cell_of (i := 0) (v := .string key) rfl) (And.intro (hb2.cell_of (i := 1) (v := .string driver) rfl) (And.intro (hb2.cell_of (i := 2) (v := .int .i64 fr) rfl) (hb2.cell_of (i := 3) (v := .int .i64 to_) rfl))))
          | (go_at_call 112; with_reducible refine (CK.out _).mono ?_; rintro e w3 ⟨rfl, rfl⟩)
          | (go_at_call 112; with_reducible refine (CD.out _).mono ?_; rintro e w3 ⟨rfl, rfl⟩)
          | (go_at_call 67; refine (when_any _ _ _).mono ?_; rintro e w5 ⟨rfl, rfl⟩)
          | (go_at_call 66; refine (first_any [whenE (!D) 5, T] _ _ _ _ (Blk.at_ _ rfl _ _) (by simp)).mono ?_; rintro e w6 ⟨rfl, rfl⟩))
      all_goals
        go_wp2_with fail
        go_meet
        exact ⟨ret_val (by rw [HE1.out]; rfl), grow_alloc (grow_trans (grow_drew (World.grownBy.refl _ _)) hg4) _⟩
  case rest =>
    obtain ⟨rfl, hg1⟩ := hcut
    obtain ⟨w1, hw1⟩ : ∃ w1 : World, w1 = wc := ⟨_, rfl⟩
    rw [← hw1] at hg1 ⊢
    clear hw1 k0 k1 k2 k3
    have hb := hB.grown hg1 (by simp)
    have hgw : w.grownBy w1 none := grow_trans (grow_alloc (World.grownBy.refl _ _) _) hg1
    clear hg1 hB
    by_cases h0 : E1 = 0
    · have HP := Lib.hid (Hpass.out h0)
      subst h0
      have k4 := hb.cell_of (i := 4) (v := .slice A n c) rfl
      by_cases hn0 : n = 0
      · have hq : ((n : Int) == 0) = true := by simpa using hn0
        have HF := Lib.hid (show R = 3 by rw [HP.out, if_pos (by rw [Hl.out]; exact hn0)])
        clear hn0
        go_wp2_with fail
        go_ret
        exact ⟨ret_int HF.out.symm, hgw⟩
      · have hq : ((n : Int) == 0) = false := by simpa using hn0
        by_cases h20 : 20 < n
        · have hq2 : decide ((20 : Int) < (n : Int)) = true := by simp; omega
          have hq3 : decide (20 < n) = true := by simpa using h20
          have HF := Lib.hid (show R = 2 by rw [HP.out, if_neg (by rw [Hl.out]; exact hn0), if_pos (by rw [Hl.out]; exact h20)])
          clear hn0
          go_wp2_with fail
          go_ret
          exact ⟨ret_int HF.out.symm, hgw⟩
        · have hq2 : decide ((20 : Int) < (n : Int)) = false := by simp; omega
          have hq3 : decide (20 < n) = false := by simpa using h20
          have HF := Lib.hid (show R = legsE fr l (l.length - 0) by rw [HP.out, if_neg (by rw [Hl.out]; exact hn0), if_neg (by rw [Hl.out]; exact h20)]; rfl)
          clear hn0 HP
          have hn20 : n ≤ 20 := by omega
          go_wp2_with fail
          go_loopw [38] (fun i wr => ∃ k : Nat, k ≤ n ∧ i = .int .i64 k ∧ R = legsE fr l (l.length - k) ∧ w1.grownBy wr none) (fun i _ => n - (intOf i).toNat)
          case atStart => exact ⟨0, Nat.zero_le _, rfl, HF.out, World.grownBy.refl _ _⟩
          case round =>
            obtain ⟨k, hk, rfl, hE, hgr⟩ := hrel
            have HE := Lib.hid hE; clear hE
            by_cases hlt : k < n
            · have hlr := hl.grow0 (grow_trans hgw hgr)
              obtain ⟨g, hg⟩ : ∃ g, l[k]? = some g := ⟨_, List.getElem?_eq_getElem (by have := Hl.out; omega)⟩
              have hat := legs_at (fr := fr) hg
              obtain ⟨E, hEE⟩ : ∃ E, E = legE fr (prevOf l k) (decide (k + 1 = n)) g := ⟨_, rfl⟩
              rw [Hl.out, ← hEE] at hat
              rw [Hl.out] at HE
              have Hat := Lib.hid hat; clear hat
              have HEE := Lib.hid hEE; clear hEE
              have hbr := hb.grown hgr (by simp)
              have c0 := hbr.cell_of (i := 0) (v := .string key) rfl
              have c1 := hbr.cell_of (i := 1) (v := .string driver) rfl
              have c2 := hbr.cell_of (i := 2) (v := .int .i64 fr) rfl
              have c3 := hbr.cell_of (i := 3) (v := .int .i64 to_) rfl
              have c4 := hbr.cell_of (i := 4) (v := .slice A n c) rfl
              have Hg := Lib.hid hg
              clear hg
              go_wp2_with fail
              refine (checkLeg_any key driver fr to_ l A n c k g wr hlr Hg.out Hok.out hn).mono ?_
              rintro e w2 ⟨rfl, hg2⟩
              rw [← HEE.out]
              by_cases hE0 : E = 0
              · have HN := Lib.hid (show R = legsE fr l (n - (k + 1)) by rw [HE.out, Hat.out, if_pos hE0])
                subst hE0
                go_wp2_with fail
                go_roundw
                case rel => exact ⟨k + 1, by omega, by go_num, by rw [HN.out, Hl.out], grow_trans hgr hg2⟩
                case measure => simp [intOf]; omega
              · have hne : (E != 0) = true := by simpa using hE0
                have HN := Lib.hid (show R = E by rw [HE.out, Hat.out, if_neg hE0])
                clear hE0
                go_wp2_with fail
                go_ret
                exact ⟨ret_int HN.out.symm, grow_trans hgw (grow_trans hgr hg2)⟩
            · have HN := Lib.hid (show R = 0 by rw [HE.out, Hl.out, show n - k = 0 by omega]; rfl)
              go_wp2_with fail
              go_ret
              exact ⟨ret_int HN.out.symm, grow_trans hgw hgr⟩
    · have hne : (E1 != 0) = true := by simpa using h0
      have HR := Lib.hid (Hstop.out h0)
      clear h0
      go_wp2_with fail
      go_ret
      exact ⟨ret_int HR.out.symm, hgw⟩
end Go.Proofs.YtdoooppeiphefaaGreatDoor
namespace Go.Proofs.YtdoooppeiphefaaGreatDoor
open Go.RowKit
/-- What hire.made gives: the hire if it is right, else nothing. -/
def madeV (key driver : ByteArray) (fr to_ : Int) (A : Option Addr) (n c : Nat) (e : Int) : Value :=
  if e = 0 then .agg #[.string key, .string driver, .int .i64 fr, .int .i64 to_, .slice A n c] else .agg #[.string ⟨#[]⟩, .string ⟨#[]⟩, .int .i64 0, .int .i64 0, .slice none 0 0]
def GotVE (w : World) (v : Value) (e : Int) (d : Ending) (w' : World) : Prop := d = .returned (.tuple #[v, .int .i64 e]) ∧ w.grownBy w' none
theorem info_hr : (Tryz.prog.info? 182).map (·.size) = some 5 := by kernel_rfl
/-- Two results: a struct in a known block, and a number. -/
theorem ret_blk_tmp {P : Program} {fn : Func} {R : Ending → World → Prop} {a : Act} {w : World} {p u : Tmp} {ty : TypeId} (h : fn.results = #[.cell p ty, .tmp u]) (g : Nat) (t : TypeId) (cs : List Value) (d : TypeDesc) (hb : Blk w g t cs)
    (hp : a.tmps.getD p undef = .pointer (some ⟨g, 0, none⟩)) (v : Value) (hv : a.tmps.getD u undef = v) (hu : P.underlying ty = some d) (hd : d.isRow = true) (n : Nat) (hi : (P.info? ty).map (·.size) = some n) (hn : cs.length = n) (hdf : a.defers = [])
    (hR : R (.returned (.tuple #[.agg cs.toArray, v])) w) : bodyPost P fn R .ret a w := by
  refine bodyPost_ret (?_ : (results fn a.tmps).run P w = .ok (.tuple #[.agg cs.toArray, v]) w) hdf hR
  have hl := run_loadVar_row (P := P) w g t ty cs.toArray (0, 0) d hb hu (by cases d <;> simp_all [TypeDesc.isRow]) (by simpa [hn] using hi)
  rw [results_cell_tmp h]
  simp only [hp, hv]
  simp only [asAddr, Sem.run_pure, Result.andThen_ok]
  rw [hl]
  rfl
set_option maxRecDepth 100000 in
set_option maxHeartbeats 1000000 in
theorem made_any (key driver : ByteArray) (fr to_ : Int) (l : List Lg) (A : Option Addr) (n c : Nat) (w : World) (hl : SlT lgEnc 9 278 w A n l) (hok : HrOk key driver l) (hn : n ≤ 1000000) :
    Calls Tryz.prog 193 #[.agg #[.string key, .string driver, .int .i64 fr, .int .i64 to_, .slice A n c]] w (GotVE w (madeV key driver fr to_ A n c (hireE ⟨key, driver, fr, to_, l⟩)) (hireE ⟨key, driver, fr, to_, l⟩)) := by
  obtain ⟨E, hE⟩ : ∃ E, E = hireE ⟨key, driver, fr, to_, l⟩ := ⟨_, rfl⟩
  rw [← hE]
  have HE := Lib.hid hE
  clear hE
  go_enter Tryz.func193, Tryz.ntmps193
  go_wp2_with fail
  refine (hcheck_any key driver fr to_ l A n c _ ((hl.alloc _).alloc _) hok hn).mono ?_
  rintro e w1 ⟨rfl, hg1⟩
  rw [← HE.out]
  have hb1 : Blk w1 (w.heap.size + 1) 182 [.string ⟨#[]⟩, .string ⟨#[]⟩, .int .i64 0, .int .i64 0, .slice none 0 0] := (Blk.at_ (w.alloc _) (by simp) _ _).grown hg1 (by simp)
  have hb0 : Blk w1 w.heap.size 182 [.string key, .string driver, .int .i64 fr, .int .i64 to_, .slice A n c] := ((Blk.at_ w rfl _ _).alloc _).grown hg1 (by simp)
  have hgw : w.grownBy w1 none := grow_trans (grow_alloc (grow_alloc (World.grownBy.refl _ _) _) _) hg1
  have hz : ∀ k, some (w.heap.size + 1) = some k → w.heap.size ≤ k := fun k h => by cases h; omega
  clear hg1
  by_cases h0 : E = 0
  · have HV := Lib.hid (show madeV key driver fr to_ A n c E = .agg #[.string key, .string driver, .int .i64 fr, .int .i64 to_, .slice A n c] by rw [h0]; rfl)
    subst h0
    go_wp2_with (first
      | (with_reducible refine wpList_load_all rfl 182 (.tmp 1) rfl w.heap.size _ _ _ hb0 rfl Tryz.underlying182 rfl 5 info_hr rfl ?_)
      | (with_reducible refine wpList_store_all rfl 182 (.tmp 2) (.tmp 11) rfl (w.heap.size + 1) _ _ [.string key, .string driver, .int .i64 fr, .int .i64 to_, .slice A n c] hb1 rfl rfl 5 info_hr rfl rfl (by simp [Value.oneCell']) ?_
         intro w2 hb2 hg2))
    refine ret_blk_tmp (p := 2) (u := 3) (ty := 182) rfl (w.heap.size + 1) _ _ _ hb2 rfl (.int .i64 0) rfl Tryz.underlying182 rfl 5 info_hr rfl rfl ?_
    exact ⟨by rw [HV.out], grow_own hgw hg2 hz⟩
  · have hne : (E != 0) = true := by simpa using h0
    have HV := Lib.hid (show madeV key driver fr to_ A n c E = .agg #[.string ⟨#[]⟩, .string ⟨#[]⟩, .int .i64 0, .int .i64 0, .slice none 0 0] by unfold madeV; rw [if_neg h0])
    clear h0
    go_wp2_with (first
      | (with_reducible refine wpList_store_all rfl 182 (.tmp 2) (.tmp 9) rfl (w.heap.size + 1) _ _ [.string ⟨#[]⟩, .string ⟨#[]⟩, .int .i64 0, .int .i64 0, .slice none 0 0] hb1 rfl rfl 5 info_hr rfl rfl (by simp [Value.oneCell']) ?_
         intro w2 hb2 hg2))
    refine ret_blk_tmp (p := 2) (u := 3) (ty := 182) rfl (w.heap.size + 1) _ _ _ hb2 rfl (.int .i64 E) rfl Tryz.underlying182 rfl 5 info_hr rfl rfl ?_
    exact ⟨by rw [HV.out], grow_own hgw hg2 hz⟩
def startLeg (veh : ByteArray) (r : Rd) : Lg := ⟨veh, r, ⟨-1, ⟨#[]⟩, 0, 0⟩⟩
set_option maxRecDepth 100000 in
set_option maxHeartbeats 1000000 in
theorem start_any (key driver : ByteArray) (fr to_ : Int) (veh : ByteArray) (r : Rd) (w : World) (hk : key.size ≤ 1000000) (hd : driver.size ≤ 1000000) (hv : veh.size ≤ 1000000) (hr : RdOk r) :
    Calls Tryz.prog 94 #[.string key, .string driver, .agg #[.int .i64 fr, .int .i64 to_], .string veh, .agg (rdCells r).toArray] w (fun e w' => ∃ A,
      e = .returned (.tuple #[madeV key driver fr to_ A 1 1 (hireE ⟨key, driver, fr, to_, [startLeg veh r]⟩), .int .i64 (hireE ⟨key, driver, fr, to_, [startLeg veh r]⟩)]) ∧ SlT lgEnc 9 278 w' A 1 [startLeg veh r] ∧ w.grownBy w' none) := by
  obtain ⟨a1, s1, m1, f1⟩ := r
  have hok : HrOk key driver [startLeg veh ⟨a1, s1, m1, f1⟩] := ⟨hk, hd, fun g hg => by
    simp only [List.mem_singleton] at hg
    subst hg
    exact ⟨hv, hr, (by decide : (⟨#[]⟩ : ByteArray).size ≤ 1000000)⟩⟩
  show Calls Tryz.prog 94 #[.string key, .string driver, .agg #[.int .i64 fr, .int .i64 to_], .string veh, .agg #[.int .i64 a1, .string s1, .int .i64 m1, .int .i64 f1]] w _
  have Hok := Lib.hid hok
  clear hok
  obtain ⟨E, hE⟩ : ∃ E, E = hireE ⟨key, driver, fr, to_, [startLeg veh ⟨a1, s1, m1, f1⟩]⟩ := ⟨_, rfl⟩
  rw [← hE]
  have HE := Lib.hid hE
  clear hE
  go_enter Tryz.func94, Tryz.ntmps94
  go_wp2_with fail
  refine (made_any key driver fr to_ [startLeg veh ⟨a1, s1, m1, f1⟩] (some ⟨w.heap.size + 3, 0, none⟩) 1 1 _ (SlT.ofBlk (l := [startLeg veh ⟨a1, s1, m1, f1⟩]) lg_len (Blk.at_ _ (by simp) _ _)) Hok.out (by omega)).mono ?_
  rintro e w1 ⟨rfl, hg1⟩
  rw [← HE.out]
  clear HE Hok
  have hb1 : Blk w1 (w.heap.size + 2) 182 [.string ⟨#[]⟩, .string ⟨#[]⟩, .int .i64 0, .int .i64 0, .slice none 0 0] := ((Blk.at_ ((w.alloc _).alloc _) (by simp) _ _).alloc _).grown hg1 (by simp)
  have hl1 : SlT lgEnc 9 278 w1 (some ⟨w.heap.size + 3, 0, none⟩) 1 [startLeg veh ⟨a1, s1, m1, f1⟩] := (SlT.ofBlk (l := [startLeg veh ⟨a1, s1, m1, f1⟩]) lg_len (Blk.at_ (((w.alloc _).alloc _).alloc _) (by simp) _ _)).grow0 hg1
  have hgw : w.grownBy w1 none := grow_trans (grow_alloc (grow_alloc (grow_alloc (grow_alloc (World.grownBy.refl _ _) _) _) _) _) hg1
  have hz : ∀ k, some (w.heap.size + 2) = some k → w.heap.size ≤ k := fun k h => by cases h; omega
  clear hg1
  by_cases h0 : E = 0
  · have hV : madeV key driver fr to_ (some ⟨w.heap.size + 3, 0, none⟩) 1 1 E = .agg #[.string key, .string driver, .int .i64 fr, .int .i64 to_, .slice (some ⟨w.heap.size + 3, 0, none⟩) 1 1] := by rw [h0]; rfl
    rw [hV]
    have HV := Lib.hid hV
    clear h0 hV
    go_wp2_with (first
      | (with_reducible refine wpList_store_all rfl 182 (.tmp 10) (.tmp 22) rfl (w.heap.size + 2) _ _ [.string key, .string driver, .int .i64 fr, .int .i64 to_, .slice (some ⟨w.heap.size + 3, 0, none⟩) 1 1] hb1 rfl rfl 5 info_hr rfl rfl (by simp [Value.oneCell']) ?_
         intro w2 hb2 hg2))
    refine ret_blk_tmp (p := 10) (u := 11) (ty := 182) rfl (w.heap.size + 2) _ _ _ hb2 rfl (.int .i64 E) rfl Tryz.underlying182 rfl 5 info_hr rfl rfl ?_
    exact ⟨some ⟨w.heap.size + 3, 0, none⟩, by rw [HV.out], hl1.grown hg2 hb1 (by decide), grow_own hgw hg2 hz⟩
  · have hV : madeV key driver fr to_ (some ⟨w.heap.size + 3, 0, none⟩) 1 1 E = .agg #[.string ⟨#[]⟩, .string ⟨#[]⟩, .int .i64 0, .int .i64 0, .slice none 0 0] := by unfold madeV; rw [if_neg h0]
    rw [hV]
    have HV := Lib.hid hV
    clear h0 hV
    go_wp2_with (first
      | (with_reducible refine wpList_store_all rfl 182 (.tmp 10) (.tmp 22) rfl (w.heap.size + 2) _ _ [.string ⟨#[]⟩, .string ⟨#[]⟩, .int .i64 0, .int .i64 0, .slice none 0 0] hb1 rfl rfl 5 info_hr rfl rfl (by simp [Value.oneCell']) ?_
         intro w2 hb2 hg2))
    refine ret_blk_tmp (p := 10) (u := 11) (ty := 182) rfl (w.heap.size + 2) _ _ _ hb2 rfl (.int .i64 E) rfl Tryz.underlying182 rfl 5 info_hr rfl rfl ?_
    exact ⟨some ⟨w.heap.size + 3, 0, none⟩, by rw [HV.out], hl1.grown hg2 hb1 (by decide), grow_own hgw hg2 hz⟩
end Go.Proofs.YtdoooppeiphefaaGreatDoor
namespace Go.Proofs.YtdoooppeiphefaaGreatDoor
open Go.RowKit
def sumBy {α : Type} (f : α → Int) : List α → Int
  | [] => 0
  | x :: r => f x + sumBy f r
theorem sumBy_append {α : Type} (f : α → Int) : ∀ a b : List α, sumBy f (a ++ b) = sumBy f a + sumBy f b
  | [], b => by simp [sumBy]
  | x :: r, b => by rw [List.cons_append]; simp only [sumBy]; rw [sumBy_append f r b]; omega
theorem sumBy_take {α : Type} (f : α → Int) {l : List α} {k : Nat} {x : α} (h : l[k]? = some x) : sumBy f (l.take (k + 1)) = sumBy f (l.take k) + f x := by
  rw [List.take_add_one, h, sumBy_append]
  simp [sumBy]
theorem sumBy_bound {α : Type} {f : α → Int} {a b : Int} : ∀ {l : List α}, (∀ x ∈ l, a ≤ f x ∧ f x ≤ b) → a * l.length ≤ sumBy f l ∧ sumBy f l ≤ b * l.length
  | [], _ => by simp [sumBy]
  | x :: r, h => by
    have h1 := h x (List.mem_cons_self ..)
    have h2 := sumBy_bound (l := r) (fun y hy => h y (List.mem_cons_of_mem _ hy))
    simp only [sumBy, List.length_cons]
    have e1 : a * ((r.length + 1 : Nat) : Int) = a * (r.length : Int) + a := by rw [Int.natCast_add, Int.mul_add]; simp
    have e2 : b * ((r.length + 1 : Nat) : Int) = b * (r.length : Int) + b := by rw [Int.natCast_add, Int.mul_add]; simp
    omega
end Go.Proofs.YtdoooppeiphefaaGreatDoor
namespace Go.Proofs.YtdoooppeiphefaaGreatDoor
open Go.RowKit
structure Ln where
  kind : Int
  key : ByteArray
  cents : Int
def lnEnc (x : Ln) : List Value := [.int .i64 x.kind, .string x.key, .int .i64 x.cents]
theorem ln_len (x : Ln) : (lnEnc x).length = 3 := rfl
def LnOk (x : Ln) : Prop := x.key.size ≤ 1000000
def lineE (_ : Option Ln) (x : Ln) : Int := if !inB x.kind 1 6 then 4 else if !keyB x.key then 5 else if !inB x.cents (-1000000000) 1000000000 then 1 else 0
def linesE (l : List Ln) : Int := if 1000 < l.length then 2 else scanE lineE none l
theorem info_ln : (Tryz.prog.info? 88).map (·.size) = some 3 := by kernel_rfl
set_option maxRecDepth 100000 in
set_option maxHeartbeats 1000000 in
theorem checkLines_any (l : List Ln) (A : Option Addr) (n c : Nat) (w : World) (hl : SlT lnEnc 3 88 w A n l) (hok : ∀ x ∈ l, LnOk x) (hn : n ≤ 1000000) :
    Calls Tryz.prog 105 #[.slice A n c] w (GotE w (linesE l)) := by
  have hlen := hl.len
  by_cases h1000 : 1000 < n
  · have Hsp := Lib.hid (show linesE l = 2 by unfold linesE; rw [if_pos (by omega)])
    have hq : decide (1000 < n) = true := by simpa using h1000
    go_enter Tryz.func105, Tryz.ntmps105
    go_wp2_with fail
    go_ret
    exact ⟨ret_int Hsp.out.symm, World.grownBy.refl _ _⟩
  · have Hsp := Lib.hid (show linesE l = scanE lineE (prevOf l 0) (l.drop 0) by unfold linesE; rw [if_neg (by omega)]; rfl)
    have hd : decide ((1000 : Int) < (n : Int)) = false := by simp; omega
    have hq : decide (1000 < n) = false := by simp; omega
    obtain ⟨R, hR⟩ : ∃ R, R = linesE l := ⟨_, rfl⟩
    rw [← hR] at Hsp ⊢
    have Hok := Lib.hid hok
    clear hR hok
    go_enter Tryz.func105, Tryz.ntmps105
    go_wp2_with fail
    go_loopw [10] (fun i wr => ∃ k : Nat, k ≤ n ∧ i = .int .i64 k ∧ R = scanE lineE (prevOf l k) (l.drop k) ∧ w.grownBy wr none) (fun i _ => n - (intOf i).toNat)
    case atStart => exact ⟨0, Nat.zero_le _, rfl, Hsp.out, World.grownBy.refl _ _⟩
    case round =>
      obtain ⟨k, hk, rfl, hE, hgr⟩ := hrel
      have HE := Lib.hid hE; clear hE
      by_cases hlt : k < n
      · have hlr := hl.grow0 hgr
        obtain ⟨b, off, rfl, hbl, hrg⟩ := hlr.get (by omega)
        obtain ⟨x, hx⟩ : ∃ x, l[k]? = some x := ⟨_, List.getElem?_eq_getElem (by omega)⟩
        have hxo := Hok.out x (List.mem_of_getElem? hx)
        have hr0 := hrg k x hx
        have Hat := Lib.hid (scanE_at lineE l k x hx)
        obtain ⟨kind, key, cents⟩ := x
        have hr1 : wr.rangeAt b (off + k * 3) [.int .i64 kind, .string key, .int .i64 cents] := hr0
        have hks : key.size ≤ 1000000 := hxo
        obtain ⟨I, hI⟩ : ∃ I, inB kind 1 6 = I := ⟨_, rfl⟩
        obtain ⟨K, hK⟩ : ∃ K, keyB key = K := ⟨_, rfl⟩
        obtain ⟨J, hJ⟩ : ∃ J, inB cents (-1000000000) 1000000000 = J := ⟨_, rfl⟩
        have HL := Lib.hid (show lineE (prevOf l k) ⟨kind, key, cents⟩ = if !I then 4 else if !K then 5 else if !J then 1 else 0 by unfold lineE; rw [hI, hK, hJ])
        have CI := Lib.hid (fun w => (by rw [← hI]; exact flipw (in_any _ _ _ _) : Calls Tryz.prog 169 #[.int .i64 kind, .int .i64 1, .int .i64 6] w fun e w' => e = .returned (.bool I) ∧ w' = w))
        have CK := Lib.hid (fun w => (by rw [← hK]; exact flipw (isKey_any _ _ (by omega)) : Calls Tryz.prog 112 #[.string key] w fun e w' => e = .returned (.bool K) ∧ w' = w))
        have CJ := Lib.hid (fun w => (by rw [← hJ]; exact flipw (in_any _ _ _ _) : Calls Tryz.prog 169 #[.int .i64 cents, .int .i64 (-1000000000), .int .i64 1000000000] w fun e w' => e = .returned (.bool J) ∧ w' = w))
        clear hr0 hrg hx hxo hI hK hJ hks
        go_wp2_with (with_reducible refine wpList_load_rng rfl 88 (.tmp 12) rfl b (off + k * 3) rfl _ _ hr1 Tryz.underlying88 rfl 3 info_ln rfl ?_)
        refine (CI.out _).mono ?_
        rintro e w1 ⟨rfl, rfl⟩
        cases I
        · have HF := Lib.hid (show lineE (prevOf l k) ⟨kind, key, cents⟩ = 4 from HL.out)
          go_wp2_with fail
          go_ret
          exact ⟨ret_int (by rw [HE.out, Hat.out, if_neg (by rw [HF.out]; decide), HF.out]), grow_alloc hgr _⟩
        · go_wp2_with fail
          refine (CK.out _).mono ?_
          rintro e w1 ⟨rfl, rfl⟩
          cases K
          · have HF := Lib.hid (show lineE (prevOf l k) ⟨kind, key, cents⟩ = 5 from HL.out)
            go_wp2_with fail
            go_ret
            exact ⟨ret_int (by rw [HE.out, Hat.out, if_neg (by rw [HF.out]; decide), HF.out]), grow_alloc hgr _⟩
          · go_wp2_with fail
            refine (CJ.out _).mono ?_
            rintro e w1 ⟨rfl, rfl⟩
            cases J
            · have HF := Lib.hid (show lineE (prevOf l k) ⟨kind, key, cents⟩ = 1 from HL.out)
              go_wp2_with fail
              go_ret
              exact ⟨ret_int (by rw [HE.out, Hat.out, if_neg (by rw [HF.out]; decide), HF.out]), grow_alloc hgr _⟩
            · have HF := Lib.hid (show lineE (prevOf l k) ⟨kind, key, cents⟩ = 0 from HL.out)
              go_wp2_with fail
              go_roundw
              case rel => exact ⟨k + 1, by omega, by go_num, by rw [HE.out, Hat.out, if_pos HF.out], grow_alloc hgr _⟩
              case measure => simp [intOf]; omega
      · go_wp2_with fail
        go_ret
        exact ⟨ret_int (by rw [HE.out, scanE_end _ _ _ _ (by omega)]), hgr⟩
def centsOf (x : Ln) : Int := x.cents
set_option maxRecDepth 100000 in
set_option maxHeartbeats 1000000 in
theorem sum_any (l : List Ln) (A : Option Addr) (n c : Nat) (w : World) (hl : SlT lnEnc 3 88 w A n l) (hb : ∀ x ∈ l, -1000000000000 ≤ x.cents ∧ x.cents ≤ 1000000000000) (hn : n ≤ 1000000) :
    Calls Tryz.prog 115 #[.slice A n c] w (GotE w (sumBy centsOf l)) := by
  have hlen := hl.len
  have Hb := Lib.hid hb
  clear hb
  go_enter Tryz.func115, Tryz.ntmps115
  go_wp2_with fail
  go_loopw [3, 8] (fun s i wr => ∃ k : Nat, k ≤ n ∧ i = .int .i64 k ∧ s = .int .i64 (sumBy centsOf (l.take k)) ∧ w.grownBy wr none) (fun _ i _ => n - (intOf i).toNat)
  case atStart => exact ⟨0, Nat.zero_le _, rfl, rfl, World.grownBy.refl _ _⟩
  case round =>
    obtain ⟨k, hk, rfl, rfl, hgr⟩ := hrel
    by_cases hlt : k < n
    · have hlr := hl.grow0 hgr
      obtain ⟨b, off, rfl, hbl, hrg⟩ := hlr.get (by omega)
      obtain ⟨g, hg⟩ : ∃ g, l[k]? = some g := ⟨_, List.getElem?_eq_getElem (by omega)⟩
      have hs1 := sumBy_take centsOf hg
      have hb1 := sumBy_bound (l := l.take k) (f := centsOf) (fun x hx => Hb.out x (List.mem_of_mem_take hx))
      have hb2 : (l.take k).length = k := by simp; omega
      rw [hb2] at hb1
      obtain ⟨S, hS⟩ : ∃ S, S = sumBy centsOf (l.take k) := ⟨_, rfl⟩
      have hgn := Hb.out g (List.mem_of_getElem? hg)
      obtain ⟨kind, key, cents⟩ := g
      have hr0 := hrg k _ hg
      have hr1 : wr.rangeAt b (off + k * 3) [.int .i64 kind, .string key, .int .i64 cents] := hr0
      have hm0 : -1000000000000 ≤ cents := hgn.1
      have hm1 : cents ≤ 1000000000000 := hgn.2
      rw [← hS] at hs1 hb1 ⊢
      have hS0 : -1000000000000 * k ≤ S := hb1.1
      have hS1 : S ≤ 1000000000000 * k := hb1.2
      have HK := Lib.hid (show sumBy centsOf (l.take (k + 1)) = S + cents from hs1)
      clear hr0 hrg hg hs1 hb1 hb2 hS hgn
      go_wp2_with (with_reducible refine wpList_load_rng rfl 88 (.tmp 10) rfl b (off + k * 3) rfl _ _ hr1 Tryz.underlying88 rfl 3 info_ln rfl ?_)
      go_roundw
      case rel => exact ⟨k + 1, by omega, by go_num, ret_val (by rw [HK.out]), grow_alloc hgr _⟩
      case measure => simp [intOf]; omega
    · go_wp2_with fail
      go_ret
      exact ⟨ret_int (by rw [List.take_of_length_le (by omega)]), hgr⟩
theorem scan_all {α : Type} {f : Option α → α → Int} : ∀ {l : List α} {p : Option α}, scanE f p l = 0 → ∀ x ∈ l, ∃ q, f q x = 0
  | [], _, _, x, hx => by cases hx
  | y :: r, p, h, x, hx => by
    simp only [scanE] at h
    by_cases h0 : f p y = 0
    · rw [if_pos h0] at h
      rcases List.mem_cons.1 hx with rfl | hx
      · exact ⟨p, h0⟩
      · exact scan_all h x hx
    · rw [if_neg h0] at h; exact absurd h h0
theorem linesE_ok {l : List Ln} (h : linesE l = 0) : l.length ≤ 1000 ∧ ∀ x ∈ l, -1000000000 ≤ x.cents ∧ x.cents ≤ 1000000000 := by
  unfold linesE at h
  by_cases h1 : 1000 < l.length
  · rw [if_pos h1] at h; cases h
  · rw [if_neg h1] at h
    refine ⟨by omega, fun x hx => ?_⟩
    obtain ⟨q, hq⟩ := scan_all h x hx
    unfold lineE at hq
    cases h2 : inB x.kind 1 6 <;> rw [h2] at hq
    · cases hq
    · cases h3 : keyB x.key <;> rw [h3] at hq
      · cases hq
      · cases h4 : inB x.cents (-1000000000) 1000000000 <;> rw [h4] at hq
        · cases hq
        · exact inB_iff.1 h4
end Go.Proofs.YtdoooppeiphefaaGreatDoor
namespace Go.Proofs.YtdoooppeiphefaaGreatDoor
open Go.RowKit
theorem info_wn : (Tryz.prog.info? 39).map (·.size) = some 2 := by kernel_rfl
def Far (v : Int) : Prop := -4000000000000000 ≤ v ∧ v ≤ 4000000000000000
theorem mem_far {xs : List Int} {v : Int} (hv : v ∈ xs) (h : ∀ x ∈ xs, -100000000 ≤ x ∧ x ≤ 100000000) : -100000000 ≤ v ∧ v ≤ 100000000 := h v hv
set_option maxRecDepth 100000 in
set_option maxHeartbeats 2000000 in
theorem gtime_any (w : World) (B sb m : Nat) (hS : Strm 25 w B sb m) (hm : m ≤ 100000000000) :
    Calls Tryz.prog 99 #[.pointer (some ⟨sb, 0, none⟩)] w (fun e w' => ∃ fr to_ : Int, Far fr ∧ Far to_ ∧ e = .returned (.agg #[.int .i64 fr, .int .i64 to_]) ∧ Strm 25 w' B sb (m + 10) ∧ w.grownBy w' (some sb)) := by
  have hlt := hS.lt
  go_enter Tryz.func99, Tryz.ntmps99
  go_wp2_with fail
  have hb0 := Blk.at_ w rfl 39 [.int .i64 0, .int .i64 0]
  have hne : some w.heap.size ≠ some sb := fun h => absurd (Option.some.inj h) (by omega)
  refine (pick_any [0, 0, 700, 5040, 5700, 6480, 6500, 8000, 10079, 20000] _ _ _ _ B sb _ ((hS.alloc _).alloc _) (by omega) (by simp) (by simp) (Blk.at_ (w.alloc _) (by simp) _ _) (by omega)).mono ?_
  rintro e w1 ⟨fr, hfr, rfl, hS1, hg1'⟩
  have hf : -100000000 ≤ fr ∧ fr ≤ 100000000 := mem_far hfr (by decide)
  have hf0 := hf.1
  have hf1 := hf.2
  have hb1 := (hb0.alloc _).grown hg1' hne
  have hg1 : w.grownBy w1 (some sb) := grow_trans (grow_alloc (grow_alloc (World.grownBy.refl _ _) _) _) hg1'
  clear hS hb0 hg1' hfr hf
  go_wp2_with fail
  have hs1 := hS1.lt
  refine (pick_any [1, 59, 60, 61, 300, 1440, 1441, 1500, 2880, 4320, 5850, 7200, 8641, 10080, 11520, 14800, 21600] _ _ _ _ B sb _ (hS1.alloc _) (by omega) (by simp) (by simp) (Blk.at_ _ rfl _ _) (by omega)).mono ?_
  rintro e w2 ⟨v, hv, rfl, hS2, hg2'⟩
  have hf : -100000000 ≤ v ∧ v ≤ 100000000 := mem_far hv (by decide)
  have hv0 := hf.1
  have hv1 := hf.2
  have hb2 := (hb1.alloc _).grown hg2' hne
  have hg2 := grow_trans (grow_alloc hg1 _) hg2'
  clear hS1 hb1 hg1 hg2' hv hf hs1
  go_wp2_with fail
  have hs2 := hS2.lt
  obtain ⟨to_, hto⟩ : ∃ t, t = fr + v := ⟨_, rfl⟩
  rw [← hto]
  have hto0 : -200000000 ≤ to_ := by omega
  have hto1 : to_ ≤ 200000000 := by omega
  clear hto
  have hne2 : some w2.heap.size ≠ some sb := fun h => absurd (Option.some.inj h) (by omega)
  refine (flip_any 15 _ B sb _ (hS2.alloc _) (by omega) (by omega) (by omega)).mono ?_
  rintro e w3 ⟨fl, rfl, hS3, hg3'⟩
  have hD := (Blk.at_ w2 rfl 39 [.int .i64 fr, .int .i64 to_]).grown hg3' hne2
  have hR := (hb2.alloc _).grown hg3' hne
  have hg3 := grow_trans (grow_alloc hg2 _) hg3'
  have hlow : w.heap.size < w2.heap.size := hb2.lt
  have hsz3 := hS3.lt
  clear hS2 hb2 hg2 hg3' hs2 hne2
  cases fl
  · go_wp2_with (first
      | (with_reducible refine wpList_load_all rfl 39 (.tmp 4) rfl w2.heap.size _ _ _ hD rfl Tryz.underlying39 rfl 2 info_wn rfl ?_)
      | (with_reducible refine wpList_store_all rfl 39 (.tmp 2) (.tmp 23) rfl w.heap.size _ _ [.int .i64 fr, .int .i64 to_] hR rfl rfl 2 info_wn rfl rfl (by simp [Value.oneCell']) ?_
         intro w9 hR9 hg9))
    refine ret_blk (p := 2) (ty := 39) rfl w.heap.size _ _ _ hR9 rfl Tryz.underlying39 rfl 2 info_wn rfl rfl ?_
    exact ⟨fr, to_, ⟨by omega, by omega⟩, ⟨by omega, by omega⟩, rfl, (hS3.grown hg9 (fun k h => by cases h; omega)).more (by omega), grow_own hg3 hg9 (fun k h => by cases h; omega)⟩
  · go_wp2_with fail
    refine (odd_any 0 1000 _ B sb _ hS3 (by omega) (by omega) (by omega) (by omega)).mono ?_
    rintro e w4 ⟨o1, ho1, rfl, hS4, hg4⟩
    have ho10 := ho1.1
    have ho11 := ho1.2
    have hD4 := hD.grown hg4 (fun h => absurd (Option.some.inj h) (by omega))
    have hR4 := hR.grown hg4 hne
    have hw4 := grow_trans hg3 hg4
    clear hS3 hD hR hg3 hg4 ho1
    go_wp2_with fail
    have hs4 := hS4.lt
    refine (pick_any [0, 1000, 5761439, 5761440, 172800, 173801] _ _ _ _ B sb _ (hS4.alloc _) (by omega) (by simp) (by simp) (Blk.at_ _ rfl _ _) (by omega)).mono ?_
    rintro e w5 ⟨u, hu, rfl, hS5, hg5'⟩
    have hf : -100000000 ≤ u ∧ u ≤ 100000000 := mem_far hu (by decide)
    have hu0 := hf.1
    have hu1 := hf.2
    have hD5 := (hD4.alloc _).grown hg5' (fun h => absurd (Option.some.inj h) (by omega))
    have hR5 := (hR4.alloc _).grown hg5' hne
    have hw5 := grow_trans (grow_alloc hw4 _) hg5'
    clear hS4 hD4 hR4 hw4 hg5' hu hf hs4
    go_wp2_with (first
      | (with_reducible refine wpList_store_all rfl 39 (.tmp 4) (.tmp 22) rfl w2.heap.size _ _ [.int .i64 o1, .int .i64 u] hD5 rfl rfl 2 info_wn rfl rfl (by simp [Value.oneCell']) ?_
         intro w6 hD6 hg6
         have hR6 := hR5.grown hg6 (fun h => absurd (Option.some.inj h) (by omega)))
      | (with_reducible refine wpList_load_all rfl 39 (.tmp 4) rfl w2.heap.size _ _ _ hD6 rfl Tryz.underlying39 rfl 2 info_wn rfl ?_)
      | (with_reducible refine wpList_store_all rfl 39 (.tmp 2) (.tmp 23) rfl w.heap.size _ _ [.int .i64 o1, .int .i64 u] hR6 rfl rfl 2 info_wn rfl rfl (by simp [Value.oneCell']) ?_
         intro w9 hR9 hg9))
    refine ret_blk (p := 2) (ty := 39) rfl w.heap.size _ _ _ hR9 rfl Tryz.underlying39 rfl 2 info_wn rfl rfl ?_
    exact ⟨o1, u, ⟨by omega, by omega⟩, ⟨by omega, by omega⟩, rfl, ((hS5.grown hg6 (fun k h => by cases h; omega)).grown hg9 (fun k h => by cases h; omega)).more (by omega), grow_own (grow_own hw5 hg6 (fun k h => by cases h; omega)) hg9 (fun k h => by cases h; omega)⟩
end Go.Proofs.YtdoooppeiphefaaGreatDoor
namespace Go.Proofs.YtdoooppeiphefaaGreatDoor
open Go.RowKit
set_option maxRecDepth 100000 in
theorem same_line_neq (x0 : Int) (x1 : ByteArray) (x2 : Int) (w : World) : (binOp .neq 88 (.agg #[.int .i64 x0, .string x1, .int .i64 x2]) (.agg #[.int .i64 x0, .string x1, .int .i64 x2])).run Tryz.prog w = .ok (.bool false) w := by
  have hS : Tryz.prog.underlying 88 = some (.struct (Tryz.prog.fieldsOf 88)) := by kernel_rfl
  have hp : Tryz.prog.stoodInHeld 88 = false := by kernel_rfl
  rw [run_neq_struct, show (10000 : Nat) = 9999 + 1 from rfl, run_equalIn_agg w 9999 88 _ _ hS hp]
  simp only [Program.fieldsOf, Tryz.underlying88]
  have u3 := Tryz.underlying3
  have u9 := Tryz.underlying9
  clear hS hp
  go_simp
theorem guard_line : Tryz.prog.eqGuardType Tryz.prog.depth 88 = false := by kernel_rfl
theorem equal_line_any (l : List Ln) (A1 A2 : Option Addr) (n c1 c2 : Nat) (w : World) (h1 : SlT lnEnc 3 88 w A1 n l) (h2 : SlT lnEnc 3 88 w A2 n l) (hn : n ≤ 1000000) :
  Calls Tryz.prog 37 #[.slice A1 n c1, .slice A2 n c2] w (fun e w' => e = .returned (.bool true) ∧ w.grownBy w' none) := by
 refine gw_enter ⟨26, w, none, []⟩ Tryz.func37 rfl Tryz.ntmps37 rfl (mem0 (X := [SlOld lnEnc 3 88 w.heap.size none A1 n l, SlOld lnEnc 3 88 w.heap.size none A2 n l]) (allF_cons h1.old (allF_cons h2.old allF_nil)) (allL_cons SlOld.lasts (allL_cons SlOld.lasts allL_nil))) ?_
 refine sr_ ?_
 have hlen := h1.len
 refine sg_ rfl (nn_ (gw_seq (sr_ (mv_ rfl (wl_ov (ov_len es83 rfl) rfl (mv_ rfl (wl_ov (ov_len es83 rfl) rfl (wl_ov (ov_neq rfl rfl) rfl ?_))))))))
 refine wl_set 10 (v' := .bool false) rfl (congrArg Value.bool (by simp)) ?_
 refine nn_ (cf_ rfl (gw_skip (nx_then (gw_seq (sr_ (mv_ rfl (wl_ov (ov_len es83 rfl) rfl (mv_ rfl (nn_ (gw_block ?_))))))))))
 refine gw_loop (γ := Nat) (fun (k : Nat) => k ≤ n) (fun (k : Nat) => [(0, .slice A1 n c1), (1, .slice A2 n c2), (12, .int .i64 ((n : Nat) : Int)), (13, .int .i64 ((k : Nat) : Int))]) (fun (k : Nat) => fun _ => True) (fun (k : Nat) => []) (fun (k : Nat) => []) (fun (k : Nat) => [SlOld lnEnc 3 88 w.heap.size none A1 n l, SlOld lnEnc 3 88 w.heap.size none A2 n l]) (fun (k : Nat) => n - k) 0 (Nat.zero_le _) ⟨rfl, rfl, rfl, rfl, trivial⟩ (fun _ hm => hm.pick [] [] [0, 1] rfl rfl) ?_
 intro k hinv
 replace hinv : k ≤ n := hinv
 refine sr_ (wl_ov (ov_lss rfl rfl) rfl (nn_ (gw_seq ?_)))
 refine gw_cond rfl (fun hh => ?_) (fun hh => ?_)
 ·have hk : ((k : Nat) : Int) < ((n : Nat) : Int) := by simpa using hh
  clear hh
  refine gw_skip (nx_then (gw_seq (gw_block (sr_ ?_))))
  obtain ⟨b1, o1, hA, _, _⟩ := h1.get (by omega)
  subst hA
  obtain ⟨b2, o2, hA, _, _⟩ := h2.get (by omega)
  subst hA
  obtain ⟨x, hx⟩ : ∃ x, l[k]? = some x := ⟨_, List.getElem?_eq_getElem (by omega)⟩
  obtain ⟨x0, x1, x2⟩ := x
  refine mv_ rfl (sg_ rfl (nn_ (gw_seq ?_)))
  refine gd (fun wz => (SlOld lnEnc 3 88 w.heap.size none (some ⟨b1, o1, none⟩) n l) wz ∧ (SlOld lnEnc 3 88 w.heap.size none (some ⟨b2, o2, none⟩) n l) wz ∧ True) mixed (fun _ hm => ⟨hm.fa 0, hm.fa 1, trivial⟩) fun z => ?_
  refine wt 0 9 1 rfl z (ov_move rfl) ?_
  refine wt 1 9 3 rfl z (ov_move rfl) ?_
  refine wt 2 9 7 rfl z (ov_index (j := k) es83 rfl rfl (by omega)) ?_
  refine wt 3 9 15 rfl z (ov_elem (vs := [.int .i64 x0, .string x1, .int .i64 x2]) rz88 rfl (fun _ hm => (hm.1).1) hx rfl rfl) ?_
  refine wt 4 9 31 rfl z (ov_move rfl) ?_
  refine wt 5 9 63 rfl z (ov_move rfl) ?_
  refine wt 6 9 127 rfl z (ov_index (j := k) es83 rfl rfl (by omega)) ?_
  refine wt 7 9 255 rfl z (ov_elem (vs := [.int .i64 x0, .string x1, .int .i64 x2]) rz88 rfl (fun _ hm => (hm.2.1).1) hx rfl rfl) ?_
  refine wt 8 9 511 rfl z (ov_bin rfl rfl (cmp_agg guard_line (fun wx => same_line_neq x0 x1 x2 wx))) ?_
  refine wa_done (by kernel_rfl) ?_
  refine nx_then (cf_ rfl (gw_skip (nx_blk_nrm (nx_then (gw_region (ad_ rfl rfl (mv_ rfl (wl_nil ?_))))))))
  exact nx_round (k + 1) (by omega) (by omega) ⟨rfl, rfl, rfl, (some_int (by omega)), trivial⟩ (fun _ hm => hm.pick [] [] [0, 1] rfl rfl)
 have hk : ¬ (((k : Nat) : Int) < ((n : Nat) : Int)) := by simpa using hh
 clear hh
 refine gw_exit ?_
 refine nx_then_exit (nx_then_exit ?_)
 refine nx_blk_here ?_
 refine nx_then (sr_ (sg_ rfl (nn_ ?_)))
 refine gw_ret ?_
 refine nx_ret1 rfl rfl fun wx hm => ?_
 exact ⟨rfl, hm.g⟩
end Go.Proofs.YtdoooppeiphefaaGreatDoor
namespace Go.Proofs.YtdoooppeiphefaaGreatDoor
open Go.RowKit
section
variable {P : Program} {nn : Nat} {S : List (Nat × Value)} {Z : World → Prop} {d : Nat} {ty : TypeId} {pos : String} {aft : Array Edge}
theorem tdiv_is (m : Int) {n : Int} (h : 0 < n) : n * m.tdiv n + m.tmod n = m ∧ -n < m.tmod n ∧ m.tmod n < n := ⟨Int.mul_tdiv_add_tmod m n, Int.lt_tmod_of_pos m h, Int.tmod_lt_of_pos m h⟩
theorem ov_quoT {t t' : TypeId} {x y : Operand} {m n : Int} (hx : rd S x = some (.int .i64 m)) (hy : rd S y = some (.int .i64 n)) (h0 : -9223372036854775808 ≤ m.tdiv n) (h1 : m.tdiv n ≤ 9223372036854775807) (h2 : 0 < n) : OV P nn S Z ⟨some d, .binOp .quo t x y t', ty, pos, aft, none⟩ (.int .i64 (m.tdiv n)) :=
  ov_bin hx hy (fun w => by
    have hw : IntKind.i64.wrap (m.tdiv n) = m.tdiv n := IntWalk.i64_in _ (by omega)
    have hn : ¬ n = 0 := by omega
    simp [binOp_quo, Op.intDiv, hw, hn, go_sem])
theorem ov_remT {t t' : TypeId} {x y : Operand} {m n : Int} (hx : rd S x = some (.int .i64 m)) (hy : rd S y = some (.int .i64 n)) (_h0 : True) (_h1 : True) (h2 : 0 < n) : OV P nn S Z ⟨some d, .binOp .rem t x y t', ty, pos, aft, none⟩ (.int .i64 (m.tmod n)) :=
  ov_bin hx hy (fun w => by
    have hn : ¬ n = 0 := by omega
    simp [binOp_rem, Op.intDiv, hn, go_sem])
end
/-- Of a number of thousandths of a cent: the nearest cents. -/
def nearV (x : Int) : Int := (x + 500) / 1000
def onSum (on : List Int) (l : List Ln) : Int := sumBy (fun x => if x.kind ∈ on then x.cents else 0) l
def taxN (ls out : List Ln) (x : Tx) : Int := onSum x.on ls + (bif x.over then sumBy centsOf out else 0)
def taxL (ls out : List Ln) (x : Tx) : Ln := ⟨5, x.key, nearV (taxN ls out x * x.mille)⟩
def taxesV (ls : List Ln) : List Ln → List Tx → List Ln
  | out, [] => out
  | out, x :: r => taxesV ls (out ++ [taxL ls out x]) r
theorem taxesV_at {ls out : List Ln} {l : List Tx} {i : Nat} {x : Tx} (h : l[i]? = some x) : taxesV ls out (l.drop i) = taxesV ls (out ++ [taxL ls out x]) (l.drop (i + 1)) := by
  obtain ⟨hi, rfl⟩ := List.getElem?_eq_some_iff.1 h
  rw [List.drop_eq_getElem_cons hi]; rfl
theorem onSum_bound {on : List Int} {l : List Ln} (h : ∀ x ∈ l, -1000000000 ≤ x.cents ∧ x.cents ≤ 1000000000) (hl : l.length ≤ 200) : -200000000000 ≤ onSum on l ∧ onSum on l ≤ 200000000000 := by
  have := sumBy_bound (l := l) (f := fun x => if x.kind ∈ on then x.cents else 0) (a := -1000000000) (b := 1000000000) (fun x hx => by have := h x hx; split <;> omega)
  unfold onSum; omega
theorem onSum_all {l : List Ln} (h : ∀ x ∈ l, -1000000000 ≤ x.cents ∧ x.cents ≤ 1000000000) (hl : l.length ≤ 200) : ∀ (on : List Int) (k : Nat), -200000000000 ≤ onSum on (l.take k) ∧ onSum on (l.take k) ≤ 200000000000 := fun on k =>
  onSum_bound (fun x hx => h x (List.mem_of_mem_take hx)) (by simp; omega)
def pwT : Nat → Int
  | 0 => 0
  | k + 1 => 2 * pwT k + 200000000001
theorem pwT_le {k : Nat} (h : k ≤ 2) : 0 ≤ pwT k ∧ pwT k ≤ 600000000003 := by
  match k with
  | 0 => simp [pwT]
  | 1 => simp [pwT]
  | 2 => simp [pwT]
  | n + 3 => omega
theorem mul_rng {n p M : Int} (h0 : -M ≤ n) (h1 : n ≤ M) (h2 : 0 ≤ p) (h3 : p ≤ 1000) : -(M * 1000) ≤ n * p ∧ n * p ≤ M * 1000 := by
  have hM : 0 ≤ M := by omega
  have a1 : n * p ≤ M * p := Int.mul_le_mul_of_nonneg_right h1 h2
  have a2 : M * p ≤ M * 1000 := Int.mul_le_mul_of_nonneg_left h3 hM
  have a3 : -M * p ≤ n * p := Int.mul_le_mul_of_nonneg_right h0 h2
  have a4 : -M * p = -(M * p) := Int.neg_mul _ _
  omega
theorem near_rng {n p M : Int} (h0 : -M ≤ n) (h1 : n ≤ M) (h2 : 0 ≤ p) (h3 : p ≤ 1000) : -(M + 1) ≤ nearV (n * p) ∧ nearV (n * p) ≤ M + 1 := by
  have := mul_rng h0 h1 h2 h3
  unfold nearV; omega
theorem taxL_ok {ls out : List Ln} {x : Tx} {k : Nat} (hs : -200000000000 ≤ onSum x.on ls ∧ onSum x.on ls ≤ 200000000000) (ho : -pwT k ≤ sumBy centsOf out ∧ sumBy centsOf out ≤ pwT k) (hk : k ≤ 2) (hm : 0 ≤ x.mille ∧ x.mille ≤ 1000) :
    (-1000000000000 ≤ (taxL ls out x).cents ∧ (taxL ls out x).cents ≤ 1000000000000) ∧ (-pwT (k + 1) ≤ sumBy centsOf (out ++ [taxL ls out x]) ∧ sumBy centsOf (out ++ [taxL ls out x]) ≤ pwT (k + 1)) := by
  have hp := pwT_le hk
  have hn : -(pwT k + 200000000000) ≤ taxN ls out x ∧ taxN ls out x ≤ pwT k + 200000000000 := by
    unfold taxN; cases x.over <;> simp only [cond_true, cond_false] <;> omega
  have hr := near_rng hn.1 hn.2 hm.1 hm.2
  have hc : (taxL ls out x).cents = nearV (taxN ls out x * x.mille) := rfl
  rw [sumBy_append]
  simp only [sumBy, pwT, centsOf]
  rw [hc]
  omega
def isTax (x : Ln) : Bool := decide (x.kind = 5)
theorem nearest_any (x : Int) (w : World) (h0 : -1000000000000000000 ≤ x) (h1 : x ≤ 1000000000000000000) :
  Calls Tryz.prog 217 #[.int .i64 x] w (GotE w (nearV x)) := by
 refine gw_enter ⟨16, w, none, []⟩ Tryz.func217 rfl Tryz.ntmps217 rfl (mem0 (X := []) allF_nil allL_nil) ?_
 refine sr_ ?_
 have ht := tdiv_is (x + 500) (show (0 : Int) < 1000 by decide)
 obtain ⟨ht0, ht1, ht2⟩ := ht
 refine sg_ rfl (nn_ (sr_ (mv_ rfl (ad_ rfl rfl ?_))))
 refine wl_ov (ov_quoT rfl rfl (by omega) (by omega) (by omega)) rfl ?_
 refine mv_ rfl (ad_ rfl rfl ?_)
 refine wl_ov (ov_remT rfl rfl trivial trivial (by omega)) rfl ?_
 refine sg_ rfl (sg_ rfl (nn_ (gw_seq (sr_ (mv_ rfl (wl_ov (ov_lss rfl rfl) rfl (nn_ ?_)))))))
 refine gw_cond rfl (fun hh => ?_) (fun hh => ?_)
 ·have h : Int.tmod (x + 500) 1000 < 0 := by simpa using hh
  clear hh
  refine gw_region (mv_ rfl ?_)
  refine wl_ov (ov_sub rfl rfl (by omega) (by omega)) rfl ?_
  refine sg_ rfl (nn_ (sr_ (mv_ rfl (sg_ rfl (nn_ ?_)))))
  refine gw_ret ?_
  refine nx_ret1 rfl rfl fun wx hm => ?_
  exact ⟨ret_int (by unfold nearV; omega), hm.g⟩
 have h : ¬ (Int.tmod (x + 500) 1000 < 0) := by simpa using hh
 clear hh
 refine gw_skip (nx_then (sr_ (mv_ rfl (sg_ rfl (nn_ ?_)))))
 refine gw_ret ?_
 refine nx_ret1 rfl rfl fun wx hm => ?_
 exact ⟨ret_int (by unfold nearV; omega), hm.g⟩
theorem predLine_c (kd : Int) (ky : ByteArray) (ct : Int) (w : World) :
  Calls Tryz.prog 107 #[.agg #[.int .i64 kd, .string ky, .int .i64 ct]] w (fun e w' => e = .returned (.bool (isTax ⟨kd, ky, ct⟩)) ∧ w.grownBy w' none) := by
 refine gw_enter ⟨6, w, none, []⟩ Tryz.func107 rfl Tryz.ntmps107 rfl (mem0 (X := []) allF_nil allL_nil) ?_
 refine sr_ ?_
 refine wl_box rfl rfl rfl fun g1 => ?_
 refine sg_ rfl (nn_ (sr_ (fd_ fo88_0 rfl rfl (lk_ sc3 0 rfl rfl rfl (wl_ov (ov_eql rfl rfl) rfl (sg_ rfl (nn_ ?_)))))))
 refine gw_ret ?_
 refine nx_ret1 rfl rfl fun wx hm => ?_
 exact ⟨rfl, hm.g⟩
theorem indexLine_c (ls : List Ln) (A2 : Option Addr) (n2 c2 : Nat) (w : World) (hs : SlT lnEnc 3 88 w A2 n2 ls) (hn2 : n2 ≤ 1000000) :
  Calls Tryz.prog 33 #[.slice A2 n2 c2, .func (.func 107) #[] #[]] w (GotE w (ixP isTax ls 0)) := by
 refine gw_enter ⟨19, w, none, []⟩ Tryz.func33 rfl Tryz.ntmps33 rfl (mem0 (X := [SlOld lnEnc 3 88 w.heap.size none A2 n2 ls]) (allF_cons hs.old allF_nil) (allL_cons SlOld.lasts allL_nil)) ?_
 refine sr_ ?_
 have hlen := hs.len
 refine sg_ rfl (nn_ (gw_seq (sr_ (mv_ rfl (wl_ov (ov_len es83 rfl) rfl (mv_ rfl (nn_ (gw_block ?_))))))))
 refine gw_loop (γ := Nat) (fun (i : Nat) => i ≤ n2 ∧ ixP isTax ls 0 = ixP isTax (ls.drop i) i) (fun (i : Nat) => [(0, .slice A2 n2 c2), (1, .func (.func 107) #[] #[]), (7, .int .i64 ((n2 : Nat) : Int)), (8, .int .i64 ((i : Nat) : Int))]) (fun (i : Nat) => fun _ => True) (fun (i : Nat) => []) (fun (i : Nat) => []) (fun (i : Nat) => [SlOld lnEnc 3 88 w.heap.size none A2 n2 ls]) (fun (i : Nat) => n2 - i) 0 ⟨Nat.zero_le _, rfl⟩ ⟨rfl, rfl, rfl, rfl, trivial⟩ (fun _ hm => hm.pick [] [] [0] rfl rfl) ?_
 intro i hinv
 replace hinv : i ≤ n2 ∧ ixP isTax ls 0 = ixP isTax (ls.drop i) i := hinv
 refine sr_ (wl_ov (ov_lss rfl rfl) rfl (nn_ (gw_seq ?_)))
 refine gw_cond rfl (fun hh => ?_) (fun hh => ?_)
 ·have hi : ((i : Nat) : Int) < ((n2 : Nat) : Int) := by simpa using hh
  clear hh
  refine gw_skip (nx_then (gw_seq (gw_block (sr_ ?_))))
  obtain ⟨b, off, hA, _, _⟩ := hs.get (by omega)
  subst hA
  obtain ⟨x, hx⟩ : ∃ x, ls[i]? = some x := ⟨_, List.getElem?_eq_getElem (by omega)⟩
  obtain ⟨kd, ky, ct⟩ := x
  have hat := ixP_at (p := isTax) hx
  refine mv_ rfl (sg_ rfl (nn_ (sr_ (mv_ rfl (mv_ rfl (mv_ rfl ?_))))))
  refine wl_ov (ov_index (j := i) es83 rfl rfl (by omega)) rfl ?_
  refine wl_ov (ov_elem (vs := [.int .i64 kd, .string ky, .int .i64 ct]) rz88 rfl (fun _ hm => (hm.fact 0 rfl).1) hx rfl rfl) rfl ?_
  refine wl_callv rfl cb107 rfl rfl (fun wx hm => (predLine_c kd ky ct wx)) ?_
  refine nn_ ?_
  refine gw_cond rfl (fun hh => ?_) (fun hh => ?_)
  ·have hq : (isTax ⟨kd, ky, ct⟩) = true := by simpa using hh
   clear hh
   refine sr_ (mv_ rfl (sg_ rfl (nn_ ?_)))
   refine gw_ret ?_
   refine nx_blk_ret (nx_then_ret (nx_then_ret (nx_blk_ret (nx_then_ret ?_))))
   refine nx_ret1 rfl rfl fun wx hm => ?_
   exact ⟨ret_int (by rw [hinv.2, hat, if_pos hq]), hm.g⟩
  have hq : (isTax ⟨kd, ky, ct⟩) = false := by simpa using hh
  clear hh
  refine gw_skip (nx_blk_nrm (nx_then (gw_region (ad_ rfl rfl (mv_ rfl (wl_nil ?_))))))
  exact nx_round (i + 1) ⟨by omega, by rw [hinv.2, hat, if_neg (by rw [hq]; decide)]⟩ (by omega) ⟨rfl, rfl, rfl, (some_int (by omega)), trivial⟩ (fun _ hm => hm.pick [] [] [0] rfl rfl)
 have hi : ¬ (((i : Nat) : Int) < ((n2 : Nat) : Int)) := by simpa using hh
 clear hh
 refine gw_exit ?_
 refine nx_then_exit (nx_then_exit ?_)
 refine nx_blk_here ?_
 refine nx_then (sr_ (sg_ rfl ?_))
 refine wl_set 4 (v' := .int .i64 (-1)) rfl rfl ?_
 refine nn_ ?_
 refine gw_ret ?_
 refine nx_ret1 rfl rfl fun wx hm => ?_
 exact ⟨ret_int (by rw [hinv.2, List.drop_eq_nil_of_le (by omega)]; rfl), hm.g⟩
theorem hasTaxLine_c (ls : List Ln) (A2 : Option Addr) (n2 c2 : Nat) (w : World) (hs : SlT lnEnc 3 88 w A2 n2 ls) (hn2 : n2 ≤ 1000000) :
  Calls Tryz.prog 106 #[.slice A2 n2 c2, .func (.func 107) #[] #[]] w (fun e w' => e = .returned (.bool (ls.any isTax)) ∧ w.grownBy w' none) := by
 refine gw_enter ⟨9, w, none, []⟩ Tryz.func106 rfl Tryz.ntmps106 rfl (mem0 (X := [SlOld lnEnc 3 88 w.heap.size none A2 n2 ls]) (allF_cons hs.old allF_nil) (allL_cons SlOld.lasts allL_nil)) ?_
 refine sr_ (sg_ rfl (nn_ (sr_ (mv_ rfl (mv_ rfl ?_)))))
 refine wl_callv rfl cb33 rfl rfl (fun wx hm => (indexLine_c ls A2 n2 c2 wx (hm.fact 0 rfl).1 hn2)) ?_
 refine wl_ov (ov_geq rfl rfl) rfl ?_
 refine sg_ rfl (nn_ ?_)
 refine gw_ret ?_
 refine nx_ret1 rfl rfl fun wx hm => ?_
 exact ⟨by rw [← ix_any], hm.g⟩
theorem out_snoc {l : List Ln} {x : Ln} (h : ∀ y ∈ l, -1000000000000 ≤ y.cents ∧ y.cents ≤ 1000000000000) (hx : -1000000000000 ≤ x.cents ∧ x.cents ≤ 1000000000000) : ∀ y ∈ l ++ [x], -1000000000000 ≤ y.cents ∧ y.cents ≤ 1000000000000 := fun y hy => by
  rcases List.mem_append.1 hy with hy | hy
  · exact h y hy
  · rw [List.mem_singleton.1 hy]; exact hx
theorem taxes_own (l : List Tx) (A : Option Addr) (n c0 : Nat) (ls : List Ln) (A2 : Option Addr) (n2 c2 : Nat) (w : World) (hl : SlT txEnc 4 298 w A n l) (hg : Ons l w) (hok : ∀ x ∈ l, TxOk x) (hn : n ≤ 3) (hs : SlT lnEnc 3 88 w A2 n2 ls) (hn2 : n2 ≤ 200) (hml : ∀ x ∈ l, 0 ≤ x.mille ∧ x.mille ≤ 1000) (hS : ∀ (on : List Int) (k : Nat), -200000000000 ≤ onSum on (ls.take k) ∧ onSum on (ls.take k) ≤ 200000000000) :
  Calls Tryz.prog 108 #[.slice A n c0, .slice A2 n2 c2] w (fun e w' => ∃ A3 n3 c3, e = .returned (.slice A3 n3 c3) ∧ w'.ownsRow w.heap.size 88 3 (.slice A3 n3 c3) n3 ((taxesV ls [] l).flatMap lnEnc) ∧ (taxesV ls [] l).length = n3 ∧ n3 ≤ 3 ∧ w.grownBy w' none) := by
 refine gw_enter ⟨52, w, none, []⟩ Tryz.func108 rfl Tryz.ntmps108 rfl (mem0 (X := [SlOld txEnc 4 298 w.heap.size none A n l, OnsOld w.heap.size none l, SlOld lnEnc 3 88 w.heap.size none A2 n2 ls]) (allF_cons hl.old (allF_cons hg.old (allF_cons hs.old allF_nil))) (allL_cons SlOld.lasts (allL_cons OnsOld.lasts (allL_cons SlOld.lasts allL_nil)))) ?_
 refine sr_ ?_
 have hlen := hl.len
 have hlen2 := hs.len
 obtain ⟨TV, hTV⟩ : ∃ T, T = taxesV ls [] l := ⟨_, rfl⟩
 rw [← hTV]
 refine sg_ rfl (nn_ (sr_ (sg_ rfl (nn_ (gw_seq (sr_ (mv_ rfl (wl_ov (ov_len es75 rfl) rfl (mv_ rfl ?_)))))))))
 refine nn_ (gw_block ?_)
 refine gw_nilOwn 88 3 ?_
 refine gw_loop (γ := Nat × Value × List Ln × List Value) (fun g => g.1 ≤ n ∧ g.2.2.1.length = g.1 ∧ TV = taxesV ls g.2.2.1 (l.drop g.1) ∧ (-pwT g.1 ≤ sumBy centsOf g.2.2.1 ∧ sumBy centsOf g.2.2.1 ≤ pwT g.1) ∧ (∀ x ∈ g.2.2.1, -1000000000000 ≤ x.cents ∧ x.cents ≤ 1000000000000) ∧ g.2.2.2 = g.2.2.1.flatMap lnEnc) (fun g => [(1, .slice A2 n2 c2), (4, .slice none 0 0), (5, g.2.1), (11, .slice A n c0), (12, .int .i64 ((n : Nat) : Int)), (13, .int .i64 ((g.1 : Nat) : Int))]) (fun g => fun _ => True) (fun g => []) (fun g => [⟨g.2.1, 88, 3, g.1, g.2.2.2⟩]) (fun g => [SlOld txEnc 4 298 w.heap.size none A n l, OnsOld w.heap.size none l, SlOld lnEnc 3 88 w.heap.size none A2 n2 ls]) (fun g => n - g.1) (0, .slice none 0 0, [], []) ⟨Nat.zero_le _, rfl, hTV, by decide, (fun _ h => by cases h), rfl⟩ ⟨rfl, rfl, rfl, rfl, rfl, rfl, trivial⟩ (fun _ hm => hm.pick [] [0] [0, 1, 2] rfl rfl) ?_
 rintro ⟨k, v, out, xs⟩ hinv
 replace hinv : k ≤ n ∧ out.length = k ∧ TV = taxesV ls out (l.drop k) ∧ (-pwT k ≤ sumBy centsOf out ∧ sumBy centsOf out ≤ pwT k) ∧ (∀ x ∈ out, -1000000000000 ≤ x.cents ∧ x.cents ≤ 1000000000000) ∧ xs = out.flatMap lnEnc := hinv
 dsimp only
 refine sr_ ?_
 obtain ⟨hi0, hi1, hi2, hi3, hi4, rfl⟩ := hinv
 refine wl_ov (ov_lss rfl rfl) rfl (nn_ (gw_seq ?_))
 refine gw_cond rfl (fun hh => ?_) (fun hh => ?_)
 ·have hk : ((k : Nat) : Int) < ((n : Nat) : Int) := by simpa using hh
  clear hh
  refine gw_skip (nx_then (gw_seq (gw_block (sr_ ?_))))
  obtain ⟨b, off, hA, _, _⟩ := hl.get (by omega)
  subst hA
  obtain ⟨x, hx⟩ : ∃ x, l[k]? = some x := ⟨_, List.getElem?_eq_getElem (by omega)⟩
  obtain ⟨key, mi, At, nt, ct, on, ov⟩ := x
  have hat := taxesV_at (ls := ls) (out := out) hx
  obtain ⟨hk1, hnt⟩ := hok _ (List.mem_of_getElem? hx)
  have hnt : nt ≤ 1000 := hnt
  obtain ⟨hm0, hm1⟩ : 0 ≤ mi ∧ mi ≤ 1000 := hml _ (List.mem_of_getElem? hx)
  have hsb := hS on ls.length
  rw [List.take_length] at hsb
  have hpw := pwT_le (show k ≤ 2 by omega)
  have htl := taxL_ok (ls := ls) (out := out) (x := ⟨key, mi, At, nt, ct, on, ov⟩) hsb hi3 (show k ≤ 2 by omega) ⟨hm0, hm1⟩
  obtain ⟨TL, hTL⟩ : ∃ T, T = taxL ls out ⟨key, mi, At, nt, ct, on, ov⟩ := ⟨_, rfl⟩
  rw [← hTL] at hat htl
  refine wl_also (Y := SlOld itEnc 1 3 w.heap.size none At nt on) (SlOld.lasts) (fun wx hm => (hm.fact 1 rfl) _ (List.mem_of_getElem? hx)) ?_
  refine wl_ov (ov_index (j := k) es75 rfl rfl (by omega)) rfl ?_
  refine wl_ov (ov_elem (vs := [.string key, .int .i64 mi, .slice At nt ct, .bool ov]) rz298 rfl (fun _ hm => (hm.fact 1 rfl).1) hx rfl rfl) rfl ?_
  refine wl_alloc zc298 rfl fun g1 => ?_
  refine wl_stores (cs' := [.string key, .int .i64 mi, .slice At nt ct, .bool ov]) 0 rz298 rfl rfl rfl rfl rfl rfl rfl rfl ?_
  refine nn_ (sr_ (sg_ rfl (nn_ (gw_seq (sr_ (mv_ rfl (wl_ov (ov_len es83 rfl) rfl (mv_ rfl (wl_nil ?_)))))))))
  refine nx_then (gw_block ?_)
  refine gw_loop (γ := Nat) (fun (q : Nat) => q ≤ n2) (fun (q : Nat) => [(1, .slice A2 n2 c2), (4, .slice none 0 0), (5, v), (7, .pointer (some ⟨g1, 0, none⟩)), (8, .int .i64 (onSum on (ls.take q))), (11, .slice (some ⟨b, off, none⟩) n c0), (12, .int .i64 ((n : Nat) : Int)), (13, .int .i64 ((k : Nat) : Int)), (17, .slice A2 n2 c2), (18, .int .i64 ((n2 : Nat) : Int)), (19, .int .i64 ((q : Nat) : Int))]) (fun (q : Nat) => fun _ => True) (fun (q : Nat) => [(g1, 298, [.string key, .int .i64 mi, .slice At nt ct, .bool ov])]) (fun (q : Nat) => [⟨v, 88, 3, k, out.flatMap lnEnc⟩]) (fun (q : Nat) => [SlOld itEnc 1 3 w.heap.size none At nt on, SlOld txEnc 4 298 w.heap.size none (some ⟨b, off, none⟩) n l, OnsOld w.heap.size none l, SlOld lnEnc 3 88 w.heap.size none A2 n2 ls]) (fun (q : Nat) => n2 - q) 0 (Nat.zero_le _) ⟨rfl, rfl, rfl, rfl, rfl, rfl, rfl, rfl, rfl, rfl, rfl, trivial⟩ (fun _ hm => hm.pick [0] [0] [0, 1, 2, 3] rfl rfl) ?_
  intro q hinv
  replace hinv : q ≤ n2 := hinv
  refine sr_ (wl_ov (ov_lss rfl rfl) rfl (nn_ (gw_seq ?_)))
  refine gw_cond rfl (fun hh => ?_) (fun hh => ?_)
  ·have hq : ((q : Nat) : Int) < ((n2 : Nat) : Int) := by simpa using hh
   clear hh
   refine gw_skip (nx_then (gw_seq (gw_block (sr_ ?_))))
   obtain ⟨b2, o2, hA, _, _⟩ := hs.get (by omega)
   subst hA
   obtain ⟨y, hy⟩ : ∃ x, ls[q]? = some x := ⟨_, List.getElem?_eq_getElem (by omega)⟩
   obtain ⟨kd, ky, ct⟩ := y
   have hs1 := sumBy_take (fun x : Ln => if x.kind ∈ on then x.cents else 0) hy
   have hs2 : onSum on (ls.take (q + 1)) = onSum on (ls.take q) + (if kd ∈ on then ct else 0) := hs1
   have hb1 := hS on q
   have hb2 := hS on (q + 1)
   refine wl_ov (ov_index (j := q) es83 rfl rfl (by omega)) rfl ?_
   refine wl_ov (ov_elem (vs := [.int .i64 kd, .string ky, .int .i64 ct]) rz88 rfl (fun _ hm => (hm.fact 3 rfl).1) hy rfl rfl) rfl ?_
   refine wl_alloc zc88 rfl fun g2 => ?_
   refine wl_stores (cs' := [.int .i64 kd, .string ky, .int .i64 ct]) 0 rz88 rfl rfl rfl rfl rfl rfl rfl rfl ?_
   refine nn_ (sr_ (fd_ fo298_2 rfl rfl (lk_ sc22 1 rfl rfl rfl (fd_ fo88_0 rfl rfl (lk_ sc3 0 rfl rfl rfl ?_)))))
   refine wl_callv rfl cb216 rfl rfl (fun wx hm => (contains_int on At nt _ kd wx (hm.fact 0 rfl).1 (by omega))) ?_
   refine nn_ ?_
   refine gw_cond rfl (fun hh => ?_) (fun hh => ?_)
   ·have hin : kd ∈ on := by simpa using hh
    clear hh
    refine gw_region ?_
    rw [if_pos hin] at hs2
    rw [hs2] at hb2
    refine mv_ rfl (fd_ fo88_2 rfl rfl (lk_ sc3 0 rfl rfl rfl (ad_ rfl rfl (sg_ rfl (wl_nil (nx_blk_nrm (nx_then (gw_region (ad_ rfl rfl (mv_ rfl (wl_nil ?_)))))))))))
    exact nx_round (q + 1) (by omega) (by omega) ⟨rfl, rfl, rfl, rfl, (some_int (by rw [hs2])), rfl, rfl, rfl, rfl, rfl, (some_int (by omega)), trivial⟩ (fun _ hm => hm.pick [1] [0] [0, 1, 2, 3] rfl rfl)
   have hin : ¬ (kd ∈ on) := by simpa using hh
   clear hh
   refine gw_skip (nx_blk_nrm (nx_then (gw_region (ad_ rfl rfl (mv_ rfl (wl_nil ?_))))))
   exact nx_round (q + 1) (by omega) (by omega) ⟨rfl, rfl, rfl, rfl, (some_int (by rw [hs2, if_neg hin, Int.add_zero])), rfl, rfl, rfl, rfl, rfl, (some_int (by omega)), trivial⟩ (fun _ hm => hm.pick [1] [0] [0, 1, 2, 3] rfl rfl)
  have hq : ¬ (((q : Nat) : Int) < ((n2 : Nat) : Int)) := by simpa using hh
  clear hh
  refine gw_exit ?_
  refine nx_then_exit (nx_then_exit ?_)
  refine nx_blk_here ?_
  refine nx_then (gw_seq (sr_ ?_))
  have hall : ls.take q = ls := List.take_of_length_le (by omega)
  obtain ⟨hsb0, hsb1⟩ := hsb
  obtain ⟨OS, hOS⟩ : ∃ x, x = onSum on ls := ⟨_, rfl⟩
  rw [← hOS] at hsb0 hsb1
  refine wl_set 8 (v' := .int .i64 OS) rfl (congrArg (Value.int .i64) (by rw [hall, hOS])) ?_
  refine fd_ fo298_3 rfl rfl (lk_ sc4 0 rfl rfl rfl (nn_ ?_))
  refine gw_cond rfl (fun hh => ?_) (fun hh => ?_)
  ·have hov : ov = true := by simpa using hh
   clear hh
   refine gw_region ?_
   refine wl_look (R := ∃ A cc, v = .slice A k cc) (fun wx hm => own_slice (hm.ownI 0 rfl)) ?_
   rintro ⟨A3, c3, rfl⟩
   refine mv_ rfl (mv_ rfl ?_)
   refine wl_callv rfl cb115 rfl rfl (fun wx hm => (sum_any out A3 k c3 wx (SlT.ofOwn ln_len (hm.ownI 0 rfl) hi1) hi4 (by omega))) ?_
   refine ad_ rfl rfl (sg_ rfl (nn_ ?_))
   obtain ⟨NS, hNS⟩ : ∃ x, x = OS + sumBy centsOf out := ⟨_, rfl⟩
   have hN2 : NS = taxN ls out ⟨key, mi, At, nt, ct, on, ov⟩ := by rw [hNS]; unfold taxN; simp only [hov, cond_true]; rw [← hOS]
   have hN3 : -800000000003 ≤ NS ∧ NS ≤ 800000000003 := by omega
   obtain ⟨hN4, hN5⟩ := hN3
   have hmr := mul_rng hN4 hN5 hm0 hm1
   have hmr2 := mul_rng (n := 2 * NS) (M := 1600000000006) (by omega) (by omega) hm0 hm1
   have hv : nearV (NS * mi) = TL.cents := by rw [hTL, hN2]; rfl
   have hTL2 : TL = ⟨5, key, nearV (NS * mi)⟩ := by rw [hTL, hN2]; rfl
   refine gw_set 8 (v' := .int .i64 NS) rfl (congrArg (Value.int .i64) hNS.symm) ?_
   refine gd (fun wz => Blk wz g1 298 [.string key, .int .i64 mi, .slice At nt ct, .bool ov] ∧ (SlOld itEnc 1 3 w.heap.size none At nt on) wz ∧ (SlOld txEnc 4 298 w.heap.size none (some ⟨b, off, none⟩) n l) wz ∧ (OnsOld w.heap.size none l) wz ∧ (SlOld lnEnc 3 88 w.heap.size none A2 n2 ls) wz ∧ True) mixed (fun _ hm => ⟨hm.bl 0, hm.fa 0, hm.fa 1, hm.fa 2, hm.fa 3, trivial⟩) fun z => ?_
   refine wt 0 12 1 rfl z (ov_move rfl) ?_
   refine wt 1 12 3 rfl z (ov_field fo298_0 rfl rfl) ?_
   refine wt 2 12 7 rfl z (ov_load sc9 rfl (fun _ hm => hm.1) rfl) ?_
   refine wt 3 12 15 rfl z (ov_move rfl) ?_
   refine wt 4 12 31 rfl z (ov_field fo298_1 rfl rfl) ?_
   refine wt 5 12 63 rfl z (ov_load sc3 rfl (fun _ hm => hm.1) rfl) ?_
   refine wt 6 12 127 rfl z (ov_mul rfl rfl (by omega) (by omega)) ?_
   refine wa1 7 rfl ?_
   refine wl_callv rfl cb217 rfl rfl (fun wx hm => (nearest_any (NS * mi) wx (by omega) (by omega))) ?_
   refine wl_nil ?_
   refine nw 12 255 (fun _ hm => ⟨hm.bl 0, hm.fa 0, hm.fa 1, hm.fa 2, hm.fa 3, trivial⟩) fun z => ?_
   refine wt 8 12 511 rfl z (ov_build (cs := [.int .i64 5, .string key, .int .i64 (nearV (NS * mi))]) rfl (by kernel_rfl)) ?_
   refine wa1 9 rfl ?_
   refine wl_buildSlice (e := 88) (cs := [.int .i64 5, .string key, .int .i64 (nearV (NS * mi))]) rfl (by kernel_rfl) rfl fun g3 => ?_
   refine wl_nil ?_
   refine nw 12 1023 (fun _ hm => ⟨hm.bl 1, hm.fa 0, hm.fa 1, hm.fa 2, hm.fa 3, trivial⟩) fun z => ?_
   refine wa1 10 rfl ?_
   refine wl_append (news := [.int .i64 5, .string key, .int .i64 (nearV (NS * mi))]) 0 0 ap83 rfl rfl rfl rfl rfl rfl rfl (by omega) (by unfold maxLen; omega) rfl rfl fun v2 hv2 => ?_
   refine wl_nil ?_
   refine nw 12 2047 (fun _ hm => ⟨hm.bl 1, hm.fa 0, hm.fa 1, hm.fa 2, hm.fa 3, trivial⟩) fun z => ?_
   refine wt 11 12 4095 rfl z (ov_assign rfl) ?_
   refine wa_done (by kernel_rfl) ?_
   refine nx_blk_nrm (nx_then (gw_region (ad_ rfl rfl (mv_ rfl (wl_nil ?_)))))
   exact nx_round (k + 1, v2, out ++ [TL], out.flatMap lnEnc ++ ([.int .i64 5, .string key, .int .i64 (nearV (NS * mi))] : List Value)) ⟨by dsimp only; omega, by simp [hi1], by dsimp only; rw [hi2, hat], htl.2, out_snoc hi4 htl.1, by rw [hTL2]; simp [lnEnc]⟩ (by dsimp only; omega) ⟨rfl, rfl, rfl, rfl, rfl, (some_int (by omega)), trivial⟩ (fun _ hm => hm.pick [] [0] [1, 2, 3] rfl rfl)
  have hov : ov = false := by simpa using hh
  clear hh
  refine gw_skip (nx_then ?_)
  obtain ⟨NS, hNS⟩ : ∃ x, x = OS := ⟨_, rfl⟩
  have hN2 : NS = taxN ls out ⟨key, mi, At, nt, ct, on, ov⟩ := by rw [hNS]; unfold taxN; simp only [hov, cond_false]; rw [← hOS]; omega
  have hN3 : -800000000003 ≤ NS ∧ NS ≤ 800000000003 := by omega
  obtain ⟨hN4, hN5⟩ := hN3
  have hmr := mul_rng hN4 hN5 hm0 hm1
  have hmr2 := mul_rng (n := 2 * NS) (M := 1600000000006) (by omega) (by omega) hm0 hm1
  have hv : nearV (NS * mi) = TL.cents := by rw [hTL, hN2]; rfl
  have hTL2 : TL = ⟨5, key, nearV (NS * mi)⟩ := by rw [hTL, hN2]; rfl
  refine gw_set 8 (v' := .int .i64 NS) rfl (congrArg (Value.int .i64) hNS.symm) ?_
  refine gd (fun wz => Blk wz g1 298 [.string key, .int .i64 mi, .slice At nt ct, .bool ov] ∧ (SlOld itEnc 1 3 w.heap.size none At nt on) wz ∧ (SlOld txEnc 4 298 w.heap.size none (some ⟨b, off, none⟩) n l) wz ∧ (OnsOld w.heap.size none l) wz ∧ (SlOld lnEnc 3 88 w.heap.size none A2 n2 ls) wz ∧ True) mixed (fun _ hm => ⟨hm.bl 0, hm.fa 0, hm.fa 1, hm.fa 2, hm.fa 3, trivial⟩) fun z => ?_
  refine wt 0 12 1 rfl z (ov_move rfl) ?_
  refine wt 1 12 3 rfl z (ov_field fo298_0 rfl rfl) ?_
  refine wt 2 12 7 rfl z (ov_load sc9 rfl (fun _ hm => hm.1) rfl) ?_
  refine wt 3 12 15 rfl z (ov_move rfl) ?_
  refine wt 4 12 31 rfl z (ov_field fo298_1 rfl rfl) ?_
  refine wt 5 12 63 rfl z (ov_load sc3 rfl (fun _ hm => hm.1) rfl) ?_
  refine wt 6 12 127 rfl z (ov_mul rfl rfl (by omega) (by omega)) ?_
  refine wa1 7 rfl ?_
  refine wl_callv rfl cb217 rfl rfl (fun wx hm => (nearest_any (NS * mi) wx (by omega) (by omega))) ?_
  refine wl_nil ?_
  refine nw 12 255 (fun _ hm => ⟨hm.bl 0, hm.fa 0, hm.fa 1, hm.fa 2, hm.fa 3, trivial⟩) fun z => ?_
  refine wt 8 12 511 rfl z (ov_build (cs := [.int .i64 5, .string key, .int .i64 (nearV (NS * mi))]) rfl (by kernel_rfl)) ?_
  refine wa1 9 rfl ?_
  refine wl_buildSlice (e := 88) (cs := [.int .i64 5, .string key, .int .i64 (nearV (NS * mi))]) rfl (by kernel_rfl) rfl fun g4 => ?_
  refine wl_nil ?_
  refine nw 12 1023 (fun _ hm => ⟨hm.bl 1, hm.fa 0, hm.fa 1, hm.fa 2, hm.fa 3, trivial⟩) fun z => ?_
  refine wa1 10 rfl ?_
  refine wl_append (news := [.int .i64 5, .string key, .int .i64 (nearV (NS * mi))]) 0 0 ap83 rfl rfl rfl rfl rfl rfl rfl (by omega) (by unfold maxLen; omega) rfl rfl fun v2 hv2 => ?_
  refine wl_nil ?_
  refine nw 12 2047 (fun _ hm => ⟨hm.bl 1, hm.fa 0, hm.fa 1, hm.fa 2, hm.fa 3, trivial⟩) fun z => ?_
  refine wt 11 12 4095 rfl z (ov_assign rfl) ?_
  refine wa_done (by kernel_rfl) ?_
  refine nx_blk_nrm (nx_then (gw_region (ad_ rfl rfl (mv_ rfl (wl_nil ?_)))))
  exact nx_round (k + 1, v2, out ++ [TL], out.flatMap lnEnc ++ ([.int .i64 5, .string key, .int .i64 (nearV (NS * mi))] : List Value)) ⟨by dsimp only; omega, by simp [hi1], by dsimp only; rw [hi2, hat], htl.2, out_snoc hi4 htl.1, by rw [hTL2]; simp [lnEnc]⟩ (by dsimp only; omega) ⟨rfl, rfl, rfl, rfl, rfl, (some_int (by omega)), trivial⟩ (fun _ hm => hm.pick [] [0] [1, 2, 3] rfl rfl)
 have hk : ¬ (((k : Nat) : Int) < ((n : Nat) : Int)) := by simpa using hh
 clear hh
 refine gw_exit ?_
 refine nx_then_exit (nx_then_exit ?_)
 refine nx_blk_here ?_
 refine nx_then (sr_ ?_)
 refine wl_look (R := ∃ A cc, v = .slice A k cc) (fun wx hm => own_slice (hm.ownI 0 rfl)) ?_
 rintro ⟨A3, c3, rfl⟩
 refine mv_ rfl (sg_ rfl (nn_ ?_))
 refine gw_ret ?_
 refine nx_ret1 rfl rfl fun wx hm => ?_
 have hTO : TV = out := by rw [hi2, List.drop_eq_nil_of_le (by omega)]; rfl
 exact ⟨A3, k, c3, rfl, by rw [hTO]; exact hm.ownI 0 rfl, by rw [hTO]; exact hi1, by omega, hm.g⟩
theorem taxes_any (l : List Tx) (A : Option Addr) (n c0 : Nat) (ls : List Ln) (A2 : Option Addr) (n2 c2 : Nat) (w : World) (hl : SlT txEnc 4 298 w A n l) (hg : Ons l w) (hok : ∀ x ∈ l, TxOk x) (hn : n ≤ 3) (hs : SlT lnEnc 3 88 w A2 n2 ls) (hn2 : n2 ≤ 200) (hml : ∀ x ∈ l, 0 ≤ x.mille ∧ x.mille ≤ 1000) (hS : ∀ (on : List Int) (k : Nat), -200000000000 ≤ onSum on (ls.take k) ∧ onSum on (ls.take k) ≤ 200000000000) :
    Calls Tryz.prog 108 #[.slice A n c0, .slice A2 n2 c2] w (fun e w' => ∃ A3 n3 c3, e = .returned (.slice A3 n3 c3) ∧ SlT lnEnc 3 88 w' A3 n3 (taxesV ls [] l) ∧ n3 ≤ 3 ∧ w.grownBy w' none) := (taxes_own l A n c0 ls A2 n2 c2 w hl hg hok hn hs hn2 hml hS).mono fun _ _ ⟨A3, n3, c3, he, ho, hlen, hn3, hg⟩ => ⟨A3, n3, c3, he, SlT.ofOwn ln_len ho hlen, hn3, hg⟩
end Go.Proofs.YtdoooppeiphefaaGreatDoor
