/- Several texts as one: Beg Sp Bd Bx He Hf Bq Td Ry Gnb -/
import Derived.Test.YtempjmpfdniecaaGreatDoorN4d
import Derived.Test.YtempjmpfdniecaaGreatDoorN4b
import Derived.Test.YtempjmpfdniecaaGreatDoorN4a
import Derived.Test.YtempjmpfdniecaaGreatDoorN4c
import Derived.Deep.RegionHeld3
import Derived.Laws.ResultCell
set_option maxRecDepth 100000
set_option maxHeartbeats 4000000
namespace Go.Proofs.YtempjmpfdniecaaGreatDoor
open Go.RowKit
theorem ch_many {cs : List Cs} {sl : List Sk} {b : Bk} (hcl : Closed cs) (hlo : loopB cs cs.length = false) (hk : 0 ≤ ixP (csP b.cls) cs 0) (hm : ∀ k, manyV sl k ≤ 100) : ∀ q ∈ chB cs sl b, q.2.2 ≤ 1000 := fun q hq => by
  have h1 := (ch_ok (many := capB sl) (path_nodup hcl hlo hk)).1 q hq
  have h2 := hm q.1
  unfold capB at h1
  omega
theorem asg_some {cs : List Cs} {sl : List Sk} {l : List Bk} {o : List (ByteArray × Nat)} (hcl : Closed cs) (hlo : loopB cs cs.length = false) (hk : ∀ b ∈ l, 0 ≤ ixP (csP b.cls) cs 0) (ht : BkTim l) (h : asgO cs sl l = some o) : ∀ b ∈ l, chB cs sl b ≠ [] := fun b hb e => by
  have := asg_empty (sl := sl) hcl hlo hk (fun b hb => (ht b hb).2.1) (List.mem_map.2 ⟨b, hb, e⟩)
  rw [this] at h; cases h
theorem unD_nil {cs : List Cs} {sl : List Sk} {l : List Bk} {k : Nat} : unD cs sl l [] k = unitsW (l.map wnB) (roomU (l.map wnB)) (l.map (chB cs sl)) [] k := rfl
theorem restB_W {cs : List Cs} {sl : List Sk} {l : List Bk} {k : Nat} : restB cs sl l k = restW ((l.map (chB cs sl)).drop k) := by
  unfold restB
  rw [List.map_drop]
theorem restB_le {cs : List Cs} {sl : List Sk} {l : List Bk} (hs : ∀ b ∈ l, ∀ q ∈ chB cs sl b, q.2.1 ≤ 1000) (k : Nat) : restB cs sl l k ≤ l.length * 1000 := by
  have h := restW_le (M := 1000) (css := (l.drop k).map (chB cs sl)) fun c hc q hq => by
    obtain ⟨b, hb, rfl⟩ := List.mem_map.1 hc
    exact hs b (List.mem_of_mem_drop hb) q hq
  rw [List.length_map, List.length_drop] at h
  exact Nat.le_trans h (Nat.mul_le_mul_right _ (by omega))
theorem gvO_get {l : List Bk} {o : List (ByteArray × Nat)} {i : Nat} {b : Bk} {p : ByteArray × Nat} (h1 : l[i]? = some b) (h2 : o[i]? = some p) : (gvO l o)[i]? = some ⟨b.key, p.1, (p.2 : Int)⟩ := by
  unfold gvO
  rw [List.getElem?_map, zip_at h1 h2]; rfl
theorem assign_any (cs : List Cs) (A0 : Option Addr) (n0 c0 : Nat) (sl : List Sk) (A1 : Option Addr) (n1 c1 : Nat) (l : List Bk) (A : Option Addr) (n c : Nat) (w : World) (hcs : SlT csEnc 2 158 w A0 n0 cs) (hco : ∀ x ∈ cs, CsOk x) (hn0 : n0 ≤ 1000) (hs : SlT skEnc 2 211 w A1 n1 sl) (hso : ∀ x ∈ sl, SkOk x) (hn1 : n1 ≤ 1000) (hl : SlT bkEnc 6 92 w A n l) (hn : n ≤ 12) (hmany : ∀ k, manyV sl k ≤ 100) (hcl : Closed cs) (hlo : loopB cs cs.length = false) (h30 : cs.length ≤ 30) (hkeys : ∀ b ∈ l, keysE cs [b.cls] = 0) (htm : BkTim l) :
  Calls Tryz.prog 125 #[.slice A0 n0 c0, .slice A1 n1 c1, .slice A n c] w (fun e w' => ((asgO cs sl l = none ∧ e = .returned (.tuple #[.slice none 0 0, .bool false])) ∨ ∃ (o : List (ByteArray × Nat)) (A' : Option Addr) (c' : Nat), asgO cs sl l = some o ∧ e = .returned (.tuple #[.slice A' n c', .bool true]) ∧ SlT gvEnc 3 90 w' A' n (gvO l o) ∧ n ≤ c') ∧ w.grownBy w' none) := by
 refine gw_enter ⟨119, w, none, [269, 268]⟩ Tryz.func125 rfl Tryz.ntmps125 rfl (mem0 (X := [SlOld csEnc 2 158 w.heap.size none A0 n0 cs, SlOld skEnc 2 211 w.heap.size none A1 n1 sl, SlOld bkEnc 6 92 w.heap.size none A n l]) (allF_cons hcs.old (allF_cons hs.old (allF_cons hl.old allF_nil))) (allL_cons SlOld.lasts (allL_cons SlOld.lasts (allL_cons SlOld.lasts allL_nil)))) ?_
 refine sr_ ?_
 have hlen := hl.len
 have hix := keys_ix hkeys
 have hstp : ∀ b ∈ l, ∀ q ∈ chB cs sl b, q.2.1 ≤ 1000 := fun b hb => ch_steps hcl hlo h30 (hix b hb)
 have hstm : ∀ b ∈ l, ∀ q ∈ chB cs sl b, q.2.1 ≤ 1000 ∧ q.2.2 ≤ 1000 := fun b hb q hq => ⟨hstp b hb q hq, ch_many hcl hlo (hix b hb) hmany q hq⟩
 have hchl : ∀ b ∈ l, (chB cs sl b).length ≤ 1000 := fun b hb => ch_short hcl hlo h30 (hix b hb)
 refine sg_ rfl (sg_ rfl (nn_ (sr_ (mv_ rfl (mv_ rfl (mv_ rfl ?_))))))
 refine wl_callx (γ := Int) (val := (fun g => .int .i64 g)) (φ := (fun g => FwOk cs sl l g)) (Y := (fun g => fun _ => True)) rfl cb134 rfl rfl (fun wx hm => (fewest_any cs A0 n0 c0 sl A1 n1 c1 l A n c wx (hm.fact 0 rfl).1 hco hn0 (hm.fact 1 rfl).1 hso hn1 (hm.fact 2 rfl).1 hn hcl hlo h30 hkeys htm).mono fun _ _ ⟨v, he, hv, hg⟩ => ⟨v, he, hv, hg, trivial⟩) (fun _ => Lasts2.true_) ?_
 rintro v hv
 refine sg_ rfl (nn_ (gw_seq (sr_ (mv_ rfl (wl_ov (ov_lss rfl rfl) rfl (nn_ ?_))))))
 refine gw_cond rfl (fun hh => ?_) (fun hh => ?_)
 ·have hvn : v < 0 := by simpa using hh
  clear hh
  refine sr_ (sg_ rfl (sg_ rfl (nn_ ?_)))
  refine gw_ret ?_
  refine nx_then_ret ?_
  have hnone : asgO cs sl l = none := by
   rcases hv with ⟨_, h9⟩ | ⟨k, o, rfl, _⟩
   ·exact h9
   exact absurd hvn (by omega)
  refine nx_ret2 rfl rfl rfl fun wx hm => ?_
  exact ⟨.inl ⟨hnone, rfl⟩, hm.g⟩
 have hvn : ¬ (v < 0) := by simpa using hh
 clear hh
 refine gw_skip (nx_then ?_)
 obtain ⟨k, o, rfl, hao, huo, hkl⟩ : ∃ (k : Nat) (o : List (ByteArray × Nat)), v = (k : Int) ∧ asgO cs sl l = some o ∧ unitsW (l.map wnB) (roomU (l.map wnB)) (l.map (chB cs sl)) [] k = some o ∧ k ≤ l.length * cs.length := by
  rcases hv with ⟨rfl, _⟩ | h
  ·exact absurd hvn (by decide)
  exact h
 have hol := asgO_len hao
 have hnz := asg_some hcl hlo hix htm hao
 rw [← unD_nil] at huo
 have hk6 : k ≤ 1000000 := Nat.le_trans hkl (Nat.le_trans (Nat.mul_le_mul (by omega : l.length ≤ 1000) h30) (by decide))
 refine gw_cut (γ := Option Addr × Nat × List ChS × Nat × Nat × Nat × Nat) (I := (fun g => g.2.2.1.map ChS.l = l.map (chB cs sl))) (S' := (fun g => [(2, .slice A n c), (6, .slice none 0 0), (7, .bool false), (8, .int .i64 ((k : Nat) : Int)), (9, .pointer (some ⟨g.2.2.2.1, 0, none⟩))])) (K' := (fun g => fun _ => True)) (L' := (fun g => [(g.2.2.2.1, 266, [.slice A n c, .slice g.1 n g.2.1, .slice none 0 0, .slice (some ⟨g.2.2.2.2.1, 0, none⟩) n n, .slice (some ⟨g.2.2.2.2.2.1, 0, none⟩) n n, .slice (some ⟨g.2.2.2.2.2.2, 0, none⟩) (n + 1) (n + 1), .int .i64 0])])) (O' := (fun g => [⟨.slice (some ⟨g.2.2.2.2.1, 0, none⟩) n n, 9, 1, n, (List.replicate (n) (⟨#[]⟩ : ByteArray)).flatMap sgEnc⟩, ⟨.slice (some ⟨g.2.2.2.2.2.1, 0, none⟩) n n, 3, 1, n, (List.replicate (n) (0 : Int)).flatMap iEnc⟩, ⟨.slice (some ⟨g.2.2.2.2.2.2, 0, none⟩) (n + 1) (n + 1), 3, 1, (n + 1), (List.replicate (n + 1) (0 : Int)).flatMap iEnc⟩])) (X' := (fun g => [SlOld csEnc 2 158 w.heap.size none A0 n0 cs, SlOld skEnc 2 211 w.heap.size none A1 n1 sl, SlOld bkEnc 6 92 w.heap.size none A n l, fun wy => SlT csnEnc 1 269 wy g.1 n g.2.2.1, fun wy => Chs 268 g.2.2.1 wy, fun _ => True])) ?_ ?_
 ·refine gd (fun wz => (fun _ => True) wz ∧ (SlOld csEnc 2 158 w.heap.size none A0 n0 cs) wz ∧ (SlOld skEnc 2 211 w.heap.size none A1 n1 sl) wz ∧ (SlOld bkEnc 6 92 w.heap.size none A n l) wz ∧ True) mixed (fun _ hm => ⟨hm.fa 0, hm.fa 1, hm.fa 2, hm.fa 3, trivial⟩) fun z => ?_
  refine wt 0 18 1 rfl z (ov_move rfl) ?_
  refine wt 1 18 3 rfl z (ov_move rfl) ?_
  refine wt 2 18 7 rfl z (ov_move rfl) ?_
  refine wt 3 18 15 rfl z (ov_move rfl) ?_
  refine wt 5 18 47 rfl z (ov_move rfl) ?_
  refine wt 6 18 111 rfl z (ov_len es76 rfl) ?_
  refine wt 8 18 367 rfl z (ov_move rfl) ?_
  refine wt 9 18 879 rfl z (ov_len es76 rfl) ?_
  refine wt 11 18 2927 rfl z (ov_move rfl) ?_
  refine wt 12 18 7023 rfl z (ov_len es76 rfl) ?_
  refine wt 13 18 15215 rfl z (ov_add rfl rfl (by omega) (by omega)) ?_
  refine wa_set 34 (v' := .int .i64 ((n + 1 : Nat) : Int)) rfl (congrArg (Value.int .i64) (by omega)) ?_
  refine wa_all [4, 7, 10, 14] (by kernel_rfl) rfl ⟨⟨_, rfl, ?_⟩, ⟨_, rfl, ?_⟩, ⟨_, rfl, ?_⟩, ⟨_, rfl, ?_⟩, trivial⟩
  ·refine wl_callx (γ := Option Addr × Nat × List ChS) (val := (fun g => .slice g.1 n g.2.1)) (φ := (fun g => g.2.2.map ChS.l = l.map (chB cs sl))) (Y := (fun g => fun wy => SlT csnEnc 1 269 wy g.1 n g.2.2 ∧ Chs 268 g.2.2 wy)) rfl cb220 rfl rfl (fun wx hm => (choicesP_any cs A0 n0 c0 sl A1 n1 c1 l A n c wx (hm.fact 1 rfl).1 hco (by omega) (hm.fact 2 rfl).1 hso (by omega) (hm.fact 3 rfl).1 (by omega) hkeys).mono fun _ _ ⟨A9, c9, cx, he, h1, h2, h3, hg⟩ => ⟨(A9, c9, cx), he, h3, hg, ⟨h1, h2⟩⟩) (fun _ => (SlT.lasts2 rfl).and_ (Chs.lasts rfl)) ?_
   rintro ⟨A9, c9, cx⟩ hcx
   dsimp only at hcx ⊢
   refine wl_nil ?_
   refine nw 18 15231 (fun _ hm => ⟨hm.fa 1, hm.fa 2, hm.fa 3, hm.fa 4, trivial⟩) fun z => ?_
   refine wa_all [7, 10, 14] (by kernel_rfl) rfl ⟨⟨_, rfl, ?_⟩, ⟨_, rfl, ?_⟩, ⟨_, rfl, ?_⟩, trivial⟩
   ·refine wl_makeO (n := n) (sz := 1) (e := 9) (by_ := 16) (z := .string ⟨#[]⟩) (by kernel_rfl) (by kernel_rfl) rfl rfl (by omega) (by omega) (by omega) (by unfold maxLen; omega) (made_flat (enc := sgEnc) (x := (⟨#[]⟩ : ByteArray)) rfl rfl (by decide) (n)) rfl fun g2 => ?_
    refine wl_nil ?_
    refine nw 18 15359 (fun _ hm => ⟨hm.fa 1, hm.fa 2, hm.fa 3, hm.fa 4, trivial⟩) fun z => ?_
    refine wa_all [10, 14] (by kernel_rfl) rfl ⟨⟨_, rfl, ?_⟩, ⟨_, rfl, ?_⟩, trivial⟩
    ·refine wl_makeO (n := n) (sz := 1) (e := 3) (by_ := 8) (z := .int .i64 0) (by kernel_rfl) (by kernel_rfl) rfl rfl (by omega) (by omega) (by omega) (by unfold maxLen; omega) (made_flat (enc := iEnc) (x := (0 : Int)) rfl rfl (by decide) (n)) rfl fun g3 => ?_
     refine wl_nil ?_
     refine nw 18 16383 (fun _ hm => ⟨hm.fa 1, hm.fa 2, hm.fa 3, hm.fa 4, trivial⟩) fun z => ?_
     refine wa1 14 rfl ?_
     refine wl_makeO (n := (n + 1)) (sz := 1) (e := 3) (by_ := 8) (z := .int .i64 0) (by kernel_rfl) (by kernel_rfl) rfl rfl (by omega) (by omega) (by omega) (by unfold maxLen; omega) (made_flat (enc := iEnc) (x := (0 : Int)) rfl rfl (by decide) (n + 1)) rfl fun g4 => ?_
     refine wl_nil ?_
     refine nw 18 32767 (fun _ hm => ⟨hm.fa 1, hm.fa 2, hm.fa 3, hm.fa 4, trivial⟩) fun z => ?_
     refine wt 15 18 65535 rfl z (ov_build (cs := [.slice A n c, .slice A9 n c9, .slice none 0 0, .slice (some ⟨g2, 0, none⟩) n n, .slice (some ⟨g3, 0, none⟩) n n, .slice (some ⟨g4, 0, none⟩) (n + 1) (n + 1), .int .i64 0]) rfl (by kernel_rfl)) ?_
     refine wa1 16 rfl ?_
     refine wl_box rfl rfl rfl fun g5 => ?_
     refine wl_nil ?_
     refine nw 18 131071 (fun _ hm => ⟨hm.fa 1, hm.fa 2, hm.fa 3, hm.fa 4, trivial⟩) fun z => ?_
     refine wt 17 18 262143 rfl z (ov_assign rfl) ?_
     refine wa_done (by kernel_rfl) ?_
     refine nx_also (Y := fun wy => SlT csnEnc 1 269 wy A9 n cx) (SlT.lasts2 rfl) (fun wx hm => (hm.fact 0 rfl).1) ?_
     refine nx_also (Y := fun wy => Chs 268 cx wy) (Chs.lasts rfl) (fun wx hm => (hm.fact 1 rfl).2) ?_
     refine nx_also (Y := fun _ => True) (Lasts2.true_) (fun wx hm => trivial) ?_
     exact nx_meet (A9, c9, cx, g5, g2, g3, g4) hcx ⟨rfl, rfl, rfl, rfl, rfl, trivial⟩ (fun _ hm => hm.pick [0] [2, 1, 0] [5, 6, 7, 2, 1, 0] rfl rfl)
    refine wl_makeO (n := (n + 1)) (sz := 1) (e := 3) (by_ := 8) (z := .int .i64 0) (by kernel_rfl) (by kernel_rfl) rfl rfl (by omega) (by omega) (by omega) (by unfold maxLen; omega) (made_flat (enc := iEnc) (x := (0 : Int)) rfl rfl (by decide) (n + 1)) rfl fun g6 => ?_
    refine wl_nil ?_
    refine nw 18 31743 (fun _ hm => ⟨hm.fa 1, hm.fa 2, hm.fa 3, hm.fa 4, trivial⟩) fun z => ?_
    refine wa1 10 rfl ?_
    refine wl_makeO (n := n) (sz := 1) (e := 3) (by_ := 8) (z := .int .i64 0) (by kernel_rfl) (by kernel_rfl) rfl rfl (by omega) (by omega) (by omega) (by unfold maxLen; omega) (made_flat (enc := iEnc) (x := (0 : Int)) rfl rfl (by decide) (n)) rfl fun g7 => ?_
    refine wl_nil ?_
    refine nw 18 32767 (fun _ hm => ⟨hm.fa 1, hm.fa 2, hm.fa 3, hm.fa 4, trivial⟩) fun z => ?_
    refine wt 15 18 65535 rfl z (ov_build (cs := [.slice A n c, .slice A9 n c9, .slice none 0 0, .slice (some ⟨g2, 0, none⟩) n n, .slice (some ⟨g7, 0, none⟩) n n, .slice (some ⟨g6, 0, none⟩) (n + 1) (n + 1), .int .i64 0]) rfl (by kernel_rfl)) ?_
    refine wa1 16 rfl ?_
    refine wl_box rfl rfl rfl fun g8 => ?_
    refine wl_nil ?_
    refine nw 18 131071 (fun _ hm => ⟨hm.fa 1, hm.fa 2, hm.fa 3, hm.fa 4, trivial⟩) fun z => ?_
    refine wt 17 18 262143 rfl z (ov_assign rfl) ?_
    refine wa_done (by kernel_rfl) ?_
    refine nx_also (Y := fun wy => SlT csnEnc 1 269 wy A9 n cx) (SlT.lasts2 rfl) (fun wx hm => (hm.fact 0 rfl).1) ?_
    refine nx_also (Y := fun wy => Chs 268 cx wy) (Chs.lasts rfl) (fun wx hm => (hm.fact 1 rfl).2) ?_
    refine nx_also (Y := fun _ => True) (Lasts2.true_) (fun wx hm => trivial) ?_
    exact nx_meet (A9, c9, cx, g8, g2, g7, g6) hcx ⟨rfl, rfl, rfl, rfl, rfl, trivial⟩ (fun _ hm => hm.pick [0] [2, 0, 1] [5, 6, 7, 2, 1, 0] rfl rfl)
   ·refine wl_makeO (n := n) (sz := 1) (e := 3) (by_ := 8) (z := .int .i64 0) (by kernel_rfl) (by kernel_rfl) rfl rfl (by omega) (by omega) (by omega) (by unfold maxLen; omega) (made_flat (enc := iEnc) (x := (0 : Int)) rfl rfl (by decide) (n)) rfl fun g9 => ?_
    refine wl_nil ?_
    refine nw 18 16255 (fun _ hm => ⟨hm.fa 1, hm.fa 2, hm.fa 3, hm.fa 4, trivial⟩) fun z => ?_
    refine wa_all [7, 14] (by kernel_rfl) rfl ⟨⟨_, rfl, ?_⟩, ⟨_, rfl, ?_⟩, trivial⟩
    ·refine wl_makeO (n := n) (sz := 1) (e := 9) (by_ := 16) (z := .string ⟨#[]⟩) (by kernel_rfl) (by kernel_rfl) rfl rfl (by omega) (by omega) (by omega) (by unfold maxLen; omega) (made_flat (enc := sgEnc) (x := (⟨#[]⟩ : ByteArray)) rfl rfl (by decide) (n)) rfl fun g10 => ?_
     refine wl_nil ?_
     refine nw 18 16383 (fun _ hm => ⟨hm.fa 1, hm.fa 2, hm.fa 3, hm.fa 4, trivial⟩) fun z => ?_
     refine wa1 14 rfl ?_
     refine wl_makeO (n := (n + 1)) (sz := 1) (e := 3) (by_ := 8) (z := .int .i64 0) (by kernel_rfl) (by kernel_rfl) rfl rfl (by omega) (by omega) (by omega) (by unfold maxLen; omega) (made_flat (enc := iEnc) (x := (0 : Int)) rfl rfl (by decide) (n + 1)) rfl fun g11 => ?_
     refine wl_nil ?_
     refine nw 18 32767 (fun _ hm => ⟨hm.fa 1, hm.fa 2, hm.fa 3, hm.fa 4, trivial⟩) fun z => ?_
     refine wt 15 18 65535 rfl z (ov_build (cs := [.slice A n c, .slice A9 n c9, .slice none 0 0, .slice (some ⟨g10, 0, none⟩) n n, .slice (some ⟨g9, 0, none⟩) n n, .slice (some ⟨g11, 0, none⟩) (n + 1) (n + 1), .int .i64 0]) rfl (by kernel_rfl)) ?_
     refine wa1 16 rfl ?_
     refine wl_box rfl rfl rfl fun g12 => ?_
     refine wl_nil ?_
     refine nw 18 131071 (fun _ hm => ⟨hm.fa 1, hm.fa 2, hm.fa 3, hm.fa 4, trivial⟩) fun z => ?_
     refine wt 17 18 262143 rfl z (ov_assign rfl) ?_
     refine wa_done (by kernel_rfl) ?_
     refine nx_also (Y := fun wy => SlT csnEnc 1 269 wy A9 n cx) (SlT.lasts2 rfl) (fun wx hm => (hm.fact 0 rfl).1) ?_
     refine nx_also (Y := fun wy => Chs 268 cx wy) (Chs.lasts rfl) (fun wx hm => (hm.fact 1 rfl).2) ?_
     refine nx_also (Y := fun _ => True) (Lasts2.true_) (fun wx hm => trivial) ?_
     exact nx_meet (A9, c9, cx, g12, g10, g9, g11) hcx ⟨rfl, rfl, rfl, rfl, rfl, trivial⟩ (fun _ hm => hm.pick [0] [1, 2, 0] [5, 6, 7, 2, 1, 0] rfl rfl)
    refine wl_makeO (n := (n + 1)) (sz := 1) (e := 3) (by_ := 8) (z := .int .i64 0) (by kernel_rfl) (by kernel_rfl) rfl rfl (by omega) (by omega) (by omega) (by unfold maxLen; omega) (made_flat (enc := iEnc) (x := (0 : Int)) rfl rfl (by decide) (n + 1)) rfl fun g13 => ?_
    refine wl_nil ?_
    refine nw 18 32639 (fun _ hm => ⟨hm.fa 1, hm.fa 2, hm.fa 3, hm.fa 4, trivial⟩) fun z => ?_
    refine wa1 7 rfl ?_
    refine wl_makeO (n := n) (sz := 1) (e := 9) (by_ := 16) (z := .string ⟨#[]⟩) (by kernel_rfl) (by kernel_rfl) rfl rfl (by omega) (by omega) (by omega) (by unfold maxLen; omega) (made_flat (enc := sgEnc) (x := (⟨#[]⟩ : ByteArray)) rfl rfl (by decide) (n)) rfl fun g14 => ?_
    refine wl_nil ?_
    refine nw 18 32767 (fun _ hm => ⟨hm.fa 1, hm.fa 2, hm.fa 3, hm.fa 4, trivial⟩) fun z => ?_
    refine wt 15 18 65535 rfl z (ov_build (cs := [.slice A n c, .slice A9 n c9, .slice none 0 0, .slice (some ⟨g14, 0, none⟩) n n, .slice (some ⟨g9, 0, none⟩) n n, .slice (some ⟨g13, 0, none⟩) (n + 1) (n + 1), .int .i64 0]) rfl (by kernel_rfl)) ?_
    refine wa1 16 rfl ?_
    refine wl_box rfl rfl rfl fun g15 => ?_
    refine wl_nil ?_
    refine nw 18 131071 (fun _ hm => ⟨hm.fa 1, hm.fa 2, hm.fa 3, hm.fa 4, trivial⟩) fun z => ?_
    refine wt 17 18 262143 rfl z (ov_assign rfl) ?_
    refine wa_done (by kernel_rfl) ?_
    refine nx_also (Y := fun wy => SlT csnEnc 1 269 wy A9 n cx) (SlT.lasts2 rfl) (fun wx hm => (hm.fact 0 rfl).1) ?_
    refine nx_also (Y := fun wy => Chs 268 cx wy) (Chs.lasts rfl) (fun wx hm => (hm.fact 1 rfl).2) ?_
    refine nx_also (Y := fun _ => True) (Lasts2.true_) (fun wx hm => trivial) ?_
    exact nx_meet (A9, c9, cx, g15, g14, g9, g13) hcx ⟨rfl, rfl, rfl, rfl, rfl, trivial⟩ (fun _ hm => hm.pick [0] [0, 2, 1] [5, 6, 7, 2, 1, 0] rfl rfl)
   refine wl_makeO (n := (n + 1)) (sz := 1) (e := 3) (by_ := 8) (z := .int .i64 0) (by kernel_rfl) (by kernel_rfl) rfl rfl (by omega) (by omega) (by omega) (by unfold maxLen; omega) (made_flat (enc := iEnc) (x := (0 : Int)) rfl rfl (by decide) (n + 1)) rfl fun g16 => ?_
   refine wl_nil ?_
   refine nw 18 31615 (fun _ hm => ⟨hm.fa 1, hm.fa 2, hm.fa 3, hm.fa 4, trivial⟩) fun z => ?_
   refine wa_all [7, 10] (by kernel_rfl) rfl ⟨⟨_, rfl, ?_⟩, ⟨_, rfl, ?_⟩, trivial⟩
   ·refine wl_makeO (n := n) (sz := 1) (e := 9) (by_ := 16) (z := .string ⟨#[]⟩) (by kernel_rfl) (by kernel_rfl) rfl rfl (by omega) (by omega) (by omega) (by unfold maxLen; omega) (made_flat (enc := sgEnc) (x := (⟨#[]⟩ : ByteArray)) rfl rfl (by decide) (n)) rfl fun g17 => ?_
    refine wl_nil ?_
    refine nw 18 31743 (fun _ hm => ⟨hm.fa 1, hm.fa 2, hm.fa 3, hm.fa 4, trivial⟩) fun z => ?_
    refine wa1 10 rfl ?_
    refine wl_makeO (n := n) (sz := 1) (e := 3) (by_ := 8) (z := .int .i64 0) (by kernel_rfl) (by kernel_rfl) rfl rfl (by omega) (by omega) (by omega) (by unfold maxLen; omega) (made_flat (enc := iEnc) (x := (0 : Int)) rfl rfl (by decide) (n)) rfl fun g18 => ?_
    refine wl_nil ?_
    refine nw 18 32767 (fun _ hm => ⟨hm.fa 1, hm.fa 2, hm.fa 3, hm.fa 4, trivial⟩) fun z => ?_
    refine wt 15 18 65535 rfl z (ov_build (cs := [.slice A n c, .slice A9 n c9, .slice none 0 0, .slice (some ⟨g17, 0, none⟩) n n, .slice (some ⟨g18, 0, none⟩) n n, .slice (some ⟨g16, 0, none⟩) (n + 1) (n + 1), .int .i64 0]) rfl (by kernel_rfl)) ?_
    refine wa1 16 rfl ?_
    refine wl_box rfl rfl rfl fun g19 => ?_
    refine wl_nil ?_
    refine nw 18 131071 (fun _ hm => ⟨hm.fa 1, hm.fa 2, hm.fa 3, hm.fa 4, trivial⟩) fun z => ?_
    refine wt 17 18 262143 rfl z (ov_assign rfl) ?_
    refine wa_done (by kernel_rfl) ?_
    refine nx_also (Y := fun wy => SlT csnEnc 1 269 wy A9 n cx) (SlT.lasts2 rfl) (fun wx hm => (hm.fact 0 rfl).1) ?_
    refine nx_also (Y := fun wy => Chs 268 cx wy) (Chs.lasts rfl) (fun wx hm => (hm.fact 1 rfl).2) ?_
    refine nx_also (Y := fun _ => True) (Lasts2.true_) (fun wx hm => trivial) ?_
    exact nx_meet (A9, c9, cx, g19, g17, g18, g16) hcx ⟨rfl, rfl, rfl, rfl, rfl, trivial⟩ (fun _ hm => hm.pick [0] [1, 0, 2] [5, 6, 7, 2, 1, 0] rfl rfl)
   refine wl_makeO (n := n) (sz := 1) (e := 3) (by_ := 8) (z := .int .i64 0) (by kernel_rfl) (by kernel_rfl) rfl rfl (by omega) (by omega) (by omega) (by unfold maxLen; omega) (made_flat (enc := iEnc) (x := (0 : Int)) rfl rfl (by decide) (n)) rfl fun g20 => ?_
   refine wl_nil ?_
   refine nw 18 32639 (fun _ hm => ⟨hm.fa 1, hm.fa 2, hm.fa 3, hm.fa 4, trivial⟩) fun z => ?_
   refine wa1 7 rfl ?_
   refine wl_makeO (n := n) (sz := 1) (e := 9) (by_ := 16) (z := .string ⟨#[]⟩) (by kernel_rfl) (by kernel_rfl) rfl rfl (by omega) (by omega) (by omega) (by unfold maxLen; omega) (made_flat (enc := sgEnc) (x := (⟨#[]⟩ : ByteArray)) rfl rfl (by decide) (n)) rfl fun g21 => ?_
   refine wl_nil ?_
   refine nw 18 32767 (fun _ hm => ⟨hm.fa 1, hm.fa 2, hm.fa 3, hm.fa 4, trivial⟩) fun z => ?_
   refine wt 15 18 65535 rfl z (ov_build (cs := [.slice A n c, .slice A9 n c9, .slice none 0 0, .slice (some ⟨g21, 0, none⟩) n n, .slice (some ⟨g20, 0, none⟩) n n, .slice (some ⟨g16, 0, none⟩) (n + 1) (n + 1), .int .i64 0]) rfl (by kernel_rfl)) ?_
   refine wa1 16 rfl ?_
   refine wl_box rfl rfl rfl fun g22 => ?_
   refine wl_nil ?_
   refine nw 18 131071 (fun _ hm => ⟨hm.fa 1, hm.fa 2, hm.fa 3, hm.fa 4, trivial⟩) fun z => ?_
   refine wt 17 18 262143 rfl z (ov_assign rfl) ?_
   refine wa_done (by kernel_rfl) ?_
   refine nx_also (Y := fun wy => SlT csnEnc 1 269 wy A9 n cx) (SlT.lasts2 rfl) (fun wx hm => (hm.fact 0 rfl).1) ?_
   refine nx_also (Y := fun wy => Chs 268 cx wy) (Chs.lasts rfl) (fun wx hm => (hm.fact 1 rfl).2) ?_
   refine nx_also (Y := fun _ => True) (Lasts2.true_) (fun wx hm => trivial) ?_
   exact nx_meet (A9, c9, cx, g22, g21, g20, g16) hcx ⟨rfl, rfl, rfl, rfl, rfl, trivial⟩ (fun _ hm => hm.pick [0] [0, 1, 2] [5, 6, 7, 2, 1, 0] rfl rfl)
  ·refine wl_makeO (n := n) (sz := 1) (e := 9) (by_ := 16) (z := .string ⟨#[]⟩) (by kernel_rfl) (by kernel_rfl) rfl rfl (by omega) (by omega) (by omega) (by unfold maxLen; omega) (made_flat (enc := sgEnc) (x := (⟨#[]⟩ : ByteArray)) rfl rfl (by decide) (n)) rfl fun g23 => ?_
   refine wl_nil ?_
   refine nw 18 15343 (fun _ hm => ⟨hm.fa 0, hm.fa 1, hm.fa 2, hm.fa 3, trivial⟩) fun z => ?_
   refine wa_all [4, 10, 14] (by kernel_rfl) rfl ⟨⟨_, rfl, ?_⟩, ⟨_, rfl, ?_⟩, ⟨_, rfl, ?_⟩, trivial⟩
   ·refine wl_callx (γ := Option Addr × Nat × List ChS) (val := (fun g => .slice g.1 n g.2.1)) (φ := (fun g => g.2.2.map ChS.l = l.map (chB cs sl))) (Y := (fun g => fun wy => SlT csnEnc 1 269 wy g.1 n g.2.2 ∧ Chs 268 g.2.2 wy)) rfl cb220 rfl rfl (fun wx hm => (choicesP_any cs A0 n0 c0 sl A1 n1 c1 l A n c wx (hm.fact 1 rfl).1 hco (by omega) (hm.fact 2 rfl).1 hso (by omega) (hm.fact 3 rfl).1 (by omega) hkeys).mono fun _ _ ⟨A9, c9, cx, he, h1, h2, h3, hg⟩ => ⟨(A9, c9, cx), he, h3, hg, ⟨h1, h2⟩⟩) (fun _ => (SlT.lasts2 rfl).and_ (Chs.lasts rfl)) ?_
    rintro ⟨A9, c9, cx⟩ hcx
    dsimp only at hcx ⊢
    refine wl_nil ?_
    refine nw 18 15359 (fun _ hm => ⟨hm.fa 1, hm.fa 2, hm.fa 3, hm.fa 4, trivial⟩) fun z => ?_
    refine wa_all [10, 14] (by kernel_rfl) rfl ⟨⟨_, rfl, ?_⟩, ⟨_, rfl, ?_⟩, trivial⟩
    ·refine wl_makeO (n := n) (sz := 1) (e := 3) (by_ := 8) (z := .int .i64 0) (by kernel_rfl) (by kernel_rfl) rfl rfl (by omega) (by omega) (by omega) (by unfold maxLen; omega) (made_flat (enc := iEnc) (x := (0 : Int)) rfl rfl (by decide) (n)) rfl fun g24 => ?_
     refine wl_nil ?_
     refine nw 18 16383 (fun _ hm => ⟨hm.fa 1, hm.fa 2, hm.fa 3, hm.fa 4, trivial⟩) fun z => ?_
     refine wa1 14 rfl ?_
     refine wl_makeO (n := (n + 1)) (sz := 1) (e := 3) (by_ := 8) (z := .int .i64 0) (by kernel_rfl) (by kernel_rfl) rfl rfl (by omega) (by omega) (by omega) (by unfold maxLen; omega) (made_flat (enc := iEnc) (x := (0 : Int)) rfl rfl (by decide) (n + 1)) rfl fun g25 => ?_
     refine wl_nil ?_
     refine nw 18 32767 (fun _ hm => ⟨hm.fa 1, hm.fa 2, hm.fa 3, hm.fa 4, trivial⟩) fun z => ?_
     refine wt 15 18 65535 rfl z (ov_build (cs := [.slice A n c, .slice A9 n c9, .slice none 0 0, .slice (some ⟨g23, 0, none⟩) n n, .slice (some ⟨g24, 0, none⟩) n n, .slice (some ⟨g25, 0, none⟩) (n + 1) (n + 1), .int .i64 0]) rfl (by kernel_rfl)) ?_
     refine wa1 16 rfl ?_
     refine wl_box rfl rfl rfl fun g26 => ?_
     refine wl_nil ?_
     refine nw 18 131071 (fun _ hm => ⟨hm.fa 1, hm.fa 2, hm.fa 3, hm.fa 4, trivial⟩) fun z => ?_
     refine wt 17 18 262143 rfl z (ov_assign rfl) ?_
     refine wa_done (by kernel_rfl) ?_
     refine nx_also (Y := fun wy => SlT csnEnc 1 269 wy A9 n cx) (SlT.lasts2 rfl) (fun wx hm => (hm.fact 0 rfl).1) ?_
     refine nx_also (Y := fun wy => Chs 268 cx wy) (Chs.lasts rfl) (fun wx hm => (hm.fact 1 rfl).2) ?_
     refine nx_also (Y := fun _ => True) (Lasts2.true_) (fun wx hm => trivial) ?_
     exact nx_meet (A9, c9, cx, g26, g23, g24, g25) hcx ⟨rfl, rfl, rfl, rfl, rfl, trivial⟩ (fun _ hm => hm.pick [0] [2, 1, 0] [5, 6, 7, 2, 1, 0] rfl rfl)
    refine wl_makeO (n := (n + 1)) (sz := 1) (e := 3) (by_ := 8) (z := .int .i64 0) (by kernel_rfl) (by kernel_rfl) rfl rfl (by omega) (by omega) (by omega) (by unfold maxLen; omega) (made_flat (enc := iEnc) (x := (0 : Int)) rfl rfl (by decide) (n + 1)) rfl fun g27 => ?_
    refine wl_nil ?_
    refine nw 18 31743 (fun _ hm => ⟨hm.fa 1, hm.fa 2, hm.fa 3, hm.fa 4, trivial⟩) fun z => ?_
    refine wa1 10 rfl ?_
    refine wl_makeO (n := n) (sz := 1) (e := 3) (by_ := 8) (z := .int .i64 0) (by kernel_rfl) (by kernel_rfl) rfl rfl (by omega) (by omega) (by omega) (by unfold maxLen; omega) (made_flat (enc := iEnc) (x := (0 : Int)) rfl rfl (by decide) (n)) rfl fun g28 => ?_
    refine wl_nil ?_
    refine nw 18 32767 (fun _ hm => ⟨hm.fa 1, hm.fa 2, hm.fa 3, hm.fa 4, trivial⟩) fun z => ?_
    refine wt 15 18 65535 rfl z (ov_build (cs := [.slice A n c, .slice A9 n c9, .slice none 0 0, .slice (some ⟨g23, 0, none⟩) n n, .slice (some ⟨g28, 0, none⟩) n n, .slice (some ⟨g27, 0, none⟩) (n + 1) (n + 1), .int .i64 0]) rfl (by kernel_rfl)) ?_
    refine wa1 16 rfl ?_
    refine wl_box rfl rfl rfl fun g29 => ?_
    refine wl_nil ?_
    refine nw 18 131071 (fun _ hm => ⟨hm.fa 1, hm.fa 2, hm.fa 3, hm.fa 4, trivial⟩) fun z => ?_
    refine wt 17 18 262143 rfl z (ov_assign rfl) ?_
    refine wa_done (by kernel_rfl) ?_
    refine nx_also (Y := fun wy => SlT csnEnc 1 269 wy A9 n cx) (SlT.lasts2 rfl) (fun wx hm => (hm.fact 0 rfl).1) ?_
    refine nx_also (Y := fun wy => Chs 268 cx wy) (Chs.lasts rfl) (fun wx hm => (hm.fact 1 rfl).2) ?_
    refine nx_also (Y := fun _ => True) (Lasts2.true_) (fun wx hm => trivial) ?_
    exact nx_meet (A9, c9, cx, g29, g23, g28, g27) hcx ⟨rfl, rfl, rfl, rfl, rfl, trivial⟩ (fun _ hm => hm.pick [0] [2, 0, 1] [5, 6, 7, 2, 1, 0] rfl rfl)
   ·refine wl_makeO (n := n) (sz := 1) (e := 3) (by_ := 8) (z := .int .i64 0) (by kernel_rfl) (by kernel_rfl) rfl rfl (by omega) (by omega) (by omega) (by unfold maxLen; omega) (made_flat (enc := iEnc) (x := (0 : Int)) rfl rfl (by decide) (n)) rfl fun g30 => ?_
    refine wl_nil ?_
    refine nw 18 16367 (fun _ hm => ⟨hm.fa 0, hm.fa 1, hm.fa 2, hm.fa 3, trivial⟩) fun z => ?_
    refine wa_all [4, 14] (by kernel_rfl) rfl ⟨⟨_, rfl, ?_⟩, ⟨_, rfl, ?_⟩, trivial⟩
    ·refine wl_callx (γ := Option Addr × Nat × List ChS) (val := (fun g => .slice g.1 n g.2.1)) (φ := (fun g => g.2.2.map ChS.l = l.map (chB cs sl))) (Y := (fun g => fun wy => SlT csnEnc 1 269 wy g.1 n g.2.2 ∧ Chs 268 g.2.2 wy)) rfl cb220 rfl rfl (fun wx hm => (choicesP_any cs A0 n0 c0 sl A1 n1 c1 l A n c wx (hm.fact 1 rfl).1 hco (by omega) (hm.fact 2 rfl).1 hso (by omega) (hm.fact 3 rfl).1 (by omega) hkeys).mono fun _ _ ⟨A9, c9, cx, he, h1, h2, h3, hg⟩ => ⟨(A9, c9, cx), he, h3, hg, ⟨h1, h2⟩⟩) (fun _ => (SlT.lasts2 rfl).and_ (Chs.lasts rfl)) ?_
     rintro ⟨A9, c9, cx⟩ hcx
     dsimp only at hcx ⊢
     refine wl_nil ?_
     refine nw 18 16383 (fun _ hm => ⟨hm.fa 1, hm.fa 2, hm.fa 3, hm.fa 4, trivial⟩) fun z => ?_
     refine wa1 14 rfl ?_
     refine wl_makeO (n := (n + 1)) (sz := 1) (e := 3) (by_ := 8) (z := .int .i64 0) (by kernel_rfl) (by kernel_rfl) rfl rfl (by omega) (by omega) (by omega) (by unfold maxLen; omega) (made_flat (enc := iEnc) (x := (0 : Int)) rfl rfl (by decide) (n + 1)) rfl fun g31 => ?_
     refine wl_nil ?_
     refine nw 18 32767 (fun _ hm => ⟨hm.fa 1, hm.fa 2, hm.fa 3, hm.fa 4, trivial⟩) fun z => ?_
     refine wt 15 18 65535 rfl z (ov_build (cs := [.slice A n c, .slice A9 n c9, .slice none 0 0, .slice (some ⟨g23, 0, none⟩) n n, .slice (some ⟨g30, 0, none⟩) n n, .slice (some ⟨g31, 0, none⟩) (n + 1) (n + 1), .int .i64 0]) rfl (by kernel_rfl)) ?_
     refine wa1 16 rfl ?_
     refine wl_box rfl rfl rfl fun g32 => ?_
     refine wl_nil ?_
     refine nw 18 131071 (fun _ hm => ⟨hm.fa 1, hm.fa 2, hm.fa 3, hm.fa 4, trivial⟩) fun z => ?_
     refine wt 17 18 262143 rfl z (ov_assign rfl) ?_
     refine wa_done (by kernel_rfl) ?_
     refine nx_also (Y := fun wy => SlT csnEnc 1 269 wy A9 n cx) (SlT.lasts2 rfl) (fun wx hm => (hm.fact 0 rfl).1) ?_
     refine nx_also (Y := fun wy => Chs 268 cx wy) (Chs.lasts rfl) (fun wx hm => (hm.fact 1 rfl).2) ?_
     refine nx_also (Y := fun _ => True) (Lasts2.true_) (fun wx hm => trivial) ?_
     exact nx_meet (A9, c9, cx, g32, g23, g30, g31) hcx ⟨rfl, rfl, rfl, rfl, rfl, trivial⟩ (fun _ hm => hm.pick [0] [2, 1, 0] [5, 6, 7, 2, 1, 0] rfl rfl)
    refine wl_makeO (n := (n + 1)) (sz := 1) (e := 3) (by_ := 8) (z := .int .i64 0) (by kernel_rfl) (by kernel_rfl) rfl rfl (by omega) (by omega) (by omega) (by unfold maxLen; omega) (made_flat (enc := iEnc) (x := (0 : Int)) rfl rfl (by decide) (n + 1)) rfl fun g33 => ?_
    refine wl_nil ?_
    refine nw 18 32751 (fun _ hm => ⟨hm.fa 0, hm.fa 1, hm.fa 2, hm.fa 3, trivial⟩) fun z => ?_
    refine wa1 4 rfl ?_
    refine wl_callx (γ := Option Addr × Nat × List ChS) (val := (fun g => .slice g.1 n g.2.1)) (φ := (fun g => g.2.2.map ChS.l = l.map (chB cs sl))) (Y := (fun g => fun wy => SlT csnEnc 1 269 wy g.1 n g.2.2 ∧ Chs 268 g.2.2 wy)) rfl cb220 rfl rfl (fun wx hm => (choicesP_any cs A0 n0 c0 sl A1 n1 c1 l A n c wx (hm.fact 1 rfl).1 hco (by omega) (hm.fact 2 rfl).1 hso (by omega) (hm.fact 3 rfl).1 (by omega) hkeys).mono fun _ _ ⟨A9, c9, cx, he, h1, h2, h3, hg⟩ => ⟨(A9, c9, cx), he, h3, hg, ⟨h1, h2⟩⟩) (fun _ => (SlT.lasts2 rfl).and_ (Chs.lasts rfl)) ?_
    rintro ⟨A9, c9, cx⟩ hcx
    dsimp only at hcx ⊢
    refine wl_nil ?_
    refine nw 18 32767 (fun _ hm => ⟨hm.fa 1, hm.fa 2, hm.fa 3, hm.fa 4, trivial⟩) fun z => ?_
    refine wt 15 18 65535 rfl z (ov_build (cs := [.slice A n c, .slice A9 n c9, .slice none 0 0, .slice (some ⟨g23, 0, none⟩) n n, .slice (some ⟨g30, 0, none⟩) n n, .slice (some ⟨g33, 0, none⟩) (n + 1) (n + 1), .int .i64 0]) rfl (by kernel_rfl)) ?_
    refine wa1 16 rfl ?_
    refine wl_box rfl rfl rfl fun g34 => ?_
    refine wl_nil ?_
    refine nw 18 131071 (fun _ hm => ⟨hm.fa 1, hm.fa 2, hm.fa 3, hm.fa 4, trivial⟩) fun z => ?_
    refine wt 17 18 262143 rfl z (ov_assign rfl) ?_
    refine wa_done (by kernel_rfl) ?_
    refine nx_also (Y := fun wy => SlT csnEnc 1 269 wy A9 n cx) (SlT.lasts2 rfl) (fun wx hm => (hm.fact 0 rfl).1) ?_
    refine nx_also (Y := fun wy => Chs 268 cx wy) (Chs.lasts rfl) (fun wx hm => (hm.fact 1 rfl).2) ?_
    refine nx_also (Y := fun _ => True) (Lasts2.true_) (fun wx hm => trivial) ?_
    exact nx_meet (A9, c9, cx, g34, g23, g30, g33) hcx ⟨rfl, rfl, rfl, rfl, rfl, trivial⟩ (fun _ hm => hm.pick [0] [2, 1, 0] [5, 6, 7, 2, 1, 0] rfl rfl)
   refine wl_makeO (n := (n + 1)) (sz := 1) (e := 3) (by_ := 8) (z := .int .i64 0) (by kernel_rfl) (by kernel_rfl) rfl rfl (by omega) (by omega) (by omega) (by unfold maxLen; omega) (made_flat (enc := iEnc) (x := (0 : Int)) rfl rfl (by decide) (n + 1)) rfl fun g35 => ?_
   refine wl_nil ?_
   refine nw 18 31727 (fun _ hm => ⟨hm.fa 0, hm.fa 1, hm.fa 2, hm.fa 3, trivial⟩) fun z => ?_
   refine wa_all [4, 10] (by kernel_rfl) rfl ⟨⟨_, rfl, ?_⟩, ⟨_, rfl, ?_⟩, trivial⟩
   ·refine wl_callx (γ := Option Addr × Nat × List ChS) (val := (fun g => .slice g.1 n g.2.1)) (φ := (fun g => g.2.2.map ChS.l = l.map (chB cs sl))) (Y := (fun g => fun wy => SlT csnEnc 1 269 wy g.1 n g.2.2 ∧ Chs 268 g.2.2 wy)) rfl cb220 rfl rfl (fun wx hm => (choicesP_any cs A0 n0 c0 sl A1 n1 c1 l A n c wx (hm.fact 1 rfl).1 hco (by omega) (hm.fact 2 rfl).1 hso (by omega) (hm.fact 3 rfl).1 (by omega) hkeys).mono fun _ _ ⟨A9, c9, cx, he, h1, h2, h3, hg⟩ => ⟨(A9, c9, cx), he, h3, hg, ⟨h1, h2⟩⟩) (fun _ => (SlT.lasts2 rfl).and_ (Chs.lasts rfl)) ?_
    rintro ⟨A9, c9, cx⟩ hcx
    dsimp only at hcx ⊢
    refine wl_nil ?_
    refine nw 18 31743 (fun _ hm => ⟨hm.fa 1, hm.fa 2, hm.fa 3, hm.fa 4, trivial⟩) fun z => ?_
    refine wa1 10 rfl ?_
    refine wl_makeO (n := n) (sz := 1) (e := 3) (by_ := 8) (z := .int .i64 0) (by kernel_rfl) (by kernel_rfl) rfl rfl (by omega) (by omega) (by omega) (by unfold maxLen; omega) (made_flat (enc := iEnc) (x := (0 : Int)) rfl rfl (by decide) (n)) rfl fun g36 => ?_
    refine wl_nil ?_
    refine nw 18 32767 (fun _ hm => ⟨hm.fa 1, hm.fa 2, hm.fa 3, hm.fa 4, trivial⟩) fun z => ?_
    refine wt 15 18 65535 rfl z (ov_build (cs := [.slice A n c, .slice A9 n c9, .slice none 0 0, .slice (some ⟨g23, 0, none⟩) n n, .slice (some ⟨g36, 0, none⟩) n n, .slice (some ⟨g35, 0, none⟩) (n + 1) (n + 1), .int .i64 0]) rfl (by kernel_rfl)) ?_
    refine wa1 16 rfl ?_
    refine wl_box rfl rfl rfl fun g37 => ?_
    refine wl_nil ?_
    refine nw 18 131071 (fun _ hm => ⟨hm.fa 1, hm.fa 2, hm.fa 3, hm.fa 4, trivial⟩) fun z => ?_
    refine wt 17 18 262143 rfl z (ov_assign rfl) ?_
    refine wa_done (by kernel_rfl) ?_
    refine nx_also (Y := fun wy => SlT csnEnc 1 269 wy A9 n cx) (SlT.lasts2 rfl) (fun wx hm => (hm.fact 0 rfl).1) ?_
    refine nx_also (Y := fun wy => Chs 268 cx wy) (Chs.lasts rfl) (fun wx hm => (hm.fact 1 rfl).2) ?_
    refine nx_also (Y := fun _ => True) (Lasts2.true_) (fun wx hm => trivial) ?_
    exact nx_meet (A9, c9, cx, g37, g23, g36, g35) hcx ⟨rfl, rfl, rfl, rfl, rfl, trivial⟩ (fun _ hm => hm.pick [0] [2, 0, 1] [5, 6, 7, 2, 1, 0] rfl rfl)
   refine wl_makeO (n := n) (sz := 1) (e := 3) (by_ := 8) (z := .int .i64 0) (by kernel_rfl) (by kernel_rfl) rfl rfl (by omega) (by omega) (by omega) (by unfold maxLen; omega) (made_flat (enc := iEnc) (x := (0 : Int)) rfl rfl (by decide) (n)) rfl fun g38 => ?_
   refine wl_nil ?_
   refine nw 18 32751 (fun _ hm => ⟨hm.fa 0, hm.fa 1, hm.fa 2, hm.fa 3, trivial⟩) fun z => ?_
   refine wa1 4 rfl ?_
   refine wl_callx (γ := Option Addr × Nat × List ChS) (val := (fun g => .slice g.1 n g.2.1)) (φ := (fun g => g.2.2.map ChS.l = l.map (chB cs sl))) (Y := (fun g => fun wy => SlT csnEnc 1 269 wy g.1 n g.2.2 ∧ Chs 268 g.2.2 wy)) rfl cb220 rfl rfl (fun wx hm => (choicesP_any cs A0 n0 c0 sl A1 n1 c1 l A n c wx (hm.fact 1 rfl).1 hco (by omega) (hm.fact 2 rfl).1 hso (by omega) (hm.fact 3 rfl).1 (by omega) hkeys).mono fun _ _ ⟨A9, c9, cx, he, h1, h2, h3, hg⟩ => ⟨(A9, c9, cx), he, h3, hg, ⟨h1, h2⟩⟩) (fun _ => (SlT.lasts2 rfl).and_ (Chs.lasts rfl)) ?_
   rintro ⟨A9, c9, cx⟩ hcx
   dsimp only at hcx ⊢
   refine wl_nil ?_
   refine nw 18 32767 (fun _ hm => ⟨hm.fa 1, hm.fa 2, hm.fa 3, hm.fa 4, trivial⟩) fun z => ?_
   refine wt 15 18 65535 rfl z (ov_build (cs := [.slice A n c, .slice A9 n c9, .slice none 0 0, .slice (some ⟨g23, 0, none⟩) n n, .slice (some ⟨g38, 0, none⟩) n n, .slice (some ⟨g35, 0, none⟩) (n + 1) (n + 1), .int .i64 0]) rfl (by kernel_rfl)) ?_
   refine wa1 16 rfl ?_
   refine wl_box rfl rfl rfl fun g39 => ?_
   refine wl_nil ?_
   refine nw 18 131071 (fun _ hm => ⟨hm.fa 1, hm.fa 2, hm.fa 3, hm.fa 4, trivial⟩) fun z => ?_
   refine wt 17 18 262143 rfl z (ov_assign rfl) ?_
   refine wa_done (by kernel_rfl) ?_
   refine nx_also (Y := fun wy => SlT csnEnc 1 269 wy A9 n cx) (SlT.lasts2 rfl) (fun wx hm => (hm.fact 0 rfl).1) ?_
   refine nx_also (Y := fun wy => Chs 268 cx wy) (Chs.lasts rfl) (fun wx hm => (hm.fact 1 rfl).2) ?_
   refine nx_also (Y := fun _ => True) (Lasts2.true_) (fun wx hm => trivial) ?_
   exact nx_meet (A9, c9, cx, g39, g23, g38, g35) hcx ⟨rfl, rfl, rfl, rfl, rfl, trivial⟩ (fun _ hm => hm.pick [0] [2, 0, 1] [5, 6, 7, 2, 1, 0] rfl rfl)
  ·refine wl_makeO (n := n) (sz := 1) (e := 3) (by_ := 8) (z := .int .i64 0) (by kernel_rfl) (by kernel_rfl) rfl rfl (by omega) (by omega) (by omega) (by unfold maxLen; omega) (made_flat (enc := iEnc) (x := (0 : Int)) rfl rfl (by decide) (n)) rfl fun g40 => ?_
   refine wl_nil ?_
   refine nw 18 16239 (fun _ hm => ⟨hm.fa 0, hm.fa 1, hm.fa 2, hm.fa 3, trivial⟩) fun z => ?_
   refine wa_all [4, 7, 14] (by kernel_rfl) rfl ⟨⟨_, rfl, ?_⟩, ⟨_, rfl, ?_⟩, ⟨_, rfl, ?_⟩, trivial⟩
   ·refine wl_callx (γ := Option Addr × Nat × List ChS) (val := (fun g => .slice g.1 n g.2.1)) (φ := (fun g => g.2.2.map ChS.l = l.map (chB cs sl))) (Y := (fun g => fun wy => SlT csnEnc 1 269 wy g.1 n g.2.2 ∧ Chs 268 g.2.2 wy)) rfl cb220 rfl rfl (fun wx hm => (choicesP_any cs A0 n0 c0 sl A1 n1 c1 l A n c wx (hm.fact 1 rfl).1 hco (by omega) (hm.fact 2 rfl).1 hso (by omega) (hm.fact 3 rfl).1 (by omega) hkeys).mono fun _ _ ⟨A9, c9, cx, he, h1, h2, h3, hg⟩ => ⟨(A9, c9, cx), he, h3, hg, ⟨h1, h2⟩⟩) (fun _ => (SlT.lasts2 rfl).and_ (Chs.lasts rfl)) ?_
    rintro ⟨A9, c9, cx⟩ hcx
    dsimp only at hcx ⊢
    refine wl_nil ?_
    refine nw 18 16255 (fun _ hm => ⟨hm.fa 1, hm.fa 2, hm.fa 3, hm.fa 4, trivial⟩) fun z => ?_
    refine wa_all [7, 14] (by kernel_rfl) rfl ⟨⟨_, rfl, ?_⟩, ⟨_, rfl, ?_⟩, trivial⟩
    ·refine wl_makeO (n := n) (sz := 1) (e := 9) (by_ := 16) (z := .string ⟨#[]⟩) (by kernel_rfl) (by kernel_rfl) rfl rfl (by omega) (by omega) (by omega) (by unfold maxLen; omega) (made_flat (enc := sgEnc) (x := (⟨#[]⟩ : ByteArray)) rfl rfl (by decide) (n)) rfl fun g41 => ?_
     refine wl_nil ?_
     refine nw 18 16383 (fun _ hm => ⟨hm.fa 1, hm.fa 2, hm.fa 3, hm.fa 4, trivial⟩) fun z => ?_
     refine wa1 14 rfl ?_
     refine wl_makeO (n := (n + 1)) (sz := 1) (e := 3) (by_ := 8) (z := .int .i64 0) (by kernel_rfl) (by kernel_rfl) rfl rfl (by omega) (by omega) (by omega) (by unfold maxLen; omega) (made_flat (enc := iEnc) (x := (0 : Int)) rfl rfl (by decide) (n + 1)) rfl fun g42 => ?_
     refine wl_nil ?_
     refine nw 18 32767 (fun _ hm => ⟨hm.fa 1, hm.fa 2, hm.fa 3, hm.fa 4, trivial⟩) fun z => ?_
     refine wt 15 18 65535 rfl z (ov_build (cs := [.slice A n c, .slice A9 n c9, .slice none 0 0, .slice (some ⟨g41, 0, none⟩) n n, .slice (some ⟨g40, 0, none⟩) n n, .slice (some ⟨g42, 0, none⟩) (n + 1) (n + 1), .int .i64 0]) rfl (by kernel_rfl)) ?_
     refine wa1 16 rfl ?_
     refine wl_box rfl rfl rfl fun g43 => ?_
     refine wl_nil ?_
     refine nw 18 131071 (fun _ hm => ⟨hm.fa 1, hm.fa 2, hm.fa 3, hm.fa 4, trivial⟩) fun z => ?_
     refine wt 17 18 262143 rfl z (ov_assign rfl) ?_
     refine wa_done (by kernel_rfl) ?_
     refine nx_also (Y := fun wy => SlT csnEnc 1 269 wy A9 n cx) (SlT.lasts2 rfl) (fun wx hm => (hm.fact 0 rfl).1) ?_
     refine nx_also (Y := fun wy => Chs 268 cx wy) (Chs.lasts rfl) (fun wx hm => (hm.fact 1 rfl).2) ?_
     refine nx_also (Y := fun _ => True) (Lasts2.true_) (fun wx hm => trivial) ?_
     exact nx_meet (A9, c9, cx, g43, g41, g40, g42) hcx ⟨rfl, rfl, rfl, rfl, rfl, trivial⟩ (fun _ hm => hm.pick [0] [1, 2, 0] [5, 6, 7, 2, 1, 0] rfl rfl)
    refine wl_makeO (n := (n + 1)) (sz := 1) (e := 3) (by_ := 8) (z := .int .i64 0) (by kernel_rfl) (by kernel_rfl) rfl rfl (by omega) (by omega) (by omega) (by unfold maxLen; omega) (made_flat (enc := iEnc) (x := (0 : Int)) rfl rfl (by decide) (n + 1)) rfl fun g44 => ?_
    refine wl_nil ?_
    refine nw 18 32639 (fun _ hm => ⟨hm.fa 1, hm.fa 2, hm.fa 3, hm.fa 4, trivial⟩) fun z => ?_
    refine wa1 7 rfl ?_
    refine wl_makeO (n := n) (sz := 1) (e := 9) (by_ := 16) (z := .string ⟨#[]⟩) (by kernel_rfl) (by kernel_rfl) rfl rfl (by omega) (by omega) (by omega) (by unfold maxLen; omega) (made_flat (enc := sgEnc) (x := (⟨#[]⟩ : ByteArray)) rfl rfl (by decide) (n)) rfl fun g45 => ?_
    refine wl_nil ?_
    refine nw 18 32767 (fun _ hm => ⟨hm.fa 1, hm.fa 2, hm.fa 3, hm.fa 4, trivial⟩) fun z => ?_
    refine wt 15 18 65535 rfl z (ov_build (cs := [.slice A n c, .slice A9 n c9, .slice none 0 0, .slice (some ⟨g45, 0, none⟩) n n, .slice (some ⟨g40, 0, none⟩) n n, .slice (some ⟨g44, 0, none⟩) (n + 1) (n + 1), .int .i64 0]) rfl (by kernel_rfl)) ?_
    refine wa1 16 rfl ?_
    refine wl_box rfl rfl rfl fun g46 => ?_
    refine wl_nil ?_
    refine nw 18 131071 (fun _ hm => ⟨hm.fa 1, hm.fa 2, hm.fa 3, hm.fa 4, trivial⟩) fun z => ?_
    refine wt 17 18 262143 rfl z (ov_assign rfl) ?_
    refine wa_done (by kernel_rfl) ?_
    refine nx_also (Y := fun wy => SlT csnEnc 1 269 wy A9 n cx) (SlT.lasts2 rfl) (fun wx hm => (hm.fact 0 rfl).1) ?_
    refine nx_also (Y := fun wy => Chs 268 cx wy) (Chs.lasts rfl) (fun wx hm => (hm.fact 1 rfl).2) ?_
    refine nx_also (Y := fun _ => True) (Lasts2.true_) (fun wx hm => trivial) ?_
    exact nx_meet (A9, c9, cx, g46, g45, g40, g44) hcx ⟨rfl, rfl, rfl, rfl, rfl, trivial⟩ (fun _ hm => hm.pick [0] [0, 2, 1] [5, 6, 7, 2, 1, 0] rfl rfl)
   ·refine wl_makeO (n := n) (sz := 1) (e := 9) (by_ := 16) (z := .string ⟨#[]⟩) (by kernel_rfl) (by kernel_rfl) rfl rfl (by omega) (by omega) (by omega) (by unfold maxLen; omega) (made_flat (enc := sgEnc) (x := (⟨#[]⟩ : ByteArray)) rfl rfl (by decide) (n)) rfl fun g47 => ?_
    refine wl_nil ?_
    refine nw 18 16367 (fun _ hm => ⟨hm.fa 0, hm.fa 1, hm.fa 2, hm.fa 3, trivial⟩) fun z => ?_
    refine wa_all [4, 14] (by kernel_rfl) rfl ⟨⟨_, rfl, ?_⟩, ⟨_, rfl, ?_⟩, trivial⟩
    ·refine wl_callx (γ := Option Addr × Nat × List ChS) (val := (fun g => .slice g.1 n g.2.1)) (φ := (fun g => g.2.2.map ChS.l = l.map (chB cs sl))) (Y := (fun g => fun wy => SlT csnEnc 1 269 wy g.1 n g.2.2 ∧ Chs 268 g.2.2 wy)) rfl cb220 rfl rfl (fun wx hm => (choicesP_any cs A0 n0 c0 sl A1 n1 c1 l A n c wx (hm.fact 1 rfl).1 hco (by omega) (hm.fact 2 rfl).1 hso (by omega) (hm.fact 3 rfl).1 (by omega) hkeys).mono fun _ _ ⟨A9, c9, cx, he, h1, h2, h3, hg⟩ => ⟨(A9, c9, cx), he, h3, hg, ⟨h1, h2⟩⟩) (fun _ => (SlT.lasts2 rfl).and_ (Chs.lasts rfl)) ?_
     rintro ⟨A9, c9, cx⟩ hcx
     dsimp only at hcx ⊢
     refine wl_nil ?_
     refine nw 18 16383 (fun _ hm => ⟨hm.fa 1, hm.fa 2, hm.fa 3, hm.fa 4, trivial⟩) fun z => ?_
     refine wa1 14 rfl ?_
     refine wl_makeO (n := (n + 1)) (sz := 1) (e := 3) (by_ := 8) (z := .int .i64 0) (by kernel_rfl) (by kernel_rfl) rfl rfl (by omega) (by omega) (by omega) (by unfold maxLen; omega) (made_flat (enc := iEnc) (x := (0 : Int)) rfl rfl (by decide) (n + 1)) rfl fun g48 => ?_
     refine wl_nil ?_
     refine nw 18 32767 (fun _ hm => ⟨hm.fa 1, hm.fa 2, hm.fa 3, hm.fa 4, trivial⟩) fun z => ?_
     refine wt 15 18 65535 rfl z (ov_build (cs := [.slice A n c, .slice A9 n c9, .slice none 0 0, .slice (some ⟨g47, 0, none⟩) n n, .slice (some ⟨g40, 0, none⟩) n n, .slice (some ⟨g48, 0, none⟩) (n + 1) (n + 1), .int .i64 0]) rfl (by kernel_rfl)) ?_
     refine wa1 16 rfl ?_
     refine wl_box rfl rfl rfl fun g49 => ?_
     refine wl_nil ?_
     refine nw 18 131071 (fun _ hm => ⟨hm.fa 1, hm.fa 2, hm.fa 3, hm.fa 4, trivial⟩) fun z => ?_
     refine wt 17 18 262143 rfl z (ov_assign rfl) ?_
     refine wa_done (by kernel_rfl) ?_
     refine nx_also (Y := fun wy => SlT csnEnc 1 269 wy A9 n cx) (SlT.lasts2 rfl) (fun wx hm => (hm.fact 0 rfl).1) ?_
     refine nx_also (Y := fun wy => Chs 268 cx wy) (Chs.lasts rfl) (fun wx hm => (hm.fact 1 rfl).2) ?_
     refine nx_also (Y := fun _ => True) (Lasts2.true_) (fun wx hm => trivial) ?_
     exact nx_meet (A9, c9, cx, g49, g47, g40, g48) hcx ⟨rfl, rfl, rfl, rfl, rfl, trivial⟩ (fun _ hm => hm.pick [0] [1, 2, 0] [5, 6, 7, 2, 1, 0] rfl rfl)
    refine wl_makeO (n := (n + 1)) (sz := 1) (e := 3) (by_ := 8) (z := .int .i64 0) (by kernel_rfl) (by kernel_rfl) rfl rfl (by omega) (by omega) (by omega) (by unfold maxLen; omega) (made_flat (enc := iEnc) (x := (0 : Int)) rfl rfl (by decide) (n + 1)) rfl fun g50 => ?_
    refine wl_nil ?_
    refine nw 18 32751 (fun _ hm => ⟨hm.fa 0, hm.fa 1, hm.fa 2, hm.fa 3, trivial⟩) fun z => ?_
    refine wa1 4 rfl ?_
    refine wl_callx (γ := Option Addr × Nat × List ChS) (val := (fun g => .slice g.1 n g.2.1)) (φ := (fun g => g.2.2.map ChS.l = l.map (chB cs sl))) (Y := (fun g => fun wy => SlT csnEnc 1 269 wy g.1 n g.2.2 ∧ Chs 268 g.2.2 wy)) rfl cb220 rfl rfl (fun wx hm => (choicesP_any cs A0 n0 c0 sl A1 n1 c1 l A n c wx (hm.fact 1 rfl).1 hco (by omega) (hm.fact 2 rfl).1 hso (by omega) (hm.fact 3 rfl).1 (by omega) hkeys).mono fun _ _ ⟨A9, c9, cx, he, h1, h2, h3, hg⟩ => ⟨(A9, c9, cx), he, h3, hg, ⟨h1, h2⟩⟩) (fun _ => (SlT.lasts2 rfl).and_ (Chs.lasts rfl)) ?_
    rintro ⟨A9, c9, cx⟩ hcx
    dsimp only at hcx ⊢
    refine wl_nil ?_
    refine nw 18 32767 (fun _ hm => ⟨hm.fa 1, hm.fa 2, hm.fa 3, hm.fa 4, trivial⟩) fun z => ?_
    refine wt 15 18 65535 rfl z (ov_build (cs := [.slice A n c, .slice A9 n c9, .slice none 0 0, .slice (some ⟨g47, 0, none⟩) n n, .slice (some ⟨g40, 0, none⟩) n n, .slice (some ⟨g50, 0, none⟩) (n + 1) (n + 1), .int .i64 0]) rfl (by kernel_rfl)) ?_
    refine wa1 16 rfl ?_
    refine wl_box rfl rfl rfl fun g51 => ?_
    refine wl_nil ?_
    refine nw 18 131071 (fun _ hm => ⟨hm.fa 1, hm.fa 2, hm.fa 3, hm.fa 4, trivial⟩) fun z => ?_
    refine wt 17 18 262143 rfl z (ov_assign rfl) ?_
    refine wa_done (by kernel_rfl) ?_
    refine nx_also (Y := fun wy => SlT csnEnc 1 269 wy A9 n cx) (SlT.lasts2 rfl) (fun wx hm => (hm.fact 0 rfl).1) ?_
    refine nx_also (Y := fun wy => Chs 268 cx wy) (Chs.lasts rfl) (fun wx hm => (hm.fact 1 rfl).2) ?_
    refine nx_also (Y := fun _ => True) (Lasts2.true_) (fun wx hm => trivial) ?_
    exact nx_meet (A9, c9, cx, g51, g47, g40, g50) hcx ⟨rfl, rfl, rfl, rfl, rfl, trivial⟩ (fun _ hm => hm.pick [0] [1, 2, 0] [5, 6, 7, 2, 1, 0] rfl rfl)
   refine wl_makeO (n := (n + 1)) (sz := 1) (e := 3) (by_ := 8) (z := .int .i64 0) (by kernel_rfl) (by kernel_rfl) rfl rfl (by omega) (by omega) (by omega) (by unfold maxLen; omega) (made_flat (enc := iEnc) (x := (0 : Int)) rfl rfl (by decide) (n + 1)) rfl fun g52 => ?_
   refine wl_nil ?_
   refine nw 18 32623 (fun _ hm => ⟨hm.fa 0, hm.fa 1, hm.fa 2, hm.fa 3, trivial⟩) fun z => ?_
   refine wa_all [4, 7] (by kernel_rfl) rfl ⟨⟨_, rfl, ?_⟩, ⟨_, rfl, ?_⟩, trivial⟩
   ·refine wl_callx (γ := Option Addr × Nat × List ChS) (val := (fun g => .slice g.1 n g.2.1)) (φ := (fun g => g.2.2.map ChS.l = l.map (chB cs sl))) (Y := (fun g => fun wy => SlT csnEnc 1 269 wy g.1 n g.2.2 ∧ Chs 268 g.2.2 wy)) rfl cb220 rfl rfl (fun wx hm => (choicesP_any cs A0 n0 c0 sl A1 n1 c1 l A n c wx (hm.fact 1 rfl).1 hco (by omega) (hm.fact 2 rfl).1 hso (by omega) (hm.fact 3 rfl).1 (by omega) hkeys).mono fun _ _ ⟨A9, c9, cx, he, h1, h2, h3, hg⟩ => ⟨(A9, c9, cx), he, h3, hg, ⟨h1, h2⟩⟩) (fun _ => (SlT.lasts2 rfl).and_ (Chs.lasts rfl)) ?_
    rintro ⟨A9, c9, cx⟩ hcx
    dsimp only at hcx ⊢
    refine wl_nil ?_
    refine nw 18 32639 (fun _ hm => ⟨hm.fa 1, hm.fa 2, hm.fa 3, hm.fa 4, trivial⟩) fun z => ?_
    refine wa1 7 rfl ?_
    refine wl_makeO (n := n) (sz := 1) (e := 9) (by_ := 16) (z := .string ⟨#[]⟩) (by kernel_rfl) (by kernel_rfl) rfl rfl (by omega) (by omega) (by omega) (by unfold maxLen; omega) (made_flat (enc := sgEnc) (x := (⟨#[]⟩ : ByteArray)) rfl rfl (by decide) (n)) rfl fun g53 => ?_
    refine wl_nil ?_
    refine nw 18 32767 (fun _ hm => ⟨hm.fa 1, hm.fa 2, hm.fa 3, hm.fa 4, trivial⟩) fun z => ?_
    refine wt 15 18 65535 rfl z (ov_build (cs := [.slice A n c, .slice A9 n c9, .slice none 0 0, .slice (some ⟨g53, 0, none⟩) n n, .slice (some ⟨g40, 0, none⟩) n n, .slice (some ⟨g52, 0, none⟩) (n + 1) (n + 1), .int .i64 0]) rfl (by kernel_rfl)) ?_
    refine wa1 16 rfl ?_
    refine wl_box rfl rfl rfl fun g54 => ?_
    refine wl_nil ?_
    refine nw 18 131071 (fun _ hm => ⟨hm.fa 1, hm.fa 2, hm.fa 3, hm.fa 4, trivial⟩) fun z => ?_
    refine wt 17 18 262143 rfl z (ov_assign rfl) ?_
    refine wa_done (by kernel_rfl) ?_
    refine nx_also (Y := fun wy => SlT csnEnc 1 269 wy A9 n cx) (SlT.lasts2 rfl) (fun wx hm => (hm.fact 0 rfl).1) ?_
    refine nx_also (Y := fun wy => Chs 268 cx wy) (Chs.lasts rfl) (fun wx hm => (hm.fact 1 rfl).2) ?_
    refine nx_also (Y := fun _ => True) (Lasts2.true_) (fun wx hm => trivial) ?_
    exact nx_meet (A9, c9, cx, g54, g53, g40, g52) hcx ⟨rfl, rfl, rfl, rfl, rfl, trivial⟩ (fun _ hm => hm.pick [0] [0, 2, 1] [5, 6, 7, 2, 1, 0] rfl rfl)
   refine wl_makeO (n := n) (sz := 1) (e := 9) (by_ := 16) (z := .string ⟨#[]⟩) (by kernel_rfl) (by kernel_rfl) rfl rfl (by omega) (by omega) (by omega) (by unfold maxLen; omega) (made_flat (enc := sgEnc) (x := (⟨#[]⟩ : ByteArray)) rfl rfl (by decide) (n)) rfl fun g55 => ?_
   refine wl_nil ?_
   refine nw 18 32751 (fun _ hm => ⟨hm.fa 0, hm.fa 1, hm.fa 2, hm.fa 3, trivial⟩) fun z => ?_
   refine wa1 4 rfl ?_
   refine wl_callx (γ := Option Addr × Nat × List ChS) (val := (fun g => .slice g.1 n g.2.1)) (φ := (fun g => g.2.2.map ChS.l = l.map (chB cs sl))) (Y := (fun g => fun wy => SlT csnEnc 1 269 wy g.1 n g.2.2 ∧ Chs 268 g.2.2 wy)) rfl cb220 rfl rfl (fun wx hm => (choicesP_any cs A0 n0 c0 sl A1 n1 c1 l A n c wx (hm.fact 1 rfl).1 hco (by omega) (hm.fact 2 rfl).1 hso (by omega) (hm.fact 3 rfl).1 (by omega) hkeys).mono fun _ _ ⟨A9, c9, cx, he, h1, h2, h3, hg⟩ => ⟨(A9, c9, cx), he, h3, hg, ⟨h1, h2⟩⟩) (fun _ => (SlT.lasts2 rfl).and_ (Chs.lasts rfl)) ?_
   rintro ⟨A9, c9, cx⟩ hcx
   dsimp only at hcx ⊢
   refine wl_nil ?_
   refine nw 18 32767 (fun _ hm => ⟨hm.fa 1, hm.fa 2, hm.fa 3, hm.fa 4, trivial⟩) fun z => ?_
   refine wt 15 18 65535 rfl z (ov_build (cs := [.slice A n c, .slice A9 n c9, .slice none 0 0, .slice (some ⟨g55, 0, none⟩) n n, .slice (some ⟨g40, 0, none⟩) n n, .slice (some ⟨g52, 0, none⟩) (n + 1) (n + 1), .int .i64 0]) rfl (by kernel_rfl)) ?_
   refine wa1 16 rfl ?_
   refine wl_box rfl rfl rfl fun g56 => ?_
   refine wl_nil ?_
   refine nw 18 131071 (fun _ hm => ⟨hm.fa 1, hm.fa 2, hm.fa 3, hm.fa 4, trivial⟩) fun z => ?_
   refine wt 17 18 262143 rfl z (ov_assign rfl) ?_
   refine wa_done (by kernel_rfl) ?_
   refine nx_also (Y := fun wy => SlT csnEnc 1 269 wy A9 n cx) (SlT.lasts2 rfl) (fun wx hm => (hm.fact 0 rfl).1) ?_
   refine nx_also (Y := fun wy => Chs 268 cx wy) (Chs.lasts rfl) (fun wx hm => (hm.fact 1 rfl).2) ?_
   refine nx_also (Y := fun _ => True) (Lasts2.true_) (fun wx hm => trivial) ?_
   exact nx_meet (A9, c9, cx, g56, g55, g40, g52) hcx ⟨rfl, rfl, rfl, rfl, rfl, trivial⟩ (fun _ hm => hm.pick [0] [0, 2, 1] [5, 6, 7, 2, 1, 0] rfl rfl)
  refine wl_makeO (n := (n + 1)) (sz := 1) (e := 3) (by_ := 8) (z := .int .i64 0) (by kernel_rfl) (by kernel_rfl) rfl rfl (by omega) (by omega) (by omega) (by unfold maxLen; omega) (made_flat (enc := iEnc) (x := (0 : Int)) rfl rfl (by decide) (n + 1)) rfl fun g57 => ?_
  refine wl_nil ?_
  refine nw 18 31599 (fun _ hm => ⟨hm.fa 0, hm.fa 1, hm.fa 2, hm.fa 3, trivial⟩) fun z => ?_
  refine wa_all [4, 7, 10] (by kernel_rfl) rfl ⟨⟨_, rfl, ?_⟩, ⟨_, rfl, ?_⟩, ⟨_, rfl, ?_⟩, trivial⟩
  ·refine wl_callx (γ := Option Addr × Nat × List ChS) (val := (fun g => .slice g.1 n g.2.1)) (φ := (fun g => g.2.2.map ChS.l = l.map (chB cs sl))) (Y := (fun g => fun wy => SlT csnEnc 1 269 wy g.1 n g.2.2 ∧ Chs 268 g.2.2 wy)) rfl cb220 rfl rfl (fun wx hm => (choicesP_any cs A0 n0 c0 sl A1 n1 c1 l A n c wx (hm.fact 1 rfl).1 hco (by omega) (hm.fact 2 rfl).1 hso (by omega) (hm.fact 3 rfl).1 (by omega) hkeys).mono fun _ _ ⟨A9, c9, cx, he, h1, h2, h3, hg⟩ => ⟨(A9, c9, cx), he, h3, hg, ⟨h1, h2⟩⟩) (fun _ => (SlT.lasts2 rfl).and_ (Chs.lasts rfl)) ?_
   rintro ⟨A9, c9, cx⟩ hcx
   dsimp only at hcx ⊢
   refine wl_nil ?_
   refine nw 18 31615 (fun _ hm => ⟨hm.fa 1, hm.fa 2, hm.fa 3, hm.fa 4, trivial⟩) fun z => ?_
   refine wa_all [7, 10] (by kernel_rfl) rfl ⟨⟨_, rfl, ?_⟩, ⟨_, rfl, ?_⟩, trivial⟩
   ·refine wl_makeO (n := n) (sz := 1) (e := 9) (by_ := 16) (z := .string ⟨#[]⟩) (by kernel_rfl) (by kernel_rfl) rfl rfl (by omega) (by omega) (by omega) (by unfold maxLen; omega) (made_flat (enc := sgEnc) (x := (⟨#[]⟩ : ByteArray)) rfl rfl (by decide) (n)) rfl fun g58 => ?_
    refine wl_nil ?_
    refine nw 18 31743 (fun _ hm => ⟨hm.fa 1, hm.fa 2, hm.fa 3, hm.fa 4, trivial⟩) fun z => ?_
    refine wa1 10 rfl ?_
    refine wl_makeO (n := n) (sz := 1) (e := 3) (by_ := 8) (z := .int .i64 0) (by kernel_rfl) (by kernel_rfl) rfl rfl (by omega) (by omega) (by omega) (by unfold maxLen; omega) (made_flat (enc := iEnc) (x := (0 : Int)) rfl rfl (by decide) (n)) rfl fun g59 => ?_
    refine wl_nil ?_
    refine nw 18 32767 (fun _ hm => ⟨hm.fa 1, hm.fa 2, hm.fa 3, hm.fa 4, trivial⟩) fun z => ?_
    refine wt 15 18 65535 rfl z (ov_build (cs := [.slice A n c, .slice A9 n c9, .slice none 0 0, .slice (some ⟨g58, 0, none⟩) n n, .slice (some ⟨g59, 0, none⟩) n n, .slice (some ⟨g57, 0, none⟩) (n + 1) (n + 1), .int .i64 0]) rfl (by kernel_rfl)) ?_
    refine wa1 16 rfl ?_
    refine wl_box rfl rfl rfl fun g60 => ?_
    refine wl_nil ?_
    refine nw 18 131071 (fun _ hm => ⟨hm.fa 1, hm.fa 2, hm.fa 3, hm.fa 4, trivial⟩) fun z => ?_
    refine wt 17 18 262143 rfl z (ov_assign rfl) ?_
    refine wa_done (by kernel_rfl) ?_
    refine nx_also (Y := fun wy => SlT csnEnc 1 269 wy A9 n cx) (SlT.lasts2 rfl) (fun wx hm => (hm.fact 0 rfl).1) ?_
    refine nx_also (Y := fun wy => Chs 268 cx wy) (Chs.lasts rfl) (fun wx hm => (hm.fact 1 rfl).2) ?_
    refine nx_also (Y := fun _ => True) (Lasts2.true_) (fun wx hm => trivial) ?_
    exact nx_meet (A9, c9, cx, g60, g58, g59, g57) hcx ⟨rfl, rfl, rfl, rfl, rfl, trivial⟩ (fun _ hm => hm.pick [0] [1, 0, 2] [5, 6, 7, 2, 1, 0] rfl rfl)
   refine wl_makeO (n := n) (sz := 1) (e := 3) (by_ := 8) (z := .int .i64 0) (by kernel_rfl) (by kernel_rfl) rfl rfl (by omega) (by omega) (by omega) (by unfold maxLen; omega) (made_flat (enc := iEnc) (x := (0 : Int)) rfl rfl (by decide) (n)) rfl fun g61 => ?_
   refine wl_nil ?_
   refine nw 18 32639 (fun _ hm => ⟨hm.fa 1, hm.fa 2, hm.fa 3, hm.fa 4, trivial⟩) fun z => ?_
   refine wa1 7 rfl ?_
   refine wl_makeO (n := n) (sz := 1) (e := 9) (by_ := 16) (z := .string ⟨#[]⟩) (by kernel_rfl) (by kernel_rfl) rfl rfl (by omega) (by omega) (by omega) (by unfold maxLen; omega) (made_flat (enc := sgEnc) (x := (⟨#[]⟩ : ByteArray)) rfl rfl (by decide) (n)) rfl fun g62 => ?_
   refine wl_nil ?_
   refine nw 18 32767 (fun _ hm => ⟨hm.fa 1, hm.fa 2, hm.fa 3, hm.fa 4, trivial⟩) fun z => ?_
   refine wt 15 18 65535 rfl z (ov_build (cs := [.slice A n c, .slice A9 n c9, .slice none 0 0, .slice (some ⟨g62, 0, none⟩) n n, .slice (some ⟨g61, 0, none⟩) n n, .slice (some ⟨g57, 0, none⟩) (n + 1) (n + 1), .int .i64 0]) rfl (by kernel_rfl)) ?_
   refine wa1 16 rfl ?_
   refine wl_box rfl rfl rfl fun g63 => ?_
   refine wl_nil ?_
   refine nw 18 131071 (fun _ hm => ⟨hm.fa 1, hm.fa 2, hm.fa 3, hm.fa 4, trivial⟩) fun z => ?_
   refine wt 17 18 262143 rfl z (ov_assign rfl) ?_
   refine wa_done (by kernel_rfl) ?_
   refine nx_also (Y := fun wy => SlT csnEnc 1 269 wy A9 n cx) (SlT.lasts2 rfl) (fun wx hm => (hm.fact 0 rfl).1) ?_
   refine nx_also (Y := fun wy => Chs 268 cx wy) (Chs.lasts rfl) (fun wx hm => (hm.fact 1 rfl).2) ?_
   refine nx_also (Y := fun _ => True) (Lasts2.true_) (fun wx hm => trivial) ?_
   exact nx_meet (A9, c9, cx, g63, g62, g61, g57) hcx ⟨rfl, rfl, rfl, rfl, rfl, trivial⟩ (fun _ hm => hm.pick [0] [0, 1, 2] [5, 6, 7, 2, 1, 0] rfl rfl)
  ·refine wl_makeO (n := n) (sz := 1) (e := 9) (by_ := 16) (z := .string ⟨#[]⟩) (by kernel_rfl) (by kernel_rfl) rfl rfl (by omega) (by omega) (by omega) (by unfold maxLen; omega) (made_flat (enc := sgEnc) (x := (⟨#[]⟩ : ByteArray)) rfl rfl (by decide) (n)) rfl fun g64 => ?_
   refine wl_nil ?_
   refine nw 18 31727 (fun _ hm => ⟨hm.fa 0, hm.fa 1, hm.fa 2, hm.fa 3, trivial⟩) fun z => ?_
   refine wa_all [4, 10] (by kernel_rfl) rfl ⟨⟨_, rfl, ?_⟩, ⟨_, rfl, ?_⟩, trivial⟩
   ·refine wl_callx (γ := Option Addr × Nat × List ChS) (val := (fun g => .slice g.1 n g.2.1)) (φ := (fun g => g.2.2.map ChS.l = l.map (chB cs sl))) (Y := (fun g => fun wy => SlT csnEnc 1 269 wy g.1 n g.2.2 ∧ Chs 268 g.2.2 wy)) rfl cb220 rfl rfl (fun wx hm => (choicesP_any cs A0 n0 c0 sl A1 n1 c1 l A n c wx (hm.fact 1 rfl).1 hco (by omega) (hm.fact 2 rfl).1 hso (by omega) (hm.fact 3 rfl).1 (by omega) hkeys).mono fun _ _ ⟨A9, c9, cx, he, h1, h2, h3, hg⟩ => ⟨(A9, c9, cx), he, h3, hg, ⟨h1, h2⟩⟩) (fun _ => (SlT.lasts2 rfl).and_ (Chs.lasts rfl)) ?_
    rintro ⟨A9, c9, cx⟩ hcx
    dsimp only at hcx ⊢
    refine wl_nil ?_
    refine nw 18 31743 (fun _ hm => ⟨hm.fa 1, hm.fa 2, hm.fa 3, hm.fa 4, trivial⟩) fun z => ?_
    refine wa1 10 rfl ?_
    refine wl_makeO (n := n) (sz := 1) (e := 3) (by_ := 8) (z := .int .i64 0) (by kernel_rfl) (by kernel_rfl) rfl rfl (by omega) (by omega) (by omega) (by unfold maxLen; omega) (made_flat (enc := iEnc) (x := (0 : Int)) rfl rfl (by decide) (n)) rfl fun g65 => ?_
    refine wl_nil ?_
    refine nw 18 32767 (fun _ hm => ⟨hm.fa 1, hm.fa 2, hm.fa 3, hm.fa 4, trivial⟩) fun z => ?_
    refine wt 15 18 65535 rfl z (ov_build (cs := [.slice A n c, .slice A9 n c9, .slice none 0 0, .slice (some ⟨g64, 0, none⟩) n n, .slice (some ⟨g65, 0, none⟩) n n, .slice (some ⟨g57, 0, none⟩) (n + 1) (n + 1), .int .i64 0]) rfl (by kernel_rfl)) ?_
    refine wa1 16 rfl ?_
    refine wl_box rfl rfl rfl fun g66 => ?_
    refine wl_nil ?_
    refine nw 18 131071 (fun _ hm => ⟨hm.fa 1, hm.fa 2, hm.fa 3, hm.fa 4, trivial⟩) fun z => ?_
    refine wt 17 18 262143 rfl z (ov_assign rfl) ?_
    refine wa_done (by kernel_rfl) ?_
    refine nx_also (Y := fun wy => SlT csnEnc 1 269 wy A9 n cx) (SlT.lasts2 rfl) (fun wx hm => (hm.fact 0 rfl).1) ?_
    refine nx_also (Y := fun wy => Chs 268 cx wy) (Chs.lasts rfl) (fun wx hm => (hm.fact 1 rfl).2) ?_
    refine nx_also (Y := fun _ => True) (Lasts2.true_) (fun wx hm => trivial) ?_
    exact nx_meet (A9, c9, cx, g66, g64, g65, g57) hcx ⟨rfl, rfl, rfl, rfl, rfl, trivial⟩ (fun _ hm => hm.pick [0] [1, 0, 2] [5, 6, 7, 2, 1, 0] rfl rfl)
   refine wl_makeO (n := n) (sz := 1) (e := 3) (by_ := 8) (z := .int .i64 0) (by kernel_rfl) (by kernel_rfl) rfl rfl (by omega) (by omega) (by omega) (by unfold maxLen; omega) (made_flat (enc := iEnc) (x := (0 : Int)) rfl rfl (by decide) (n)) rfl fun g67 => ?_
   refine wl_nil ?_
   refine nw 18 32751 (fun _ hm => ⟨hm.fa 0, hm.fa 1, hm.fa 2, hm.fa 3, trivial⟩) fun z => ?_
   refine wa1 4 rfl ?_
   refine wl_callx (γ := Option Addr × Nat × List ChS) (val := (fun g => .slice g.1 n g.2.1)) (φ := (fun g => g.2.2.map ChS.l = l.map (chB cs sl))) (Y := (fun g => fun wy => SlT csnEnc 1 269 wy g.1 n g.2.2 ∧ Chs 268 g.2.2 wy)) rfl cb220 rfl rfl (fun wx hm => (choicesP_any cs A0 n0 c0 sl A1 n1 c1 l A n c wx (hm.fact 1 rfl).1 hco (by omega) (hm.fact 2 rfl).1 hso (by omega) (hm.fact 3 rfl).1 (by omega) hkeys).mono fun _ _ ⟨A9, c9, cx, he, h1, h2, h3, hg⟩ => ⟨(A9, c9, cx), he, h3, hg, ⟨h1, h2⟩⟩) (fun _ => (SlT.lasts2 rfl).and_ (Chs.lasts rfl)) ?_
   rintro ⟨A9, c9, cx⟩ hcx
   dsimp only at hcx ⊢
   refine wl_nil ?_
   refine nw 18 32767 (fun _ hm => ⟨hm.fa 1, hm.fa 2, hm.fa 3, hm.fa 4, trivial⟩) fun z => ?_
   refine wt 15 18 65535 rfl z (ov_build (cs := [.slice A n c, .slice A9 n c9, .slice none 0 0, .slice (some ⟨g64, 0, none⟩) n n, .slice (some ⟨g67, 0, none⟩) n n, .slice (some ⟨g57, 0, none⟩) (n + 1) (n + 1), .int .i64 0]) rfl (by kernel_rfl)) ?_
   refine wa1 16 rfl ?_
   refine wl_box rfl rfl rfl fun g68 => ?_
   refine wl_nil ?_
   refine nw 18 131071 (fun _ hm => ⟨hm.fa 1, hm.fa 2, hm.fa 3, hm.fa 4, trivial⟩) fun z => ?_
   refine wt 17 18 262143 rfl z (ov_assign rfl) ?_
   refine wa_done (by kernel_rfl) ?_
   refine nx_also (Y := fun wy => SlT csnEnc 1 269 wy A9 n cx) (SlT.lasts2 rfl) (fun wx hm => (hm.fact 0 rfl).1) ?_
   refine nx_also (Y := fun wy => Chs 268 cx wy) (Chs.lasts rfl) (fun wx hm => (hm.fact 1 rfl).2) ?_
   refine nx_also (Y := fun _ => True) (Lasts2.true_) (fun wx hm => trivial) ?_
   exact nx_meet (A9, c9, cx, g68, g64, g67, g57) hcx ⟨rfl, rfl, rfl, rfl, rfl, trivial⟩ (fun _ hm => hm.pick [0] [1, 0, 2] [5, 6, 7, 2, 1, 0] rfl rfl)
  refine wl_makeO (n := n) (sz := 1) (e := 3) (by_ := 8) (z := .int .i64 0) (by kernel_rfl) (by kernel_rfl) rfl rfl (by omega) (by omega) (by omega) (by unfold maxLen; omega) (made_flat (enc := iEnc) (x := (0 : Int)) rfl rfl (by decide) (n)) rfl fun g69 => ?_
  refine wl_nil ?_
  refine nw 18 32623 (fun _ hm => ⟨hm.fa 0, hm.fa 1, hm.fa 2, hm.fa 3, trivial⟩) fun z => ?_
  refine wa_all [4, 7] (by kernel_rfl) rfl ⟨⟨_, rfl, ?_⟩, ⟨_, rfl, ?_⟩, trivial⟩
  ·refine wl_callx (γ := Option Addr × Nat × List ChS) (val := (fun g => .slice g.1 n g.2.1)) (φ := (fun g => g.2.2.map ChS.l = l.map (chB cs sl))) (Y := (fun g => fun wy => SlT csnEnc 1 269 wy g.1 n g.2.2 ∧ Chs 268 g.2.2 wy)) rfl cb220 rfl rfl (fun wx hm => (choicesP_any cs A0 n0 c0 sl A1 n1 c1 l A n c wx (hm.fact 1 rfl).1 hco (by omega) (hm.fact 2 rfl).1 hso (by omega) (hm.fact 3 rfl).1 (by omega) hkeys).mono fun _ _ ⟨A9, c9, cx, he, h1, h2, h3, hg⟩ => ⟨(A9, c9, cx), he, h3, hg, ⟨h1, h2⟩⟩) (fun _ => (SlT.lasts2 rfl).and_ (Chs.lasts rfl)) ?_
   rintro ⟨A9, c9, cx⟩ hcx
   dsimp only at hcx ⊢
   refine wl_nil ?_
   refine nw 18 32639 (fun _ hm => ⟨hm.fa 1, hm.fa 2, hm.fa 3, hm.fa 4, trivial⟩) fun z => ?_
   refine wa1 7 rfl ?_
   refine wl_makeO (n := n) (sz := 1) (e := 9) (by_ := 16) (z := .string ⟨#[]⟩) (by kernel_rfl) (by kernel_rfl) rfl rfl (by omega) (by omega) (by omega) (by unfold maxLen; omega) (made_flat (enc := sgEnc) (x := (⟨#[]⟩ : ByteArray)) rfl rfl (by decide) (n)) rfl fun g70 => ?_
   refine wl_nil ?_
   refine nw 18 32767 (fun _ hm => ⟨hm.fa 1, hm.fa 2, hm.fa 3, hm.fa 4, trivial⟩) fun z => ?_
   refine wt 15 18 65535 rfl z (ov_build (cs := [.slice A n c, .slice A9 n c9, .slice none 0 0, .slice (some ⟨g70, 0, none⟩) n n, .slice (some ⟨g69, 0, none⟩) n n, .slice (some ⟨g57, 0, none⟩) (n + 1) (n + 1), .int .i64 0]) rfl (by kernel_rfl)) ?_
   refine wa1 16 rfl ?_
   refine wl_box rfl rfl rfl fun g71 => ?_
   refine wl_nil ?_
   refine nw 18 131071 (fun _ hm => ⟨hm.fa 1, hm.fa 2, hm.fa 3, hm.fa 4, trivial⟩) fun z => ?_
   refine wt 17 18 262143 rfl z (ov_assign rfl) ?_
   refine wa_done (by kernel_rfl) ?_
   refine nx_also (Y := fun wy => SlT csnEnc 1 269 wy A9 n cx) (SlT.lasts2 rfl) (fun wx hm => (hm.fact 0 rfl).1) ?_
   refine nx_also (Y := fun wy => Chs 268 cx wy) (Chs.lasts rfl) (fun wx hm => (hm.fact 1 rfl).2) ?_
   refine nx_also (Y := fun _ => True) (Lasts2.true_) (fun wx hm => trivial) ?_
   exact nx_meet (A9, c9, cx, g71, g70, g69, g57) hcx ⟨rfl, rfl, rfl, rfl, rfl, trivial⟩ (fun _ hm => hm.pick [0] [0, 1, 2] [5, 6, 7, 2, 1, 0] rfl rfl)
  refine wl_makeO (n := n) (sz := 1) (e := 9) (by_ := 16) (z := .string ⟨#[]⟩) (by kernel_rfl) (by kernel_rfl) rfl rfl (by omega) (by omega) (by omega) (by unfold maxLen; omega) (made_flat (enc := sgEnc) (x := (⟨#[]⟩ : ByteArray)) rfl rfl (by decide) (n)) rfl fun g72 => ?_
  refine wl_nil ?_
  refine nw 18 32751 (fun _ hm => ⟨hm.fa 0, hm.fa 1, hm.fa 2, hm.fa 3, trivial⟩) fun z => ?_
  refine wa1 4 rfl ?_
  refine wl_callx (γ := Option Addr × Nat × List ChS) (val := (fun g => .slice g.1 n g.2.1)) (φ := (fun g => g.2.2.map ChS.l = l.map (chB cs sl))) (Y := (fun g => fun wy => SlT csnEnc 1 269 wy g.1 n g.2.2 ∧ Chs 268 g.2.2 wy)) rfl cb220 rfl rfl (fun wx hm => (choicesP_any cs A0 n0 c0 sl A1 n1 c1 l A n c wx (hm.fact 1 rfl).1 hco (by omega) (hm.fact 2 rfl).1 hso (by omega) (hm.fact 3 rfl).1 (by omega) hkeys).mono fun _ _ ⟨A9, c9, cx, he, h1, h2, h3, hg⟩ => ⟨(A9, c9, cx), he, h3, hg, ⟨h1, h2⟩⟩) (fun _ => (SlT.lasts2 rfl).and_ (Chs.lasts rfl)) ?_
  rintro ⟨A9, c9, cx⟩ hcx
  dsimp only at hcx ⊢
  refine wl_nil ?_
  refine nw 18 32767 (fun _ hm => ⟨hm.fa 1, hm.fa 2, hm.fa 3, hm.fa 4, trivial⟩) fun z => ?_
  refine wt 15 18 65535 rfl z (ov_build (cs := [.slice A n c, .slice A9 n c9, .slice none 0 0, .slice (some ⟨g72, 0, none⟩) n n, .slice (some ⟨g69, 0, none⟩) n n, .slice (some ⟨g57, 0, none⟩) (n + 1) (n + 1), .int .i64 0]) rfl (by kernel_rfl)) ?_
  refine wa1 16 rfl ?_
  refine wl_box rfl rfl rfl fun g73 => ?_
  refine wl_nil ?_
  refine nw 18 131071 (fun _ hm => ⟨hm.fa 1, hm.fa 2, hm.fa 3, hm.fa 4, trivial⟩) fun z => ?_
  refine wt 17 18 262143 rfl z (ov_assign rfl) ?_
  refine wa_done (by kernel_rfl) ?_
  refine nx_also (Y := fun wy => SlT csnEnc 1 269 wy A9 n cx) (SlT.lasts2 rfl) (fun wx hm => (hm.fact 0 rfl).1) ?_
  refine nx_also (Y := fun wy => Chs 268 cx wy) (Chs.lasts rfl) (fun wx hm => (hm.fact 1 rfl).2) ?_
  refine nx_also (Y := fun _ => True) (Lasts2.true_) (fun wx hm => trivial) ?_
  exact nx_meet (A9, c9, cx, g73, g72, g69, g57) hcx ⟨rfl, rfl, rfl, rfl, rfl, trivial⟩ (fun _ hm => hm.pick [0] [0, 1, 2] [5, 6, 7, 2, 1, 0] rfl rfl)
 rintro ⟨A9, c9, cx, gx, gc, gu, gr⟩ hinv
 replace hinv : cx.map ChS.l = l.map (chB cs sl) := hinv
 dsimp only
 refine gw_seq (sr_ ?_)
 have hcx : cx.map ChS.l = l.map (chB cs sl) := hinv
 have hcxl : cx.length = n := by have h := congrArg List.length hcx; rw [List.length_map, List.length_map] at h; omega
 refine wl_look (R := (∀ x ∈ cx, x.l.length = x.n) ∧ (0 < n → ∃ b9 o9, A9 = some ⟨b9, o9, none⟩) ∧ ∀ x ∈ cx, 0 < x.n → ∃ bi oi, x.A = some ⟨bi, oi, none⟩) (fun wx hm => ⟨fun x hx => ((hm.fact 4 rfl) x hx).len, fun h0 => by
  obtain ⟨b9, o9, e, _⟩ := (hm.fact 3 rfl).get h0
  exact ⟨b9, o9, e⟩, fun x hx h0 => by
  obtain ⟨b9, o9, e, _⟩ := ((hm.fact 4 rfl) x hx).get h0
  exact ⟨b9, o9, e⟩⟩) ?_
 rintro ⟨hcn, h9, hin⟩
 refine wl_nilOwn 3 1 ?_
 refine mv_ rfl (wl_ov (ov_len es76 rfl) rfl (mv_ rfl (nn_ (gw_block ?_))))
 refine gw_loop (γ := Nat × Value) (fun g => g.1 ≤ n) (fun g => [(2, .slice A n c), (6, .slice none 0 0), (7, .bool false), (8, .int .i64 ((k : Nat) : Int)), (9, .pointer (some ⟨gx, 0, none⟩)), (39, .int .i64 ((n : Nat) : Int)), (40, .int .i64 ((g.1 : Nat) : Int))]) (fun g => fun _ => True) (fun g => [(gx, 266, [.slice A n c, .slice A9 n c9, g.2, .slice (some ⟨gc, 0, none⟩) n n, .slice (some ⟨gu, 0, none⟩) n n, .slice (some ⟨gr, 0, none⟩) (n + 1) (n + 1), .int .i64 0])]) (fun g => [⟨g.2, 3, 1, g.1, (List.range g.1).flatMap nEnc⟩, ⟨.slice (some ⟨gc, 0, none⟩) n n, 9, 1, n, (List.replicate (n) (⟨#[]⟩ : ByteArray)).flatMap sgEnc⟩, ⟨.slice (some ⟨gu, 0, none⟩) n n, 3, 1, n, (List.replicate (n) (0 : Int)).flatMap iEnc⟩, ⟨.slice (some ⟨gr, 0, none⟩) (n + 1) (n + 1), 3, 1, (n + 1), (List.replicate (n + 1) (0 : Int)).flatMap iEnc⟩]) (fun g => [SlOld csEnc 2 158 w.heap.size none A0 n0 cs, SlOld skEnc 2 211 w.heap.size none A1 n1 sl, SlOld bkEnc 6 92 w.heap.size none A n l, fun wy => SlT csnEnc 1 269 wy A9 n cx, fun wy => Chs 268 cx wy, fun _ => True]) (fun g => n - g.1) (0, .slice none 0 0) (Nat.zero_le _) ⟨rfl, rfl, rfl, rfl, rfl, rfl, rfl, trivial⟩ (fun _ hm => hm.pick [0] [0, 1, 2, 3] [0, 1, 2, 3, 4, 5] rfl rfl) ?_
 rintro ⟨i, v⟩ hinv
 replace hinv : i ≤ n := hinv
 dsimp only
 refine sr_ (wl_ov (ov_lss rfl rfl) rfl (nn_ (gw_seq ?_)))
 refine gw_cond rfl (fun hh => ?_) (fun hh => ?_)
 ·have hi : ((i : Nat) : Int) < ((n : Nat) : Int) := by simpa using hh
  clear hh
  refine gw_skip (nx_then (gw_seq (gw_block (sr_ (mv_ rfl (sg_ rfl (nn_ (gw_region (mv_ rfl (mv_ rfl (wl_ov (ov_nilcheck rfl) rfl ?_)))))))))))
  refine fd_ fo266_2 rfl rfl (lk_ sc22 0 rfl rfl rfl (mv_ rfl ?_))
  refine wl_buildSlice (e := 3) (cs := [.int .i64 ((i : Nat) : Int)]) rfl (by kernel_rfl) rfl fun g74 => ?_
  refine wl_append (news := [.int .i64 ((i : Nat) : Int)]) 0 0 ap22 rfl rfl rfl rfl rfl rfl rfl (by omega) (by unfold maxLen; omega) rfl rfl fun v2 hv2 => ?_
  rw [show (List.range i).flatMap nEnc ++ ([.int .i64 ((i : Nat) : Int)] : List Value) = (List.range (i + 1)).flatMap nEnc from by rw [List.range_succ, List.flatMap_append]; simp [nEnc]]
  refine wl_look (R := ∃ A cc, v2 = .slice A (i + 1) cc) (fun wx hm => own_slice (hm.ownI 0 rfl)) ?_
  rintro ⟨Ao, co, rfl⟩
  refine wl_ov (ov_nilcheck rfl) rfl (fd_ fo266_2 rfl rfl ?_)
  refine wl_store 1 sc22 rfl rfl rfl rfl rfl rfl ?_
  refine wl_nil (nx_blk_nrm (nx_then (gw_region (ad_ rfl rfl (mv_ rfl (wl_nil ?_))))))
  exact nx_round (i + 1, .slice Ao (i + 1) co) (by dsimp only; omega) (by dsimp only; omega) ⟨rfl, rfl, rfl, rfl, rfl, rfl, (some_int (by omega)), trivial⟩ (fun _ hm => hm.pick [1] [0, 1, 2, 3] [0, 1, 2, 3, 4, 5] rfl rfl)
 have hi : ¬ (((i : Nat) : Int) < ((n : Nat) : Int)) := by simpa using hh
 clear hh
 refine gw_exit ?_
 refine nx_then_exit (nx_then_exit ?_)
 refine nx_blk_here ?_
 refine nx_then (gw_seq (sr_ ?_))
 have hin2 : i = n := by omega
 subst hin2
 refine wl_look (R := ∃ A cc, v = .slice A i cc) (fun wx hm => own_slice (hm.ownI 0 rfl)) ?_
 rintro ⟨Ao, co, rfl⟩
 obtain ⟨CO, hCO⟩ : ∃ z, z = l.map (chB cs sl) := ⟨_, rfl⟩
 have hCl : CO.length = i := by rw [hCO, List.length_map]; exact hlen
 rw [show (List.replicate (i + 1) (0 : Int)).flatMap iEnc = (restL CO i).flatMap iEnc from by rw [show restL CO i = List.replicate (i + 1) 0 from by have := restL_zero CO; rw [hCl] at this; exact this]]
 refine mv_ rfl (wl_ov (ov_len es76 rfl) rfl ?_)
 refine wl_ov (ov_sub rfl rfl (by omega) (by omega)) rfl ?_
 refine sg_ rfl (nn_ (gw_block ?_))
 refine gw_loop (γ := Nat) (fun (j : Nat) => j ≤ i) (fun (j : Nat) => [(2, .slice A i c), (6, .slice none 0 0), (7, .bool false), (8, .int .i64 ((k : Nat) : Int)), (9, .pointer (some ⟨gx, 0, none⟩)), (11, .int .i64 (((j : Nat) : Int) - 1))]) (fun (j : Nat) => fun _ => True) (fun (j : Nat) => [(gx, 266, [.slice A i c, .slice A9 i c9, .slice Ao i co, .slice (some ⟨gc, 0, none⟩) i i, .slice (some ⟨gu, 0, none⟩) i i, .slice (some ⟨gr, 0, none⟩) (i + 1) (i + 1), .int .i64 0])]) (fun (j : Nat) => [⟨.slice (some ⟨gr, 0, none⟩) (i + 1) (i + 1), 3, 1, (i + 1), (restL CO j).flatMap iEnc⟩, ⟨.slice Ao i co, 3, 1, i, (List.range i).flatMap nEnc⟩, ⟨.slice (some ⟨gc, 0, none⟩) i i, 9, 1, i, (List.replicate (i) (⟨#[]⟩ : ByteArray)).flatMap sgEnc⟩, ⟨.slice (some ⟨gu, 0, none⟩) i i, 3, 1, i, (List.replicate (i) (0 : Int)).flatMap iEnc⟩]) (fun (j : Nat) => [SlOld csEnc 2 158 w.heap.size none A0 n0 cs, SlOld skEnc 2 211 w.heap.size none A1 n1 sl, SlOld bkEnc 6 92 w.heap.size none A i l, fun wy => SlT csnEnc 1 269 wy A9 i cx, fun wy => Chs 268 cx wy, fun _ => True]) (fun (j : Nat) => j) i (Nat.le_refl _) ⟨rfl, rfl, rfl, rfl, rfl, rfl, trivial⟩ (fun _ hm => hm.pick [0] [3, 0, 1, 2] [0, 1, 2, 3, 4, 5] rfl rfl) ?_
 intro j hinv
 replace hinv : j ≤ i := hinv
 refine gw_seq (sr_ (mv_ rfl ?_))
 refine wl_ov (ov_geq rfl rfl) rfl ?_
 refine nn_ ?_
 refine gw_cond rfl (fun hh => ?_) (fun hh => ?_)
 ·have hj : 0 ≤ ((j : Nat) : Int) - 1 := by simpa using hh
  clear hh
  refine gw_skip (nx_then (gw_seq (gw_block ?_)))
  obtain ⟨k2, rfl⟩ : ∃ k2, j = k2 + 1 := ⟨j - 1, by omega⟩
  have ek : (((k2 + 1 : Nat) : Int) - 1) = ((k2 : Nat) : Int) := by omega
  have hki : k2 < i := by omega
  refine gw_set 11 (v' := .int .i64 ((k2 : Nat) : Int)) rfl (congrArg (Value.int .i64) ek) ?_
  obtain ⟨b9, o9, rfl⟩ := h9 (by omega)
  obtain ⟨x9, hx9⟩ : ∃ x, cx[k2]? = some x := ⟨_, List.getElem?_eq_getElem (by omega)⟩
  obtain ⟨b0, hb0⟩ : ∃ x, l[k2]? = some x := ⟨_, List.getElem?_eq_getElem (by omega)⟩
  have hx9m := List.mem_of_getElem? hx9
  have hxl := cx_at hcx hx9
  rw [bkAt_get hb0] at hxl
  have hnil := hnz b0 (List.mem_of_getElem? hb0)
  have hlil := hcn _ hx9m
  have hnp : 0 < x9.n := by
   rcases Nat.eq_zero_or_pos x9.n with h | h
   ·exact absurd (hxl.symm.trans (List.length_eq_zero_iff.1 (hlil.trans h))) hnil
   exact h
  obtain ⟨bi, oi, hAi⟩ := hin _ hx9m hnp
  obtain ⟨Ai, ni, ci, li⟩ := x9
  dsimp only at hxl hAi hlil hnp
  subst hAi
  obtain ⟨e0, he0⟩ : ∃ x, li[0]? = some x := ⟨_, List.getElem?_eq_getElem (by omega)⟩
  have hco2 : CO[k2]? = some li := by rw [hCO, List.getElem?_map, hb0, hxl]; rfl
  have hrw := restW_at hco2
  rw [head_at he0] at hrw
  obtain ⟨e1, e2, e3⟩ := e0
  dsimp only at hrw
  obtain ⟨r1, hr1⟩ : ∃ z, z = restW (CO.drop (k2 + 1)) := ⟨_, rfl⟩
  obtain ⟨r0, hr0⟩ : ∃ z, z = restW (CO.drop k2) := ⟨_, rfl⟩
  have hrb := restB_le (cs := cs) (sl := sl) hstp k2
  rw [restB_W, ← hCO, ← hr0] at hrb
  rw [← hr0, ← hr1] at hrw
  have hg1 : (restL CO (k2 + 1))[k2 + 1]? = some ((r1 : Nat) : Int) := by rw [restL_at (by omega), hr1]; unfold restR; rw [if_pos (Nat.le_refl _)]
  have hg0 : (restL CO (k2 + 1))[k2]? = some (restR CO (k2 + 1) k2) := restL_at (by omega)
  refine gd (fun wz => Blk wz gx 266 [.slice A i c, .slice (some ⟨b9, o9, none⟩) i c9, .slice Ao i co, .slice (some ⟨gc, 0, none⟩) i i, .slice (some ⟨gu, 0, none⟩) i i, .slice (some ⟨gr, 0, none⟩) (i + 1) (i + 1), .int .i64 0] ∧ (SlOld csEnc 2 158 w.heap.size none A0 n0 cs) wz ∧ (SlOld skEnc 2 211 w.heap.size none A1 n1 sl) wz ∧ (SlOld bkEnc 6 92 w.heap.size none A i l) wz ∧ (fun wy => SlT csnEnc 1 269 wy (some ⟨b9, o9, none⟩) i cx) wz ∧ (fun wy => Chs 268 cx wy) wz ∧ (fun _ => True) wz ∧ wz.ownsRow w.heap.size 3 1 (.slice Ao i co) i ((List.range i).flatMap nEnc) ∧ wz.ownsRow w.heap.size 9 1 (.slice (some ⟨gc, 0, none⟩) i i) i ((List.replicate (i) (⟨#[]⟩ : ByteArray)).flatMap sgEnc) ∧ wz.ownsRow w.heap.size 3 1 (.slice (some ⟨gu, 0, none⟩) i i) i ((List.replicate (i) (0 : Int)).flatMap iEnc) ∧ True) mixed (fun _ hm => ⟨hm.bl 0, hm.fa 0, hm.fa 1, hm.fa 2, hm.fa 3, hm.fa 4, hm.fa 5, hm.ownI 1 rfl, hm.ownI 2 rfl, hm.ownI 3 rfl, trivial⟩) fun z => ?_
  refine wt 0 26 1 rfl z (ov_move rfl) ?_
  refine wt 1 26 3 rfl z (ov_nilcheck rfl) ?_
  refine wt 2 26 7 rfl z (ov_field fo266_5 rfl rfl) ?_
  refine wt 3 26 15 rfl z (ov_load sc22 rfl (fun _ hm => hm.1) rfl) ?_
  refine wt 4 26 31 rfl z (ov_move rfl) ?_
  refine wt 5 26 63 rfl z (ov_move rfl) ?_
  refine wt 6 26 127 rfl z (ov_nilcheck rfl) ?_
  refine wt 7 26 255 rfl z (ov_field fo266_5 rfl rfl) ?_
  refine wt 8 26 511 rfl z (ov_load sc22 rfl (fun _ hm => hm.1) rfl) ?_
  refine wt 9 26 1023 rfl z (ov_move rfl) ?_
  refine wt 10 26 2047 rfl z (ov_add rfl rfl (by omega) (by omega)) ?_
  refine wa_set 71 (v' := .int .i64 ((k2 + 1 : Nat) : Int)) rfl (congrArg (Value.int .i64) (by omega)) ?_
  refine wt 11 26 4095 rfl z (ov_index (j := k2 + 1) es22 rfl rfl (by omega)) ?_
  refine wt 13 26 12287 rfl z (ov_move rfl) ?_
  refine wt 14 26 28671 rfl z (ov_nilcheck rfl) ?_
  refine wt 15 26 61439 rfl z (ov_field fo266_1 rfl rfl) ?_
  refine wt 16 26 126975 rfl z (ov_load sc263 rfl (fun _ hm => hm.1) rfl) ?_
  refine wt 17 26 258047 rfl z (ov_move rfl) ?_
  refine wt 18 26 520191 rfl z (ov_index (j := k2) es263 rfl rfl (by omega)) ?_
  refine wt 19 26 1044479 rfl z (ov_elem1 (k := 0) (v := .slice (some ⟨bi, oi, none⟩) ni ci) sc269 rfl (fun _ hm => (hm.2.2.2.2.1)) hx9 rfl rfl) ?_
  refine wt 20 26 2093055 rfl z (ov_index (j := 0) es269 rfl rfl (by omega)) ?_
  refine wt 21 26 4190207 rfl z (ov_field fo268_1 rfl rfl) ?_
  refine wt 22 26 8384511 rfl z (ov_elem1 (k := 1) (v := .int .i64 ((e2 : Nat) : Int)) sc3 rfl (fun _ hm => ((hm.2.2.2.2.2.1) _ hx9m)) he0 rfl rfl) ?_
  refine wa1 12 rfl ?_
  refine wl_ov (ov_elem1 (k := 0) (v := .int .i64 ((r1 : Nat) : Int)) sc3 rfl (fun _ hm => (SlT.ofOwn i_len (hm.ownI 0 rfl) (by rw [restL_len]; omega))) hg1 rfl rfl) rfl ?_
  refine wl_nil ?_
  refine nw 26 8388607 (fun _ hm => ⟨hm.bl 0, hm.fa 0, hm.fa 1, hm.fa 2, hm.fa 3, hm.fa 4, hm.fa 5, hm.ownI 1 rfl, hm.ownI 2 rfl, hm.ownI 3 rfl, trivial⟩) fun z => ?_
  refine wt 23 26 16777215 rfl z (ov_add rfl rfl (by omega) (by omega)) ?_
  refine wa_set 84 (v' := .int .i64 ((r0 : Nat) : Int)) rfl (congrArg (Value.int .i64) (by omega)) ?_
  refine wt 24 26 33554431 rfl z (ov_index (j := k2) es22 rfl rfl (by omega)) ?_
  refine wa1 25 rfl ?_
  refine wl_storeE (l := (restL CO (k2 + 1))) (j := k2) (r := 0) (el := (restR CO (k2 + 1) k2)) (el' := ((r0 : Nat) : Int)) 0 sc3 rfl rfl rfl rfl i_len rfl hg0 (by rw [restL_len]; omega) (show 0 < 1 by decide) rfl rfl ?_
  rw [show ((restL CO (k2 + 1)).set k2 ((r0 : Nat) : Int)).flatMap iEnc = (restL CO k2).flatMap iEnc from by rw [hr0, restL_set (by omega)]]
  refine wl_nil ?_
  refine nw 26 67108863 (fun _ hm => ⟨hm.bl 0, hm.fa 0, hm.fa 1, hm.fa 2, hm.fa 3, hm.fa 4, hm.fa 5, hm.ownI 1 rfl, hm.ownI 2 rfl, hm.ownI 3 rfl, trivial⟩) fun z => ?_
  refine wa_done (by kernel_rfl) ?_
  refine nx_blk_nrm (nx_then (gw_region (mv_ rfl ?_)))
  refine wl_ov (ov_sub rfl rfl (by omega) (by omega)) rfl ?_
  refine sg_ rfl (wl_nil ?_)
  exact nx_round k2 (by omega) (by omega) ⟨rfl, rfl, rfl, rfl, rfl, rfl, trivial⟩ (fun _ hm => hm.pick [0] [0, 1, 2, 3] [0, 1, 2, 3, 4, 5] rfl rfl)
 have hj : ¬ (0 ≤ ((j : Nat) : Int) - 1) := by simpa using hh
 clear hh
 refine gw_exit ?_
 refine nx_then_exit (nx_then_exit ?_)
 refine nx_blk_here ?_
 refine nx_then (gw_seq (sr_ ?_))
 have hj0 : j = 0 := by omega
 subst hj0
 refine mv_ rfl (mv_ rfl ?_)
 refine wl_callG (γ := List ByteArray × List Int) (val := fun _ => .bool true) (φ := fun gg => gg.1.length = i ∧ gg.2.length = i ∧ RwOk gg.1 gg.2 o) (K' := fun _ => fun _ => True) (L' := fun _ => [(gx, 266, [.slice A i c, .slice A9 i c9, .slice Ao i co, .slice (some ⟨gc, 0, none⟩) i i, .slice (some ⟨gu, 0, none⟩) i i, .slice (some ⟨gr, 0, none⟩) (i + 1) (i + 1), .int .i64 0])]) (O' := fun gg => [⟨.slice (some ⟨gc, 0, none⟩) i i, 9, 1, i, gg.1.flatMap sgEnc⟩, ⟨.slice (some ⟨gu, 0, none⟩) i i, 3, 1, i, gg.2.flatMap iEnc⟩, ⟨.slice Ao i co, 3, 1, i, (List.range i).flatMap nEnc⟩, ⟨.slice (some ⟨gr, 0, none⟩) (i + 1) (i + 1), 3, 1, (i + 1), (restL CO 0).flatMap iEnc⟩]) (X' := fun _ => [SlOld bkEnc 6 92 w.heap.size none A i l]) rfl cb221 rfl rfl (fun wx hm => by
  have h := uf_all w l A i c cs sl A9 c9 cx Ao co (restL CO 0) gx gc gu gr (by omega) (own_cap (hm.ownI 1 rfl)) (by rw [restL_len, hCl]) htm hcx hstm hchl (fun k => Nat.le_trans (restB_le hstp k) (by omega)) (fun k hk => by rw [restB_W, ← hCO, restL_at (by omega)]; rfl) i 0 (by omega) k (List.replicate (i) (⟨#[]⟩ : ByteArray)) (List.replicate (i) (0 : Int)) [] (fun _ => True) wx rfl (by rw [List.length_replicate]) (by rw [List.length_replicate]) (RwOk.nil _ _) (fun p hp => by cases hp) hk6 (hm.pick [0] [2, 3, 1, 0] [2, 3, 4, 5] rfl rfl).cx
  rw [huo] at h
  exact h.mono fun _ _ ⟨c7, u7, he, h1, h2, h3, _, hm2⟩ => ⟨(c7, u7), he, ⟨h1, h2, h3 o rfl⟩, (hm2.cx.pick [0] [0, 1, 2, 3] [0] rfl rfl)⟩) ?_
 rintro ⟨c7, u7⟩ ⟨hc7, hu7, hst⟩
 dsimp only at hc7 hu7 hst ⊢
 obtain ⟨hce, hue⟩ := hst.all (by omega) (by omega)
 refine wl_nilOwn 90 3 ?_
 refine wl_ov (ov_un_not rfl) rfl ?_
 refine wl_set 89 (v' := .bool false) rfl (congrArg Value.bool (by decide)) ?_
 refine nn_ (cf_ rfl (gw_skip (nx_then (sr_ (sg_ rfl (nn_ (gw_seq (sr_ (mv_ rfl ?_)))))))))
 refine wl_ov (ov_len es76 rfl) rfl (mv_ rfl (nn_ (gw_block ?_)))
 have hgl : (gvO l o).length = i := by rw [gvO_len (by omega)]; omega
 refine gw_loop (γ := Nat × Value) (fun g => g.1 ≤ i) (fun g => [(6, .slice none 0 0), (7, .bool false), (9, .pointer (some ⟨gx, 0, none⟩)), (12, g.2), (90, .slice A i c), (91, .int .i64 ((i : Nat) : Int)), (92, .int .i64 ((g.1 : Nat) : Int))]) (fun g => fun _ => True) (fun g => [(gx, 266, [.slice A i c, .slice A9 i c9, .slice Ao i co, .slice (some ⟨gc, 0, none⟩) i i, .slice (some ⟨gu, 0, none⟩) i i, .slice (some ⟨gr, 0, none⟩) (i + 1) (i + 1), .int .i64 0])]) (fun g => [⟨g.2, 90, 3, g.1, ((gvO l o).take g.1).flatMap gvEnc⟩, ⟨.slice (some ⟨gc, 0, none⟩) i i, 9, 1, i, c7.flatMap sgEnc⟩, ⟨.slice (some ⟨gu, 0, none⟩) i i, 3, 1, i, u7.flatMap iEnc⟩]) (fun g => [SlOld bkEnc 6 92 w.heap.size none A i l]) (fun g => i - g.1) (0, .slice none 0 0) (Nat.zero_le _) ⟨rfl, rfl, rfl, rfl, rfl, rfl, rfl, trivial⟩ (fun _ hm => hm.pick [0] [0, 1, 2] [0] rfl rfl) ?_
 rintro ⟨q, v⟩ hinv
 replace hinv : q ≤ i := hinv
 dsimp only
 refine sr_ (wl_ov (ov_lss rfl rfl) rfl (nn_ (gw_seq ?_)))
 refine gw_cond rfl (fun hh => ?_) (fun hh => ?_)
 ·have hq : ((q : Nat) : Int) < ((i : Nat) : Int) := by simpa using hh
  clear hh
  refine gw_skip (nx_then (gw_seq (gw_block (sr_ ?_))))
  obtain ⟨b, off, hA, _, _⟩ := hl.get (by omega)
  subst hA
  obtain ⟨x, hx⟩ : ∃ x, l[q]? = some x := ⟨_, List.getElem?_eq_getElem (by omega)⟩
  obtain ⟨x0, x1, x2, x3, x4, x5⟩ := x
  obtain ⟨p, hp⟩ : ∃ x, o[q]? = some x := ⟨_, List.getElem?_eq_getElem (by omega)⟩
  obtain ⟨hcp, hup⟩ := hst.at hp
  have hgo := gvO_get hx hp
  obtain ⟨p1, p2⟩ := p
  dsimp only at hcp hup hgo
  refine mv_ rfl ?_
  refine wl_ov (ov_index (j := q) es76 rfl rfl (by omega)) rfl ?_
  refine wl_ov (ov_elem (vs := [.string x0, .string x1, .int .i64 x2, .int .i64 x3, .int .i64 x4, .int .i64 x5]) rz92 rfl (fun _ hm => (hm.fact 0 rfl).1) hx rfl rfl) rfl ?_
  refine wl_alloc zc92 rfl fun g75 => ?_
  refine sg_ rfl ?_
  refine wl_stores (cs' := [.string x0, .string x1, .int .i64 x2, .int .i64 x3, .int .i64 x4, .int .i64 x5]) 0 rz92 rfl rfl rfl rfl rfl rfl rfl rfl ?_
  refine nn_ ?_
  refine gd (fun wz => Blk wz g75 92 [.string x0, .string x1, .int .i64 x2, .int .i64 x3, .int .i64 x4, .int .i64 x5] ∧ Blk wz gx 266 [.slice (some ⟨b, off, none⟩) i c, .slice A9 i c9, .slice Ao i co, .slice (some ⟨gc, 0, none⟩) i i, .slice (some ⟨gu, 0, none⟩) i i, .slice (some ⟨gr, 0, none⟩) (i + 1) (i + 1), .int .i64 0] ∧ (SlOld bkEnc 6 92 w.heap.size none (some ⟨b, off, none⟩) i l) wz ∧ True) mixed (fun _ hm => ⟨hm.bl 0, hm.bl 1, hm.fa 0, trivial⟩) fun z => ?_
  refine wt 0 21 1 rfl z (ov_move rfl) ?_
  refine wt 1 21 3 rfl z (ov_field fo92_0 rfl rfl) ?_
  refine wt 2 21 7 rfl z (ov_load sc9 rfl (fun _ hm => hm.1) rfl) ?_
  refine wt 3 21 15 rfl z (ov_move rfl) ?_
  refine wt 4 21 31 rfl z (ov_nilcheck rfl) ?_
  refine wt 5 21 63 rfl z (ov_field fo266_3 rfl rfl) ?_
  refine wt 6 21 127 rfl z (ov_load sc103 rfl (fun _ hm => hm.2.1) rfl) ?_
  refine wt 7 21 255 rfl z (ov_move rfl) ?_
  refine wt 8 21 511 rfl z (ov_index (j := q) es103 rfl rfl (by omega)) ?_
  refine wt 10 21 1535 rfl z (ov_move rfl) ?_
  refine wt 11 21 3583 rfl z (ov_nilcheck rfl) ?_
  refine wt 12 21 7679 rfl z (ov_field fo266_4 rfl rfl) ?_
  refine wt 13 21 15871 rfl z (ov_load sc22 rfl (fun _ hm => hm.2.1) rfl) ?_
  refine wt 14 21 32255 rfl z (ov_move rfl) ?_
  refine wt 15 21 65023 rfl z (ov_index (j := q) es22 rfl rfl (by omega)) ?_
  refine wa_all [9, 16] (by kernel_rfl) rfl ⟨⟨_, rfl, ?_⟩, ⟨_, rfl, ?_⟩, trivial⟩
  ·refine wl_ov (ov_elem1 (k := 0) (v := .string p1) sc9 rfl (fun _ hm => (SlT.ofOwn sg_len (hm.ownI 1 rfl) hc7)) hcp rfl rfl) rfl ?_
   refine wl_nil ?_
   refine nw 21 65535 (fun _ hm => ⟨hm.bl 0, hm.bl 1, hm.fa 0, trivial⟩) fun z => ?_
   refine wa1 16 rfl ?_
   refine wl_ov (ov_elem1 (k := 0) (v := .int .i64 ((p2 : Nat) : Int)) sc3 rfl (fun _ hm => (SlT.ofOwn i_len (hm.ownI 2 rfl) hu7)) hup rfl rfl) rfl ?_
   refine wl_nil ?_
   refine nw 21 131071 (fun _ hm => ⟨hm.bl 0, hm.bl 1, hm.fa 0, trivial⟩) fun z => ?_
   refine wt 17 21 262143 rfl z (ov_build (cs := [.string x0, .string p1, .int .i64 ((p2 : Nat) : Int)]) rfl (by kernel_rfl)) ?_
   refine wa1 18 rfl ?_
   refine wl_buildSlice (e := 90) (cs := [.string x0, .string p1, .int .i64 ((p2 : Nat) : Int)]) rfl (by kernel_rfl) rfl fun g76 => ?_
   refine wl_nil ?_
   refine nw 21 524287 (fun _ hm => ⟨hm.bl 1, hm.bl 2, hm.fa 0, trivial⟩) fun z => ?_
   refine wa1 19 rfl ?_
   refine wl_append (news := [.string x0, .string p1, .int .i64 ((p2 : Nat) : Int)]) 0 0 ap80 rfl rfl rfl rfl rfl rfl rfl (by omega) (by unfold maxLen; omega) rfl rfl fun v2 hv2 => ?_
   rw [show ((gvO l o).take q).flatMap gvEnc ++ ([.string x0, .string p1, .int .i64 ((p2 : Nat) : Int)] : List Value) = ((gvO l o).take (q + 1)).flatMap gvEnc from by rw [List.take_add_one, hgo]; simp [gvEnc]]
   refine wl_nil ?_
   refine nw 21 1048575 (fun _ hm => ⟨hm.bl 1, hm.bl 2, hm.fa 0, trivial⟩) fun z => ?_
   refine wt 20 21 2097151 rfl z (ov_assign rfl) ?_
   refine wa_done (by kernel_rfl) ?_
   refine nx_blk_nrm (nx_then (gw_region (ad_ rfl rfl (mv_ rfl (wl_nil ?_)))))
   exact nx_round (q + 1, v2) (by dsimp only; omega) (by dsimp only; omega) ⟨rfl, rfl, rfl, rfl, rfl, rfl, (some_int (by omega)), trivial⟩ (fun _ hm => hm.pick [2] [0, 1, 2] [0] rfl rfl)
  refine wl_ov (ov_elem1 (k := 0) (v := .int .i64 ((p2 : Nat) : Int)) sc3 rfl (fun _ hm => (SlT.ofOwn i_len (hm.ownI 2 rfl) hu7)) hup rfl rfl) rfl ?_
  refine wl_nil ?_
  refine nw 21 130559 (fun _ hm => ⟨hm.bl 0, hm.bl 1, hm.fa 0, trivial⟩) fun z => ?_
  refine wa1 9 rfl ?_
  refine wl_ov (ov_elem1 (k := 0) (v := .string p1) sc9 rfl (fun _ hm => (SlT.ofOwn sg_len (hm.ownI 1 rfl) hc7)) hcp rfl rfl) rfl ?_
  refine wl_nil ?_
  refine nw 21 131071 (fun _ hm => ⟨hm.bl 0, hm.bl 1, hm.fa 0, trivial⟩) fun z => ?_
  refine wt 17 21 262143 rfl z (ov_build (cs := [.string x0, .string p1, .int .i64 ((p2 : Nat) : Int)]) rfl (by kernel_rfl)) ?_
  refine wa1 18 rfl ?_
  refine wl_buildSlice (e := 90) (cs := [.string x0, .string p1, .int .i64 ((p2 : Nat) : Int)]) rfl (by kernel_rfl) rfl fun g77 => ?_
  refine wl_nil ?_
  refine nw 21 524287 (fun _ hm => ⟨hm.bl 1, hm.bl 2, hm.fa 0, trivial⟩) fun z => ?_
  refine wa1 19 rfl ?_
  refine wl_append (news := [.string x0, .string p1, .int .i64 ((p2 : Nat) : Int)]) 0 0 ap80 rfl rfl rfl rfl rfl rfl rfl (by omega) (by unfold maxLen; omega) rfl rfl fun v2 hv2 => ?_
  rw [show ((gvO l o).take q).flatMap gvEnc ++ ([.string x0, .string p1, .int .i64 ((p2 : Nat) : Int)] : List Value) = ((gvO l o).take (q + 1)).flatMap gvEnc from by rw [List.take_add_one, hgo]; simp [gvEnc]]
  refine wl_nil ?_
  refine nw 21 1048575 (fun _ hm => ⟨hm.bl 1, hm.bl 2, hm.fa 0, trivial⟩) fun z => ?_
  refine wt 20 21 2097151 rfl z (ov_assign rfl) ?_
  refine wa_done (by kernel_rfl) ?_
  refine nx_blk_nrm (nx_then (gw_region (ad_ rfl rfl (mv_ rfl (wl_nil ?_)))))
  exact nx_round (q + 1, v2) (by dsimp only; omega) (by dsimp only; omega) ⟨rfl, rfl, rfl, rfl, rfl, rfl, (some_int (by omega)), trivial⟩ (fun _ hm => hm.pick [2] [0, 1, 2] [0] rfl rfl)
 have hq : ¬ (((q : Nat) : Int) < ((i : Nat) : Int)) := by simpa using hh
 clear hh
 refine gw_exit ?_
 refine nx_then_exit (nx_then_exit ?_)
 refine nx_blk_here ?_
 refine nx_then (sr_ ?_)
 have hqi : q = i := by omega
 rw [show ((gvO l o).take q) = gvO l o from List.take_of_length_le (by omega)]
 subst hqi
 refine wl_look (R := ∃ A cc, v = .slice A q cc) (fun wx hm => own_slice (hm.ownI 0 rfl)) ?_
 rintro ⟨Az, cz, rfl⟩
 refine mv_ rfl (sg_ rfl (sg_ rfl (nn_ ?_)))
 refine gw_ret ?_
 refine nx_ret2 rfl rfl rfl fun wx hm => ?_
 exact ⟨.inr ⟨o, Az, cz, hao, rfl, SlT.ofOwn gv_len (hm.ownI 0 rfl) hgl, own_cap (hm.ownI 0 rfl)⟩, hm.g⟩
def asE (cs : List Cs) (sl : List Sk) (l : List Bk) : Int := firstE [firstE [stockE cs sl, checkE cs l], whenE (decide (7 < ((l.length : Nat) : Int))) 2]
theorem asE_ok {cs : List Cs} {sl : List Sk} {l : List Bk} (h : asE cs sl l = 0) : firstE [stockE cs sl, checkE cs l] = 0 ∧ l.length ≤ 7 := by
  obtain ⟨h1, h2⟩ := firstE_two h
  refine ⟨h1, ?_⟩
  unfold whenE at h2
  by_cases h3 : 7 < ((l.length : Nat) : Int)
  · rw [decide_eq_true h3] at h2; simp at h2
  · omega
/-- What right bookings have. -/
theorem right_has {cs : List Cs} {sl : List Sk} {l : List Bk} (h : firstE [stockE cs sl, checkE cs l] = 0) : (cs.length ≤ 30 ∧ Closed cs ∧ loopB cs cs.length = false) ∧ (∀ k, manyV sl k ≤ 100) ∧ (∀ b ∈ l, keysE cs [b.cls] = 0) ∧ BkTim l ∧ formE l = 0 := by
  obtain ⟨h1, h2⟩ := firstE_two h
  obtain ⟨hc0, hf0, hk⟩ := gcheckE_ok h2
  exact ⟨classesE_ok hc0, many_le h1, hk, form_tim hf0, hf0⟩
theorem assignA_rightC (cs : List Cs) (A0 : Option Addr) (n0 c0 : Nat) (sl : List Sk) (A1 : Option Addr) (n1 c1 : Nat) (l : List Bk) (A : Option Addr) (n c : Nat) (w : World) (hcs : SlT csEnc 2 158 w A0 n0 cs) (hco : ∀ x ∈ cs, CsOk x) (hn0 : n0 ≤ 1000) (hs : SlT skEnc 2 211 w A1 n1 sl) (hso : ∀ x ∈ sl, SkOk x) (hn1 : n1 ≤ 1000) (hl : SlT bkEnc 6 92 w A n l) (hok : ∀ x ∈ l, BkOk x) (hn : n ≤ 12) (h0 : asE cs sl l = 0) :
  Calls Tryz.prog 35 #[.slice A0 n0 c0, .slice A1 n1 c1, .slice A n c] w (fun e w' => ((asgO cs sl l = none ∧ e = .returned (.tuple #[.slice none 0 0, .int .i64 12])) ∨ ∃ (o : List (ByteArray × Nat)) (A' : Option Addr) (c' : Nat), asgO cs sl l = some o ∧ e = .returned (.tuple #[.slice A' n c', .int .i64 0]) ∧ SlT gvEnc 3 90 w' A' n (gvO l o) ∧ n ≤ c') ∧ w.grownBy w' none) := by
 refine gw_enter ⟨34, w, none, [90]⟩ Tryz.func35 rfl Tryz.ntmps35 rfl (mem0 (X := [SlOld csEnc 2 158 w.heap.size none A0 n0 cs, SlOld skEnc 2 211 w.heap.size none A1 n1 sl, SlOld bkEnc 6 92 w.heap.size none A n l]) (allF_cons hcs.old (allF_cons hs.old (allF_cons hl.old allF_nil))) (allL_cons SlOld.lasts (allL_cons SlOld.lasts (allL_cons SlOld.lasts allL_nil)))) ?_
 refine sr_ ?_
 have hlen := hl.len
 obtain ⟨E1, hE1⟩ : ∃ z, z = firstE [stockE cs sl, checkE cs l] := ⟨_, rfl⟩
 have hEE : asE cs sl l = firstE [E1, whenE (decide (7 < ((n : Nat) : Int))) 2] := by rw [hE1, ← hlen]; rfl
 rw [hEE] at h0
 refine sg_ rfl (sg_ rfl (nn_ (gw_seq (sr_ (mv_ rfl (mv_ rfl (mv_ rfl ?_)))))))
 refine wl_callv (v := .int .i64 E1) rfl cb124 rfl rfl (fun wx hm => (by rw [hE1]; exact checkAll_any cs A0 n0 c0 sl A1 n1 c1 l A n c wx (hm.fact 0 rfl).1 hco (by omega) (hm.fact 1 rfl).1 hso (by omega) (hm.fact 2 rfl).1 hok (by omega))) ?_
 refine mv_ rfl (wl_ov (ov_len es76 rfl) rfl ?_)
 refine wl_ov (ov_gtr rfl rfl) rfl ?_
 refine wl_callw rfl cb68 rfl rfl (fun wx hm => (when_any _ _ wx)) ?_
 refine wl_buildSlice (e := 33) (cs := [.int .i64 E1, .int .i64 (whenE (decide (7 < ((n : Nat) : Int))) 2)]) rfl (by kernel_rfl) rfl fun g1 => ?_
 refine wl_callw rfl cb67 rfl rfl (fun wx hm => (first_any [E1, whenE (decide (7 < ((n : Nat) : Int))) 2] _ _ _ wx (hm.blkI 0 rfl) (by simp))) ?_
 refine sg_ rfl (nn_ (sr_ (mv_ rfl (wl_ov (ov_neq rfl rfl) rfl (nn_ ?_)))))
 refine gw_cond rfl (fun hh => ?_) (fun hh => ?_)
 ·have h1 : ¬ (firstE [E1, whenE (decide (7 < ((n : Nat) : Int))) 2] = 0) := by simpa using hh
  clear hh
  refine sr_ ?_
  exact absurd h0 (by simpa using h1)
 have h1 : firstE [E1, whenE (decide (7 < ((n : Nat) : Int))) 2] = 0 := by simpa using hh
 clear hh
 refine gw_skip (nx_then (sr_ (mv_ rfl (mv_ rfl (mv_ rfl ?_)))))
 obtain ⟨hr1, hr7⟩ := asE_ok (hEE.trans h0)
 obtain ⟨⟨h30, hcl, hlo⟩, hmany, hkeys, htm, _⟩ := right_has hr1
 rcases hao : asgO cs sl l with _ | o
 ·refine wl_callv rfl cb125 rfl rfl (fun wx hm => ((assign_any cs A0 n0 c0 sl A1 n1 c1 l A n c wx (hm.fact 0 rfl).1 hco hn0 (hm.fact 1 rfl).1 hso hn1 (hm.fact 2 rfl).1 hn hmany hcl hlo h30 hkeys htm).mono fun _ _ ⟨h, hg⟩ => by
   rcases h with ⟨_, he⟩ | ⟨o, A2, c2, h2, _⟩
   ·exact ⟨he, hg⟩
   rw [hao] at h2; cases h2)) ?_
  refine mv_ rfl (wl_ov (ov_extract rfl rfl) rfl (wl_ov (ov_extract rfl rfl) rfl (sg_ rfl (sg_ rfl (nn_ (gw_seq (sr_ (mv_ rfl (wl_ov (ov_un_not rfl) rfl ?_)))))))))
  refine wl_set 32 (v' := .bool true) rfl (congrArg Value.bool (by decide)) ?_
  refine nn_ (ct_ rfl (sr_ (sg_ rfl (sg_ rfl (nn_ ?_)))))
  refine gw_ret ?_
  refine nx_then_ret ?_
  refine nx_ret2 rfl rfl rfl fun wx hm => ?_
  exact ⟨.inl ⟨rfl, rfl⟩, hm.g⟩
 refine wl_callx (γ := Option Addr × Nat) (val := (fun g => .tuple #[.slice g.1 n g.2, .bool true])) (φ := (fun g => n ≤ g.2)) (Y := (fun g => fun wy => SlT gvEnc 3 90 wy g.1 n (gvO l o))) rfl cb125 rfl rfl (fun wx hm => (assign_any cs A0 n0 c0 sl A1 n1 c1 l A n c wx (hm.fact 0 rfl).1 hco hn0 (hm.fact 1 rfl).1 hso hn1 (hm.fact 2 rfl).1 hn hmany hcl hlo h30 hkeys htm).mono fun _ _ ⟨h, hg⟩ => by
  rcases h with ⟨h2, _⟩ | ⟨o2, A2, c2, h2, he, hs, hcc⟩
  ·rw [hao] at h2; cases h2
  rw [hao] at h2; cases h2; exact ⟨(A2, c2), he, hcc, hg, hs⟩) (fun _ => SlT.lasts2 rfl) ?_
 rintro ⟨A2, c2⟩ hcc
 dsimp only at hcc ⊢
 refine mv_ rfl (wl_ov (ov_extract rfl rfl) rfl (wl_ov (ov_extract rfl rfl) rfl (sg_ rfl (sg_ rfl (nn_ (gw_seq (sr_ (mv_ rfl (wl_ov (ov_un_not rfl) rfl ?_)))))))))
 refine wl_set 32 (v' := .bool false) rfl (congrArg Value.bool (by decide)) ?_
 refine nn_ (cf_ rfl (gw_skip (nx_then (sr_ (mv_ rfl (sg_ rfl (sg_ rfl (nn_ ?_))))))))
 refine gw_ret ?_
 refine nx_ret2 rfl rfl rfl fun wx hm => ?_
 exact ⟨.inr ⟨o, A2, c2, rfl, rfl, (hm.fact 0 rfl), hcc⟩, hm.g⟩
end Go.Proofs.YtempjmpfdniecaaGreatDoor
namespace Go.Proofs.YtempjmpfdniecaaGreatDoor
open Go.RowKit
theorem sk_snoc {l : List Sk} {x : Sk} (h : ∀ y ∈ l, SkOk y) (hx : SkOk x) : ∀ y ∈ l ++ [x], SkOk y := fun y hy => by
  rcases List.mem_append.1 hy with hy | hy
  · exact h y hy
  · rw [List.mem_singleton.1 hy]; exact hx
theorem gstock_any (w : World) (B sb m : Nat) (hS : Strm 25 w B sb m) (hm : m ≤ 100000000) :
  Calls Tryz.prog 57 #[.pointer (some ⟨sb, 0, none⟩)] w (fun e w' => ∃ (A : Option Addr) (n c : Nat) (l : List Sk), e = .returned (.slice A n c) ∧ w'.ownsRow w.heap.size 211 2 (.slice A n c) n (l.flatMap skEnc) ∧ l.length = n ∧ (∀ x ∈ l, SkOk x) ∧ n ≤ 5 ∧ Strm 25 w' B sb (m + 100) ∧ w.grownBy w' (some sb)) := by
 refine gw_enter ⟨36, w, (some sb), []⟩ Tryz.func57 rfl Tryz.ntmps57 rfl (memS (X := []) hS allF_nil allL_nil) ?_
 refine sr_ ?_
 refine wl_nilOwn 211 2 ?_
 refine sg_ rfl (nn_ (sr_ (sg_ rfl (nn_ (gw_seq (sr_ ?_))))))
 refine wl_buildSlice (e := 9) (cs := [.string ⟨#[98, 105, 103]⟩, .string ⟨#[109, 97, 120, 105]⟩, .string ⟨#[109, 105, 100, 105]⟩, .string ⟨#[109, 105, 110, 105]⟩]) rfl (by kernel_rfl) rfl fun g1 => ?_
 refine wl_ov (ov_len es103 rfl) rfl ?_
 refine wl_set 7 (v' := .int .i64 4) rfl rfl ?_
 refine mv_ rfl (nn_ (gw_block ?_))
 refine gw_loop (γ := Nat × Nat × Value × List Sk × List Value) (fun g => g.1 ≤ 4 ∧ g.2.1 ≤ g.1 ∧ g.2.2.2.1.length = g.2.1 ∧ (∀ x ∈ g.2.2.2.1, SkOk x) ∧ g.2.2.2.2 = g.2.2.2.1.flatMap skEnc) (fun g => [(0, .pointer (some ⟨sb, 0, none⟩)), (2, .slice none 0 0), (3, g.2.2.1), (6, .slice (some ⟨g1, 0, none⟩) 4 4), (7, .int .i64 4), (8, .int .i64 ((g.1 : Nat) : Int))]) (fun g => fun w => Strm 25 w B sb (m + 2 * g.1)) (fun g => [(g1, 9, [.string ⟨#[98, 105, 103]⟩, .string ⟨#[109, 97, 120, 105]⟩, .string ⟨#[109, 105, 100, 105]⟩, .string ⟨#[109, 105, 110, 105]⟩])]) (fun g => [⟨g.2.2.1, 211, 2, g.2.1, g.2.2.2.2⟩]) (fun g => []) (fun g => 4 - g.1) (0, 0, .slice none 0 0, [], []) ⟨Nat.zero_le _, Nat.le_refl _, rfl, (fun _ h => by cases h), rfl⟩ ⟨rfl, rfl, rfl, rfl, rfl, rfl, trivial⟩ (fun _ hm => (hm.more rfl (by first | omega | (dsimp only; omega))).pick [0] [0] [] rfl rfl) ?_
 rintro ⟨i, k, v, l, xs⟩ hinv
 replace hinv : i ≤ 4 ∧ k ≤ i ∧ l.length = k ∧ (∀ x ∈ l, SkOk x) ∧ xs = l.flatMap skEnc := hinv
 dsimp only
 refine sr_ ?_
 obtain ⟨hi0, hki, hl, hok, rfl⟩ := hinv
 refine wl_ov (ov_lss rfl rfl) rfl (nn_ (gw_seq ?_))
 refine gw_cond rfl (fun hh => ?_) (fun hh => ?_)
 ·have hi : ((i : Nat) : Int) < 4 := by simpa using hh
  clear hh
  refine gw_skip (nx_then (gw_seq (gw_block (sr_ ?_))))
  obtain ⟨nm, hx⟩ : ∃ x, ([⟨#[98, 105, 103]⟩, ⟨#[109, 97, 120, 105]⟩, ⟨#[109, 105, 100, 105]⟩, ⟨#[109, 105, 110, 105]⟩] : List ByteArray)[i]? = some x := ⟨_, List.getElem?_eq_getElem (by simp; omega)⟩
  have hnm : nm.size ≤ 100 := mem_sz (List.mem_of_getElem? hx) (by decide)
  refine wl_ov (ov_index (j := i) es103 rfl rfl (by omega)) rfl ?_
  refine wl_ov (ov_elem1 (k := 0) (v := .string nm) sc9 rfl (fun _ hm => (SlT.ofBlk (l := [⟨#[98, 105, 103]⟩, ⟨#[109, 97, 120, 105]⟩, ⟨#[109, 105, 100, 105]⟩, ⟨#[109, 105, 110, 105]⟩]) sg_len (hm.blkI 0 rfl))) hx rfl rfl) rfl ?_
  refine sg_ rfl (nn_ (sr_ (mv_ rfl ?_)))
  refine wl_got (γ := Bool) (val := fun v => .bool v) (φ := fun v => True) rfl cb64 rfl rfl rfl rfl (fun wx hm => ((flip_any _ wx B sb _ hm.k (by omega) (by omega) (by omega)).mono fun _ _ ⟨v, he, hS, hg⟩ => ⟨v, trivial, he, hS, hg⟩)) fun f2 _ => ?_
  refine wl_ov (ov_un_not rfl) rfl (nn_ ?_)
  refine gw_cond rfl (fun hh => ?_) (fun hh => ?_)
  ·have hf : f2 = false := by simpa using hh
   clear hh
   refine gw_region (mv_ rfl (mv_ rfl (mv_ rfl ?_)))
   refine wl_buildSlice (e := 3) (cs := [.int .i64 0, .int .i64 1, .int .i64 1, .int .i64 2, .int .i64 3]) rfl (by kernel_rfl) rfl fun g3 => ?_
   refine wl_got (γ := Int) (val := fun v => .int .i64 v) (φ := fun v => v ∈ ([0, 1, 1, 2, 3] : List Int)) rfl cb11 rfl rfl rfl rfl (fun wx hm => (pick_any [0, 1, 1, 2, 3] _ _ _ wx B sb _ hm.k (by omega) (by simp) (by simp) (hm.blkI 0 rfl) (hm.neRow 0 rfl rfl))) fun v4 hv4 => ?_
   have bv4 : 0 ≤ v4 ∧ v4 ≤ 3 := mem_rng hv4 (by decide)
   have bv40 := bv4.1
   have bv41 := bv4.2
   clear bv4
   refine wl_ov (ov_build (cs := [.string nm, .int .i64 v4]) rfl (by kernel_rfl)) rfl ?_
   refine wl_buildSlice (e := 211) (cs := [.string nm, .int .i64 v4]) rfl (by kernel_rfl) rfl fun g5 => ?_
   refine wl_append (news := [.string nm, .int .i64 v4]) 0 0 ap75 rfl rfl rfl rfl rfl rfl rfl (by omega) (by unfold maxLen; omega) rfl rfl fun v2 hv2 => ?_
   refine sg_ rfl (wl_nil (nx_blk_nrm (nx_then (gw_region (ad_ rfl rfl (mv_ rfl (wl_nil ?_)))))))
   exact nx_round (i + 1, k + 1, v2, l ++ [⟨nm, v4⟩], l.flatMap skEnc ++ ([.string nm, .int .i64 v4] : List Value)) ⟨by dsimp only; omega, by dsimp only; omega, by simp [hl], sk_snoc hok ⟨by dsimp only; omega, by dsimp only; omega, by dsimp only; omega⟩, by simp [skEnc]⟩ (by dsimp only; omega) ⟨rfl, rfl, rfl, rfl, rfl, (some_int (by omega)), trivial⟩ (fun _ hm => (hm.more rfl (by first | omega | (dsimp only; omega))).pick [2] [0] [] rfl rfl)
  have hf : f2 = true := by simpa using hh
  clear hh
  refine gw_skip (nx_blk_nrm (nx_then (gw_region (ad_ rfl rfl (mv_ rfl (wl_nil ?_))))))
  exact nx_round (i + 1, k, v, l, l.flatMap skEnc) ⟨by dsimp only; omega, by dsimp only; omega, hl, hok, rfl⟩ (by dsimp only; omega) ⟨rfl, rfl, rfl, rfl, rfl, (some_int (by omega)), trivial⟩ (fun _ hm => (hm.more rfl (by first | omega | (dsimp only; omega))).pick [0] [0] [] rfl rfl)
 have hi : ¬ (((i : Nat) : Int) < 4) := by simpa using hh
 clear hh
 refine gw_exit ?_
 refine nx_then_exit (nx_then_exit ?_)
 refine nx_blk_here ?_
 refine nx_then (gw_seq (sr_ (mv_ rfl ?_)))
 refine wl_got (γ := Bool) (val := fun v => .bool v) (φ := fun v => True) rfl cb64 rfl rfl rfl rfl (fun wx hm => ((flip_any _ wx B sb _ hm.k (by omega) (by omega) (by omega)).mono fun _ _ ⟨v, he, hS, hg⟩ => ⟨v, trivial, he, hS, hg⟩)) fun f6 _ => ?_
 refine nn_ ?_
 refine gw_cond rfl (fun hh => ?_) (fun hh => ?_)
 ·have hf : f6 = true := by simpa using hh
  clear hh
  refine gw_region (mv_ rfl (mv_ rfl ?_))
  refine wl_buildSlice (e := 9) (cs := [.string ⟨#[109, 105, 110, 105]⟩, .string ⟨#[110, 111, 110, 101]⟩, .string ⟨#[98, 105, 103]⟩]) rfl (by kernel_rfl) rfl fun g7 => ?_
  refine wl_got (γ := ByteArray) (val := fun v => .string v) (φ := fun v => v ∈ ([⟨#[109, 105, 110, 105]⟩, ⟨#[110, 111, 110, 101]⟩, ⟨#[98, 105, 103]⟩] : List ByteArray)) rfl cb49 rfl rfl rfl rfl (fun wx hm => (some_any [⟨#[109, 105, 110, 105]⟩, ⟨#[110, 111, 110, 101]⟩, ⟨#[98, 105, 103]⟩] _ _ _ wx B sb _ hm.k (by omega) (by simp) (by simp) (hm.blkI 0 rfl) (hm.neRow 0 rfl rfl))) fun s8 hs8 => ?_
  have zs8 : s8.size ≤ 100 := mem_sz hs8 (by decide)
  refine mv_ rfl ?_
  refine wl_got (γ := Int) (val := fun v => .int .i64 v) (φ := fun v => -2000000000000000 ≤ v ∧ v ≤ 2000000000000000) rfl cb88 rfl rfl rfl rfl (fun wx hm => (odd_any _ _ wx B sb _ hm.k (by omega) (by omega) (by omega) (by omega))) fun v9 hv9 => ?_
  refine wl_ov (ov_build (cs := [.string s8, .int .i64 v9]) rfl (by kernel_rfl)) rfl ?_
  refine wl_buildSlice (e := 211) (cs := [.string s8, .int .i64 v9]) rfl (by kernel_rfl) rfl fun g10 => ?_
  refine wl_append (news := [.string s8, .int .i64 v9]) 0 0 ap75 rfl rfl rfl rfl rfl rfl rfl (by omega) (by unfold maxLen; omega) rfl rfl fun v2 hv2 => ?_
  refine wl_look (R := ∃ A cc, v2 = .slice A (k + 1) cc) (fun wx hm => own_slice (hm.ownI 0 rfl)) ?_
  rintro ⟨A, c, rfl⟩
  refine sg_ rfl (nn_ (sr_ (mv_ rfl (sg_ rfl (nn_ ?_)))))
  refine gw_ret ?_
  refine nx_ret1 rfl rfl fun wx hm => ?_
  exact ⟨A, k + 1, c, l ++ [⟨s8, v9⟩], rfl, by have h := hm.ownI 0 rfl; simpa [skEnc] using h, by simp [hl], sk_snoc hok ⟨by dsimp only; omega, by dsimp only; omega, by dsimp only; omega⟩, by omega, hm.k.more (by omega), hm.g⟩
 have hf : f6 = false := by simpa using hh
 clear hh
 refine gw_skip (nx_then (sr_ ?_))
 refine wl_look (R := ∃ A cc, v = .slice A k cc) (fun wx hm => own_slice (hm.ownI 0 rfl)) ?_
 rintro ⟨A, c, rfl⟩
 refine mv_ rfl (sg_ rfl (nn_ ?_))
 refine gw_ret ?_
 refine nx_ret1 rfl rfl fun wx hm => ?_
 exact ⟨A, k, c, l, rfl, by have h := hm.ownI 0 rfl; simpa [skEnc] using h, hl, hok, by omega, hm.k.more (by omega), hm.g⟩
end Go.Proofs.YtempjmpfdniecaaGreatDoor
namespace Go.Proofs.YtempjmpfdniecaaGreatDoor
open Go.RowKit
theorem legs_at {fr : Int} {l : List Lg} {k : Nat} {g : Lg} (h : l[k]? = some g) :
    legsE fr l (l.length - k) = if legE fr (prevOf l k) (decide (k + 1 = l.length)) g = 0 then legsE fr l (l.length - (k + 1)) else legE fr (prevOf l k) (decide (k + 1 = l.length)) g := by
  have hk := (List.getElem?_eq_some_iff.1 h).1
  obtain ⟨m, hm⟩ : ∃ m, l.length - k = m + 1 := ⟨l.length - k - 1, by omega⟩
  have hm2 : l.length - (k + 1) = m := by omega
  have hm3 : l.length - (m + 1) = k := by omega
  rw [hm, hm2]
  simp only [legsE, hm3, h]
  have : decide (m = 0) = decide (k + 1 = l.length) := by
    by_cases h : k + 1 = l.length <;> simp [h] <;> omega
  rw [this]
def HrOk (key driver : ByteArray) (l : List Lg) : Prop := key.size ≤ 1000000 ∧ driver.size ≤ 1000000 ∧ ∀ g ∈ l, LgOk g
theorem hireE_stop {key driver : ByteArray} {fr to_ : Int} {l : List Lg} {e : Int} (h : e = firstE [whenE (!keyB key || !keyB driver) 5, timeE fr to_]) (hne : e ≠ 0) : hireE ⟨key, driver, fr, to_, l⟩ = e := by
  unfold hireE
  simp only [firstE] at h ⊢
  split
  · rename_i h1
    rw [if_pos h1] at h
    split
    · rename_i h2
      rw [if_pos h2] at h
      exact absurd h hne
    · rename_i h2
      rw [if_neg h2] at h
      exact h.symm
  · rename_i h1
    rw [if_neg h1] at h
    exact h.symm
theorem firstE_pad (X : Int) : firstE [0, 0, X] = X := by
  show firstE [X] = X
  by_cases h : X = 0
  · rw [h]; rfl
  · simp [firstE, h]
theorem hireE_pass {key driver : ByteArray} {fr to_ : Int} {l : List Lg} (h : 0 = firstE [whenE (!keyB key || !keyB driver) 5, timeE fr to_]) : hireE ⟨key, driver, fr, to_, l⟩ = if l.length = 0 then 3 else if 20 < l.length then 2 else legsE fr l l.length := by
  have := firstE_two h.symm
  unfold hireE
  simp only [this.1, this.2]
  exact firstE_pad _
set_option maxRecDepth 100000 in
set_option maxHeartbeats 4000000 in
theorem hcheck_any (key driver : ByteArray) (fr to_ : Int) (l : List Lg) (A : Option Addr) (n c : Nat) (w : World) (hl : SlT lgEnc 9 135 w A n l) (hok : HrOk key driver l) (hn : n ≤ 1000000) :
    Calls Tryz.prog 12 #[.agg #[.string key, .string driver, .int .i64 fr, .int .i64 to_, .slice A n c]] w (GotE w (hireE ⟨key, driver, fr, to_, l⟩)) := by
  obtain ⟨E1, hE1⟩ : ∃ E, E = firstE [whenE (!keyB key || !keyB driver) 5, timeE fr to_] := ⟨_, rfl⟩
  have Hstop := Lib.hid (fun (h : E1 ≠ 0) => hireE_stop (l := l) hE1 h)
  have Hpass := Lib.hid (fun (h : E1 = 0) => hireE_pass (l := l) (h.symm.trans hE1))
  have Hl := Lib.hid hl.len
  have cK : ∀ w, Calls Tryz.prog 69 #[.string key] w fun e w' => e = .returned (.bool (keyB key)) ∧ w' = w := fun w => flipw (isKey_any _ _ (by have := hok.1; omega))
  have cD : ∀ w, Calls Tryz.prog 69 #[.string driver] w fun e w' => e = .returned (.bool (keyB driver)) ∧ w' = w := fun w => flipw (isKey_any _ _ (by have := hok.2.1; omega))
  have Hok := Lib.hid hok.2.2
  generalize keyB key = K at cK hE1
  generalize keyB driver = D at cD hE1
  obtain ⟨R, hR⟩ : ∃ R, R = hireE ⟨key, driver, fr, to_, l⟩ := ⟨_, rfl⟩
  rw [← hR] at Hstop Hpass ⊢
  have CK := Lib.hid cK
  have CD := Lib.hid cD
  have HE1 := Lib.hid hE1
  clear cK cD hE1 hR hok
  obtain ⟨T, hT⟩ : ∃ T, T = timeE fr to_ := ⟨_, rfl⟩
  have cT : ∀ w, Calls Tryz.prog 70 #[.agg #[.int .i64 fr, .int .i64 to_]] w (GotE w T) := fun w => by rw [hT]; exact time_any _ _ _
  have CT := Lib.hid cT
  rw [← hT] at HE1
  clear cT hT
  go_enter Tryz.func12, Tryz.ntmps12
  go_wp2_with fail
  have hB : Blk (w.alloc (.cells #[.string key, .string driver, .int .i64 fr, .int .i64 to_, .slice A n c] 30)) w.heap.size 30 [.string key, .string driver, .int .i64 fr, .int .i64 to_, .slice A n c] := Blk.at_ w rfl _ _
  have k0 := hB.cell_of (i := 0) (v := .string key) rfl
  have k1 := hB.cell_of (i := 1) (v := .string driver) rfl
  have k2 := hB.cell_of (i := 2) (v := .int .i64 fr) rfl
  have k3 := hB.cell_of (i := 3) (v := .int .i64 to_) rfl
  go_upto_region 1 with fail
  go_cut [3] (fun v wx => v = .int .i64 E1 ∧ (w.alloc (.cells #[.string key, .string driver, .int .i64 fr, .int .i64 to_, .slice A n c] 30)).grownBy wx none)
  case first =>
    cases K
    · first | go_region_with (first
        | (go_at_call 70; refine (CT.out _).mono ?_; rintro e w4 ⟨rfl, hg4⟩)
        | (go_at_call 69; with_reducible refine (CK.out _).mono ?_; rintro e w3 ⟨rfl, rfl⟩)
        | (go_at_call 69; with_reducible refine (CD.out _).mono ?_; rintro e w3 ⟨rfl, rfl⟩)
        | (go_at_call 68; refine (when_any _ _ _).mono ?_; rintro e w5 ⟨rfl, rfl⟩)
        | (go_at_call 67; refine (first_any [whenE true 5, T] _ _ _ _ (Blk.at_ _ rfl _ _) (by simp)).mono ?_; rintro e w6 ⟨rfl, rfl⟩)) | fail
      all_goals
        go_wp2_with fail
        go_meet
        exact ⟨ret_val (by rw [HE1.out]; rfl), grow_alloc (grow_trans (grow_drew (World.grownBy.refl _ _)) hg4) _⟩
    · go_region_held3 (fun wx => wx.cell? ⟨w.heap.size, 0, none⟩ = some (.string key) ∧ wx.cell? ⟨w.heap.size, 1, none⟩ = some (.string driver) ∧ wx.cell? ⟨w.heap.size, 2, none⟩ = some (.int .i64 fr) ∧ wx.cell? ⟨w.heap.size, 3, none⟩ = some (.int .i64 to_))
        (first
          | exact ⟨k0, k1, k2, k3⟩
          | exact q4
          | exact q5 _)
        (first
          | (go_at_call 70; refine (CT.out _).mono ?_; rintro e w4 ⟨rfl, hg4⟩; have hb2 := (hB.drewN 1).grown hg4 (by simp); have q5 := fun o => And.intro ((hb2.alloc o).cell_of (i := 0) (v := .string key) rfl) (And.intro ((hb2.alloc o).cell_of (i := 1) (v := .string driver) rfl) (And.intro ((hb2.alloc o).cell_of (i := 2) (v := .int .i64 fr) rfl) ((hb2.alloc o).cell_of (i := 3) (v := .int .i64 to_) rfl))); have q4 := And.intro (hb2.cell_of (i := 0) (v := .string key) rfl) (And.intro (hb2.cell_of (i := 1) (v := .string driver) rfl) (And.intro (hb2.cell_of (i := 2) (v := .int .i64 fr) rfl) (hb2.cell_of (i := 3) (v := .int .i64 to_) rfl))))
          | (go_at_call 69; with_reducible refine (CK.out _).mono ?_; rintro e w3 ⟨rfl, rfl⟩)
          | (go_at_call 69; with_reducible refine (CD.out _).mono ?_; rintro e w3 ⟨rfl, rfl⟩)
          | (go_at_call 68; refine (when_any _ _ _).mono ?_; rintro e w5 ⟨rfl, rfl⟩)
          | (go_at_call 67; refine (first_any [whenE (!D) 5, T] _ _ _ _ (Blk.at_ _ rfl _ _) (by simp)).mono ?_; rintro e w6 ⟨rfl, rfl⟩))
      all_goals
        go_wp2_with fail
        go_meet
        exact ⟨ret_val (by rw [HE1.out]; rfl), grow_alloc (grow_trans (grow_drew (World.grownBy.refl _ _)) hg4) _⟩
  case rest =>
    obtain ⟨rfl, hg1⟩ := hcut
    obtain ⟨w1, hw1⟩ : ∃ w1 : World, w1 = wc := ⟨_, rfl⟩
    rw [← hw1] at hg1 ⊢
    clear hw1 k0 k1 k2 k3
    have hb := hB.grown hg1 (by simp)
    have hgw : w.grownBy w1 none := grow_trans (grow_alloc (World.grownBy.refl _ _) _) hg1
    clear hg1 hB
    by_cases h0 : E1 = 0
    · have HP := Lib.hid (Hpass.out h0)
      subst h0
      have k4 := hb.cell_of (i := 4) (v := .slice A n c) rfl
      by_cases hn0 : n = 0
      · have hq : ((n : Int) == 0) = true := by simpa using hn0
        have HF := Lib.hid (show R = 3 by rw [HP.out, if_pos (by rw [Hl.out]; exact hn0)])
        clear hn0
        go_wp2_with fail
        go_ret
        exact ⟨ret_int HF.out.symm, hgw⟩
      · have hq : ((n : Int) == 0) = false := by simpa using hn0
        by_cases h20 : 20 < n
        · have hq2 : decide ((20 : Int) < (n : Int)) = true := by simp; omega
          have hq3 : decide (20 < n) = true := by simpa using h20
          have HF := Lib.hid (show R = 2 by rw [HP.out, if_neg (by rw [Hl.out]; exact hn0), if_pos (by rw [Hl.out]; exact h20)])
          clear hn0
          go_wp2_with fail
          go_ret
          exact ⟨ret_int HF.out.symm, hgw⟩
        · have hq2 : decide ((20 : Int) < (n : Int)) = false := by simp; omega
          have hq3 : decide (20 < n) = false := by simpa using h20
          have HF := Lib.hid (show R = legsE fr l (l.length - 0) by rw [HP.out, if_neg (by rw [Hl.out]; exact hn0), if_neg (by rw [Hl.out]; exact h20)]; rfl)
          clear hn0 HP
          have hn20 : n ≤ 20 := by omega
          go_wp2_with fail
          go_loopw [38] (fun i wr => ∃ k : Nat, k ≤ n ∧ i = .int .i64 k ∧ R = legsE fr l (l.length - k) ∧ w1.grownBy wr none) (fun i _ => n - (intOf i).toNat)
          case atStart => exact ⟨0, Nat.zero_le _, rfl, HF.out, World.grownBy.refl _ _⟩
          case round =>
            obtain ⟨k, hk, rfl, hE, hgr⟩ := hrel
            have HE := Lib.hid hE; clear hE
            by_cases hlt : k < n
            · have hlr := hl.grow0 (grow_trans hgw hgr)
              obtain ⟨g, hg⟩ : ∃ g, l[k]? = some g := ⟨_, List.getElem?_eq_getElem (by have := Hl.out; omega)⟩
              have hat := legs_at (fr := fr) hg
              obtain ⟨E, hEE⟩ : ∃ E, E = legE fr (prevOf l k) (decide (k + 1 = n)) g := ⟨_, rfl⟩
              rw [Hl.out, ← hEE] at hat
              rw [Hl.out] at HE
              have Hat := Lib.hid hat; clear hat
              have HEE := Lib.hid hEE; clear hEE
              have hbr := hb.grown hgr (by simp)
              have c0 := hbr.cell_of (i := 0) (v := .string key) rfl
              have c1 := hbr.cell_of (i := 1) (v := .string driver) rfl
              have c2 := hbr.cell_of (i := 2) (v := .int .i64 fr) rfl
              have c3 := hbr.cell_of (i := 3) (v := .int .i64 to_) rfl
              have c4 := hbr.cell_of (i := 4) (v := .slice A n c) rfl
              have Hg := Lib.hid hg
              clear hg
              go_wp2_with fail
              refine (checkLeg_any key driver fr to_ l A n c k g wr hlr Hg.out Hok.out hn).mono ?_
              rintro e w2 ⟨rfl, hg2⟩
              rw [← HEE.out]
              by_cases hE0 : E = 0
              · have HN := Lib.hid (show R = legsE fr l (n - (k + 1)) by rw [HE.out, Hat.out, if_pos hE0])
                subst hE0
                go_wp2_with fail
                go_roundw
                case rel => exact ⟨k + 1, by omega, by go_num, by rw [HN.out, Hl.out], grow_trans hgr hg2⟩
                case measure => simp [intOf]; omega
              · have hne : (E != 0) = true := by simpa using hE0
                have HN := Lib.hid (show R = E by rw [HE.out, Hat.out, if_neg hE0])
                clear hE0
                go_wp2_with fail
                go_ret
                exact ⟨ret_int HN.out.symm, grow_trans hgw (grow_trans hgr hg2)⟩
            · have HN := Lib.hid (show R = 0 by rw [HE.out, Hl.out, show n - k = 0 by omega]; rfl)
              go_wp2_with fail
              go_ret
              exact ⟨ret_int HN.out.symm, grow_trans hgw hgr⟩
    · have hne : (E1 != 0) = true := by simpa using h0
      have HR := Lib.hid (Hstop.out h0)
      clear h0
      go_wp2_with fail
      go_ret
      exact ⟨ret_int HR.out.symm, hgw⟩
end Go.Proofs.YtempjmpfdniecaaGreatDoor
namespace Go.Proofs.YtempjmpfdniecaaGreatDoor
open Go.RowKit
/-- What hire.made gives: the hire if it is right, else nothing. -/
def madeV (key driver : ByteArray) (fr to_ : Int) (A : Option Addr) (n c : Nat) (e : Int) : Value :=
  if e = 0 then .agg #[.string key, .string driver, .int .i64 fr, .int .i64 to_, .slice A n c] else .agg #[.string ⟨#[]⟩, .string ⟨#[]⟩, .int .i64 0, .int .i64 0, .slice none 0 0]
def GotVE (w : World) (v : Value) (e : Int) (d : Ending) (w' : World) : Prop := d = .returned (.tuple #[v, .int .i64 e]) ∧ w.grownBy w' none
theorem info_hr : (Tryz.prog.info? 30).map (·.size) = some 5 := by kernel_rfl
/-- Two results: a struct in a known block, and a number. -/
theorem ret_blk_tmp {P : Program} {fn : Func} {R : Ending → World → Prop} {a : Act} {w : World} {p u : Tmp} {ty : TypeId} (h : fn.results = #[.cell p ty, .tmp u]) (g : Nat) (t : TypeId) (cs : List Value) (d : TypeDesc) (hb : Blk w g t cs)
    (hp : a.tmps.getD p undef = .pointer (some ⟨g, 0, none⟩)) (v : Value) (hv : a.tmps.getD u undef = v) (hu : P.underlying ty = some d) (hd : d.isRow = true) (n : Nat) (hi : (P.info? ty).map (·.size) = some n) (hn : cs.length = n) (hdf : a.defers = [])
    (hR : R (.returned (.tuple #[.agg cs.toArray, v])) w) : bodyPost P fn R .ret a w := by
  refine bodyPost_ret (?_ : (results fn a.tmps).run P w = .ok (.tuple #[.agg cs.toArray, v]) w) hdf hR
  have hl := run_loadVar_row (P := P) w g t ty cs.toArray (0, 0) d hb hu (by cases d <;> simp_all [TypeDesc.isRow]) (by simpa [hn] using hi)
  rw [results_cell_tmp h]
  simp only [hp, hv]
  simp only [asAddr, Sem.run_pure, Result.andThen_ok]
  rw [hl]
  rfl
set_option maxRecDepth 100000 in
set_option maxHeartbeats 1000000 in
theorem made_any (key driver : ByteArray) (fr to_ : Int) (l : List Lg) (A : Option Addr) (n c : Nat) (w : World) (hl : SlT lgEnc 9 135 w A n l) (hok : HrOk key driver l) (hn : n ≤ 1000000) :
    Calls Tryz.prog 90 #[.agg #[.string key, .string driver, .int .i64 fr, .int .i64 to_, .slice A n c]] w (GotVE w (madeV key driver fr to_ A n c (hireE ⟨key, driver, fr, to_, l⟩)) (hireE ⟨key, driver, fr, to_, l⟩)) := by
  obtain ⟨E, hE⟩ : ∃ E, E = hireE ⟨key, driver, fr, to_, l⟩ := ⟨_, rfl⟩
  rw [← hE]
  have HE := Lib.hid hE
  clear hE
  go_enter Tryz.func90, Tryz.ntmps90
  go_wp2_with fail
  refine (hcheck_any key driver fr to_ l A n c _ ((hl.alloc _).alloc _) hok hn).mono ?_
  rintro e w1 ⟨rfl, hg1⟩
  rw [← HE.out]
  have hb1 : Blk w1 (w.heap.size + 1) 30 [.string ⟨#[]⟩, .string ⟨#[]⟩, .int .i64 0, .int .i64 0, .slice none 0 0] := (Blk.at_ (w.alloc _) (by simp) _ _).grown hg1 (by simp)
  have hb0 : Blk w1 w.heap.size 30 [.string key, .string driver, .int .i64 fr, .int .i64 to_, .slice A n c] := ((Blk.at_ w rfl _ _).alloc _).grown hg1 (by simp)
  have hgw : w.grownBy w1 none := grow_trans (grow_alloc (grow_alloc (World.grownBy.refl _ _) _) _) hg1
  have hz : ∀ k, some (w.heap.size + 1) = some k → w.heap.size ≤ k := fun k h => by cases h; omega
  clear hg1
  by_cases h0 : E = 0
  · have HV := Lib.hid (show madeV key driver fr to_ A n c E = .agg #[.string key, .string driver, .int .i64 fr, .int .i64 to_, .slice A n c] by rw [h0]; rfl)
    subst h0
    go_wp2_with (first
      | (with_reducible refine wpList_load_all rfl 30 (.tmp 1) rfl w.heap.size _ _ _ hb0 rfl Tryz.underlying30 rfl 5 info_hr rfl ?_)
      | (with_reducible refine wpList_store_all rfl 30 (.tmp 2) (.tmp 11) rfl (w.heap.size + 1) _ _ [.string key, .string driver, .int .i64 fr, .int .i64 to_, .slice A n c] hb1 rfl rfl 5 info_hr rfl rfl (by simp [Value.oneCell']) ?_
         intro w2 hb2 hg2))
    refine ret_blk_tmp (p := 2) (u := 3) (ty := 30) rfl (w.heap.size + 1) _ _ _ hb2 rfl (.int .i64 0) rfl Tryz.underlying30 rfl 5 info_hr rfl rfl ?_
    exact ⟨by rw [HV.out], grow_own hgw hg2 hz⟩
  · have hne : (E != 0) = true := by simpa using h0
    have HV := Lib.hid (show madeV key driver fr to_ A n c E = .agg #[.string ⟨#[]⟩, .string ⟨#[]⟩, .int .i64 0, .int .i64 0, .slice none 0 0] by unfold madeV; rw [if_neg h0])
    clear h0
    go_wp2_with (first
      | (with_reducible refine wpList_store_all rfl 30 (.tmp 2) (.tmp 9) rfl (w.heap.size + 1) _ _ [.string ⟨#[]⟩, .string ⟨#[]⟩, .int .i64 0, .int .i64 0, .slice none 0 0] hb1 rfl rfl 5 info_hr rfl rfl (by simp [Value.oneCell']) ?_
         intro w2 hb2 hg2))
    refine ret_blk_tmp (p := 2) (u := 3) (ty := 30) rfl (w.heap.size + 1) _ _ _ hb2 rfl (.int .i64 E) rfl Tryz.underlying30 rfl 5 info_hr rfl rfl ?_
    exact ⟨by rw [HV.out], grow_own hgw hg2 hz⟩
def startLeg (veh : ByteArray) (r : Rd) : Lg := ⟨veh, r, ⟨-1, ⟨#[]⟩, 0, 0⟩⟩
set_option maxRecDepth 100000 in
set_option maxHeartbeats 1000000 in
theorem start_any (key driver : ByteArray) (fr to_ : Int) (veh : ByteArray) (r : Rd) (w : World) (hk : key.size ≤ 1000000) (hd : driver.size ≤ 1000000) (hv : veh.size ≤ 1000000) (hr : RdOk r) :
    Calls Tryz.prog 96 #[.string key, .string driver, .agg #[.int .i64 fr, .int .i64 to_], .string veh, .agg (rdCells r).toArray] w (fun e w' => ∃ A,
      e = .returned (.tuple #[madeV key driver fr to_ A 1 1 (hireE ⟨key, driver, fr, to_, [startLeg veh r]⟩), .int .i64 (hireE ⟨key, driver, fr, to_, [startLeg veh r]⟩)]) ∧ SlT lgEnc 9 135 w' A 1 [startLeg veh r] ∧ w.grownBy w' none) := by
  obtain ⟨a1, s1, m1, f1⟩ := r
  have hok : HrOk key driver [startLeg veh ⟨a1, s1, m1, f1⟩] := ⟨hk, hd, fun g hg => by
    simp only [List.mem_singleton] at hg
    subst hg
    exact ⟨hv, hr, (by decide : (⟨#[]⟩ : ByteArray).size ≤ 1000000)⟩⟩
  show Calls Tryz.prog 96 #[.string key, .string driver, .agg #[.int .i64 fr, .int .i64 to_], .string veh, .agg #[.int .i64 a1, .string s1, .int .i64 m1, .int .i64 f1]] w _
  have Hok := Lib.hid hok
  clear hok
  obtain ⟨E, hE⟩ : ∃ E, E = hireE ⟨key, driver, fr, to_, [startLeg veh ⟨a1, s1, m1, f1⟩]⟩ := ⟨_, rfl⟩
  rw [← hE]
  have HE := Lib.hid hE
  clear hE
  go_enter Tryz.func96, Tryz.ntmps96
  go_wp2_with fail
  refine (made_any key driver fr to_ [startLeg veh ⟨a1, s1, m1, f1⟩] (some ⟨w.heap.size + 3, 0, none⟩) 1 1 _ (SlT.ofBlk (l := [startLeg veh ⟨a1, s1, m1, f1⟩]) lg_len (Blk.at_ _ (by simp) _ _)) Hok.out (by omega)).mono ?_
  rintro e w1 ⟨rfl, hg1⟩
  rw [← HE.out]
  clear HE Hok
  have hb1 : Blk w1 (w.heap.size + 2) 30 [.string ⟨#[]⟩, .string ⟨#[]⟩, .int .i64 0, .int .i64 0, .slice none 0 0] := ((Blk.at_ ((w.alloc _).alloc _) (by simp) _ _).alloc _).grown hg1 (by simp)
  have hl1 : SlT lgEnc 9 135 w1 (some ⟨w.heap.size + 3, 0, none⟩) 1 [startLeg veh ⟨a1, s1, m1, f1⟩] := (SlT.ofBlk (l := [startLeg veh ⟨a1, s1, m1, f1⟩]) lg_len (Blk.at_ (((w.alloc _).alloc _).alloc _) (by simp) _ _)).grow0 hg1
  have hgw : w.grownBy w1 none := grow_trans (grow_alloc (grow_alloc (grow_alloc (grow_alloc (World.grownBy.refl _ _) _) _) _) _) hg1
  have hz : ∀ k, some (w.heap.size + 2) = some k → w.heap.size ≤ k := fun k h => by cases h; omega
  clear hg1
  by_cases h0 : E = 0
  · have hV : madeV key driver fr to_ (some ⟨w.heap.size + 3, 0, none⟩) 1 1 E = .agg #[.string key, .string driver, .int .i64 fr, .int .i64 to_, .slice (some ⟨w.heap.size + 3, 0, none⟩) 1 1] := by rw [h0]; rfl
    rw [hV]
    have HV := Lib.hid hV
    clear h0 hV
    go_wp2_with (first
      | (with_reducible refine wpList_store_all rfl 30 (.tmp 10) (.tmp 22) rfl (w.heap.size + 2) _ _ [.string key, .string driver, .int .i64 fr, .int .i64 to_, .slice (some ⟨w.heap.size + 3, 0, none⟩) 1 1] hb1 rfl rfl 5 info_hr rfl rfl (by simp [Value.oneCell']) ?_
         intro w2 hb2 hg2))
    refine ret_blk_tmp (p := 10) (u := 11) (ty := 30) rfl (w.heap.size + 2) _ _ _ hb2 rfl (.int .i64 E) rfl Tryz.underlying30 rfl 5 info_hr rfl rfl ?_
    exact ⟨some ⟨w.heap.size + 3, 0, none⟩, by rw [HV.out], hl1.grown hg2 hb1 (by decide), grow_own hgw hg2 hz⟩
  · have hV : madeV key driver fr to_ (some ⟨w.heap.size + 3, 0, none⟩) 1 1 E = .agg #[.string ⟨#[]⟩, .string ⟨#[]⟩, .int .i64 0, .int .i64 0, .slice none 0 0] := by unfold madeV; rw [if_neg h0]
    rw [hV]
    have HV := Lib.hid hV
    clear h0 hV
    go_wp2_with (first
      | (with_reducible refine wpList_store_all rfl 30 (.tmp 10) (.tmp 22) rfl (w.heap.size + 2) _ _ [.string ⟨#[]⟩, .string ⟨#[]⟩, .int .i64 0, .int .i64 0, .slice none 0 0] hb1 rfl rfl 5 info_hr rfl rfl (by simp [Value.oneCell']) ?_
         intro w2 hb2 hg2))
    refine ret_blk_tmp (p := 10) (u := 11) (ty := 30) rfl (w.heap.size + 2) _ _ _ hb2 rfl (.int .i64 E) rfl Tryz.underlying30 rfl 5 info_hr rfl rfl ?_
    exact ⟨some ⟨w.heap.size + 3, 0, none⟩, by rw [HV.out], hl1.grown hg2 hb1 (by decide), grow_own hgw hg2 hz⟩
end Go.Proofs.YtempjmpfdniecaaGreatDoor
namespace Go.Proofs.YtempjmpfdniecaaGreatDoor
open Go.RowKit
set_option maxHeartbeats 400000 in
theorem formed_nil (w : World) : Calls Tryz.prog 253 #[.slice none 0 0] w (GotE w 0) := by
  go_enter Tryz.func253, Tryz.ntmps253
  go_wp2_with fail
  go_loopw [10] (fun i wr => i = .int .i64 0 ∧ wr = w) (fun _ _ => 0)
  case atStart => exact ⟨rfl, rfl⟩
  case round =>
    obtain ⟨rfl, rfl⟩ := hrel
    go_wp2_with fail
    go_ret
    exact ⟨rfl, World.grownBy.refl _ _⟩
set_option maxHeartbeats 400000 in
theorem checkOdds_nil (w : World) : Calls Tryz.prog 191 #[.slice none 0 0] w (GotE w 0) := by
  go_enter Tryz.func191, Tryz.ntmps191
  go_wp2_with fail
  refine (formed_nil _).mono ?_
  rintro e w1 ⟨rfl, hg1⟩
  go_wp2_with fail
  refine (when_any _ _ _).mono ?_
  rintro e w2 ⟨rfl, rfl⟩
  go_wp2_with fail
  refine (first_any [0, whenE false 2] _ _ _ _ (Blk.at_ _ rfl _ _) (by simp)).mono ?_
  rintro e w6 ⟨rfl, rfl⟩
  go_wp2_with fail
  go_ret
  exact ⟨rfl, grow_alloc hg1 _⟩
set_option maxHeartbeats 400000 in
theorem spread_nil (w : World) : Calls Tryz.prog 192 #[.slice none 0 0] w (fun e w' => ∃ g c, e = .returned (.tuple #[.slice (some ⟨g, 0, none⟩) 1 c, .int .i64 1]) ∧ g < w'.heap.size ∧ w'.cell? ⟨g, 0, none⟩ = some (.int .i64 1) ∧ w.grownBy w' none) := by
  go_enter Tryz.func192, Tryz.ntmps192
  go_wp2_with fail
  go_loopw [4, 5, 14] (fun s n i wr => s = .slice (some ⟨w.heap.size, 0, none⟩) 1 1 ∧ n = .int .i64 1 ∧ i = .int .i64 0 ∧ wr = w.alloc (.cells #[.int .i64 1] 3)) (fun _ _ _ _ => 0)
  case atStart => exact ⟨rfl, rfl, rfl, rfl⟩
  case round =>
    obtain ⟨rfl, rfl, rfl, rfl⟩ := hrel
    go_wp2_with fail
    go_ret2
    exact ⟨_, _, rfl, by simp, (Blk.at_ w rfl 3 [.int .i64 1]).cell_of rfl, grow_alloc (World.grownBy.refl _ _) _⟩
theorem info_fr : (Tryz.prog.info? 196).map (·.size) = some 2 := by kernel_rfl
set_option maxRecDepth 100000 in
set_option maxHeartbeats 400000 in
theorem lowest_one (w : World) : Calls Tryz.prog 193 #[.int .i64 1, .int .i64 1] w (fun e w' => e = .returned (.agg #[.int .i64 1, .int .i64 1]) ∧ w.grownBy w' none) := by
  go_enter Tryz.func193, Tryz.ntmps193
  go_wp2_with fail
  go_loopw [5, 6] (fun a b wr => a = .int .i64 1 ∧ (b = .int .i64 0 ∨ b = .int .i64 1) ∧ w.grownBy wr none ∧ Blk wr w.heap.size 196 [.int .i64 0, .int .i64 0]) (fun _ b _ => (intOf b).toNat)
  case atStart => exact ⟨rfl, .inr rfl, grow_alloc (World.grownBy.refl _ _) _, Blk.at_ w rfl _ _⟩
  case round =>
    obtain ⟨rfl, hk, hgr, hb⟩ := hrel
    rcases hk with rfl | rfl
    · go_wp2_with fail
      refine wp_region_still_tail 7 (by kernel_rfl) (by kernel_rfl) ?_
      change wpStill _ _ (World.drew _) _ _ _
      simp only [List.take_succ_cons, List.take_zero, List.drop_succ_cons, List.drop_zero]
      repeat still_step
      refine wpStill_nil ?_
      change wpList _ _ _ _ _ (World.drew _)
      go_wp2_with (with_reducible refine wpList_store_all rfl 196 (.tmp 4) (.tmp 24) rfl w.heap.size _ _ [.int .i64 1, .int .i64 1] hb.drew rfl rfl 2 info_fr rfl rfl (by simp [Value.oneCell']) ?_
                   intro w2 hb2 hg2)
      refine ret_blk (p := 4) (ty := 196) rfl w.heap.size _ _ _ hb2 rfl Tryz.underlying196 rfl 2 info_fr rfl rfl ?_
      exact ⟨rfl, grow_own (grow_drew hgr) hg2 (fun k h => by cases h; exact Nat.le_refl _)⟩
    · go_wp2_with fail
      go_quiet (fail)
      go_wp2_with fail
      go_roundw
      case rel => exact ⟨rfl, .inl rfl, grow_drewN hgr _, hb.drewN _⟩
      case measure => simp [intOf]
set_option maxRecDepth 100000 in
set_option maxHeartbeats 1000000 in
theorem bspread_nil (w : World) : Calls Tryz.prog 95 #[.slice none 0 0] w (fun e w' => ∃ A c, e = .returned (.tuple #[.slice A 1 c, .int .i64 0]) ∧ w.grownBy w' none) := by
  go_enter Tryz.func95, Tryz.ntmps95
  go_wp2_with fail
  refine (checkOdds_nil _).mono ?_
  rintro e w1 ⟨rfl, hg1⟩
  go_wp2_with fail
  refine (spread_nil _).mono ?_
  rintro e w2 ⟨g, c, rfl, hlt, hc, hg2⟩
  have hgw : w.grownBy w2 none := grow_trans hg1 hg2
  clear hg1 hg2
  go_wp2_with fail
  go_loopw [7, 22] (fun s i wr => w2.grownBy wr none ∧ ((i = .int .i64 0 ∧ s = .slice none 0 0) ∨ (i = .int .i64 1 ∧ ∃ A c, s = .slice A 1 c))) (fun _ i _ => 1 - (intOf i).toNat)
  case atStart => exact ⟨World.grownBy.refl _ _, .inl ⟨rfl, rfl⟩⟩
  case round =>
    obtain ⟨hgr, hs⟩ := hrel
    rcases hs with ⟨rfl, rfl⟩ | ⟨rfl, A, c', rfl⟩
    · have hc1 : wr.cell? ⟨g, 0, none⟩ = some (.int .i64 1) := (World.cell?_of_block (hgr.block g hlt (by simp))).trans hc
      go_wp2_with fail
      refine (lowest_one _).mono ?_
      rintro e w3 ⟨rfl, hg3⟩
      go_wp2_with fail
      go_roundw
      case rel => exact ⟨grow_drew (grow_alloc (grow_alloc (grow_trans hgr hg3) _) _), .inr ⟨rfl, _, _, rfl⟩⟩
      case measure => simp [intOf]
    · go_wp2_with fail
      go_ret2
      exact ⟨_, _, rfl, grow_trans hgw hgr⟩
end Go.Proofs.YtempjmpfdniecaaGreatDoor
namespace Go.Proofs.YtempjmpfdniecaaGreatDoor
open Go.RowKit
theorem timeE_okT {a b : Int} (h : timeE a b = 0) : 0 ≤ a ∧ a < b ∧ b ≤ 5761439 := by
  unfold timeE at h
  split at h
  · cases h
  · omega
theorem tdays_any (fr tt : Int) (w : World) :
  Calls Tryz.prog 93 #[.agg #[.int .i64 fr, .int .i64 tt]] w (fun e w' => e = .returned (.tuple #[.int .i64 (if timeE fr tt = 0 then daysV fr tt else 0), .int .i64 (timeE fr tt)]) ∧ w.grownBy w' none) := by
 refine gw_enter ⟨12, w, none, []⟩ Tryz.func93 rfl Tryz.ntmps93 rfl (mem0 (X := []) allF_nil allL_nil) ?_
 refine sr_ ?_
 refine wl_box rfl rfl rfl fun g1 => ?_
 refine sg_ rfl (sg_ rfl (nn_ (gw_seq (sr_ ?_))))
 refine wl_ov (ov_loads rz27 rfl (fun _ hm => hm.blkI 0 rfl) rfl rfl) rfl ?_
 refine wl_callv rfl cb70 rfl rfl (fun wx hm => (time_any _ _ wx)) ?_
 refine sg_ rfl (nn_ (sr_ (mv_ rfl (wl_ov (ov_neq rfl rfl) rfl (nn_ ?_)))))
 refine gw_cond rfl (fun hh => ?_) (fun hh => ?_)
 ·have h1 : ¬ (timeE fr tt = 0) := by simpa using hh
  clear hh
  refine sr_ (mv_ rfl (sg_ rfl (sg_ rfl (nn_ ?_))))
  refine gw_ret ?_
  refine nx_then_ret ?_
  refine nx_ret2 rfl rfl rfl fun wx hm => ?_
  exact ⟨by rw [if_neg h1], hm.g⟩
 have h1 : timeE fr tt = 0 := by simpa using hh
 clear hh
 refine gw_skip (nx_then (sr_ ?_))
 obtain ⟨h2, h3, h4⟩ := timeE_okT h1
 refine wl_ov (ov_loads rz27 rfl (fun _ hm => hm.blkI 0 rfl) rfl rfl) rfl ?_
 refine wl_callv rfl cb173 rfl rfl (fun wx hm => (days_any _ _ wx (by omega) (by omega) (by omega))) ?_
 refine sg_ rfl (sg_ rfl (nn_ ?_))
 refine gw_ret ?_
 refine nx_ret2 rfl rfl rfl fun wx hm => ?_
 exact ⟨by rw [if_pos h1, h1], hm.g⟩
end Go.Proofs.YtempjmpfdniecaaGreatDoor
namespace Go.Proofs.YtempjmpfdniecaaGreatDoor
open Go.RowKit
theorem ready_open : isOpenV ⟨⟨#[115]⟩, [0, 9, 0, 0, 0, 0, 0, 0, 0, 0, 0, 0, 0, 0]⟩ 8 = true ∧ isOpenE ⟨⟨#[115]⟩, [0, 9, 0, 0, 0, 0, 0, 0, 0, 0, 0, 0, 0, 0]⟩ 8 = 0 := ⟨by kernel_rfl, by kernel_rfl⟩
theorem ready_days : (if timeE 0 1441 = 0 then daysV 0 1441 else 0) = 2 ∧ timeE 0 1441 = 0 := ⟨by decide +kernel, by decide +kernel⟩
theorem ready_hire : hireE ⟨⟨#[104]⟩, ⟨#[100]⟩, 5, 9, [startLeg ⟨#[118]⟩ ⟨5, ⟨#[115]⟩, 0, 0⟩]⟩ = 0 := by kernel_rfl
set_option maxRecDepth 100000 in
set_option maxHeartbeats 1000000 in
theorem ready_any (w : World) : Calls Tryz.prog 23 #[] w (fun e w' => e = .returned (.bool true) ∧ w.grownBy w' none) := by
  have cD : ∀ w, Calls Tryz.prog 93 #[.agg #[.int .i64 0, .int .i64 1441]] w (fun e w' => e = .returned (.tuple #[.int .i64 2, .int .i64 0]) ∧ w.grownBy w' none) := fun w => by
    have h := tdays_any 0 1441 w
    rw [ready_days.1, ready_days.2] at h
    exact h
  have cO : ∀ w, Calls Tryz.prog 94 #[.agg #[.string ⟨#[115]⟩, .int .i64 0, .int .i64 9, .int .i64 0, .int .i64 0, .int .i64 0, .int .i64 0, .int .i64 0, .int .i64 0, .int .i64 0, .int .i64 0, .int .i64 0, .int .i64 0, .int .i64 0, .int .i64 0], .int .i64 8] w (RetBE w true 0) := fun w => by
    have hs : ∀ h ∈ [0, 9, 0, 0, 0, 0, 0, 0, 0, 0, 0, 0, 0, (0 : Int)], 0 ≤ h ∧ h ≤ 9 := by decide
    have h := lotOpen_any ⟨#[115]⟩ [0, 9, 0, 0, 0, 0, 0, 0, 0, 0, 0, 0, 0, 0] 8 w ⟨rfl, (by decide : (⟨#[115]⟩ : ByteArray).size ≤ 1000000), fun h hh => by have := hs h hh; omega⟩ (fun h hh => by have := hs h hh; omega)
    rw [ready_open.1, ready_open.2] at h
    exact h
  have cH : ∀ w, Calls Tryz.prog 96 #[.string ⟨#[104]⟩, .string ⟨#[100]⟩, .agg #[.int .i64 5, .int .i64 9], .string ⟨#[118]⟩, .agg #[.int .i64 5, .string ⟨#[115]⟩, .int .i64 0, .int .i64 0]] w (fun e w' => ∃ A, e = .returned (.tuple #[.agg #[.string ⟨#[104]⟩, .string ⟨#[100]⟩, .int .i64 5, .int .i64 9, .slice A 1 1], .int .i64 0]) ∧ w.grownBy w' none) := fun w => by
    have h := start_any ⟨#[104]⟩ ⟨#[100]⟩ 5 9 ⟨#[118]⟩ ⟨5, ⟨#[115]⟩, 0, 0⟩ w (by decide) (by decide) (by decide) (by decide : (⟨#[115]⟩ : ByteArray).size ≤ 1000000)
    rw [ready_hire] at h
    exact h.mono fun e w' ⟨A, h1, _, h3⟩ => ⟨A, h1, h3⟩
  have CD := Lib.hid cD
  have CO := Lib.hid cO
  have CH := Lib.hid cH
  clear cD cO cH
  go_enter Tryz.func23, Tryz.ntmps23
  go_wp2_with fail
  refine (CD.out _).mono ?_
  rintro e w1 ⟨rfl, hg1⟩
  go_wp2_with fail
  refine (CO.out _).mono ?_
  rintro e w2 ⟨rfl, hg2⟩
  go_wp2_with fail
  refine (bspread_nil _).mono ?_
  rintro e w3 ⟨A3, c3, rfl, hg3⟩
  go_wp2_with fail
  refine (CH.out _).mono ?_
  rintro e w4 ⟨A4, rfl, hg4⟩
  go_wp2_with fail
  go_ret
  exact ⟨rfl, grow_alloc (grow_trans (grow_trans (grow_trans hg1 hg2) hg3) hg4) _⟩
end Go.Proofs.YtempjmpfdniecaaGreatDoor
namespace Go.Proofs.YtempjmpfdniecaaGreatDoor
open Go.RowKit
theorem greedyIsNotBetter_walk (a0 : Option Addr) (len0 cap0 : Nat) (z0 : List Int) (w : World) (hR : RowIn w a0 len0 cap0 z0) :
  Calls Tryz.prog 9 #[.slice a0 len0 cap0] w fun e w' => e = .returned (.bool true) ∧ Below w.heap.size w w' := by
 refine gw_enter ⟨116, w, none, []⟩ Tryz.func9 rfl Tryz.ntmps9 rfl (mem0 (X := []) allF_nil allL_nil) ?_
 refine sr_ (sg_ rfl (nn_ (sr_ (mv_ rfl ?_))))
 refine wl_ov (ov_build (cs := [.slice a0 len0 cap0, .int .i64 0]) rfl (by kernel_rfl)) rfl ?_
 refine wl_box rfl rfl rfl fun sb => ?_
 refine sg_ rfl (nn_ (sr_ (mv_ rfl ?_)))
 refine wl_law [158, 211, 92] hR 0 rfl fun w1 B hg1 hsb => ?_
 refine wl_calls (γ := Option Addr × Nat × List Cs) (val := (fun g => .slice g.1 4 g.2.1)) (φ := (fun g => g.2.2.length = 4 ∧ ∀ x ∈ g.2.2, CsOk x)) (Y := (fun g => fun wy => SlT csEnc 2 158 wy g.1 4 g.2.2)) (m' := 0 + 20) rfl cb56 rfl rfl rfl rfl (fun wx hm => (gclasses_any wx B sb _ hm.k (by omega)).mono fun _ _ ⟨A, c, l, he, ho, hl, hok, hS, hg⟩ => ⟨(A, c, l), he, ⟨hl, hok⟩, hS, hg, SlT.ofOwn cs_len ho hl⟩) (fun _ => SlT.lasts2 rfl) ?_
 rintro ⟨A0, c0, cs⟩ hcs
 dsimp only at hcs ⊢
 obtain ⟨hc4, hco⟩ := hcs
 refine mv_ rfl ?_
 refine wl_calls (γ := Option Addr × Nat × Nat × List Sk) (val := (fun g => .slice g.1 g.2.1 g.2.2.1)) (φ := (fun g => g.2.2.2.length = g.2.1 ∧ (∀ x ∈ g.2.2.2, SkOk x) ∧ g.2.1 ≤ 5)) (Y := (fun g => fun wy => SlT skEnc 2 211 wy g.1 g.2.1 g.2.2.2)) (m' := 0 + 20 + 100) rfl cb57 rfl rfl rfl rfl (fun wx hm => (gstock_any wx B sb _ hm.k (by omega)).mono fun _ _ ⟨A, n, c, l, he, ho, hl, hok, hn, hS, hg⟩ => ⟨(A, n, c, l), he, ⟨hl, hok, hn⟩, hS, hg, SlT.ofOwn sk_len ho hl⟩) (fun _ => SlT.lasts2 rfl) ?_
 rintro ⟨A1, n1, c1, sl⟩ hss
 dsimp only at hss ⊢
 obtain ⟨hs1, hso, hn5⟩ := hss
 refine mv_ rfl (mv_ rfl ?_)
 refine wl_buildSlice (e := 3) (cs := [.int .i64 1, .int .i64 2, .int .i64 3, .int .i64 4, .int .i64 5, .int .i64 6, .int .i64 7]) rfl (by kernel_rfl) rfl fun g1 => ?_
 refine wl_got (γ := Int) (val := fun v => .int .i64 v) (φ := fun v => v ∈ ([1, 2, 3, 4, 5, 6, 7] : List Int)) rfl cb11 rfl rfl rfl rfl (fun wx hm => (pick_any [1, 2, 3, 4, 5, 6, 7] _ _ _ wx B sb _ hm.k (by omega) (by simp) (by simp) (hm.blkI 0 rfl) (hm.neRow 0 rfl rfl))) fun pk hpk => ?_
 have bpk : 1 ≤ pk ∧ pk ≤ 7 := mem_rng hpk (by decide)
 have bpk0 := bpk.1
 have bpk1 := bpk.2
 clear bpk
 obtain ⟨q, rfl⟩ := Int.eq_ofNat_of_zero_le (show 0 ≤ pk by omega)
 have hq9 : q ≤ 9 := by omega
 refine wl_calls (γ := Option Addr × Nat × Nat × List Bk) (val := (fun g => .slice g.1 g.2.1 g.2.2.1)) (φ := (fun g => (∀ b ∈ g.2.2.2, BkOk b) ∧ g.2.1 ≤ q ∧ g.2.1 ≤ g.2.2.1 ∧ g.2.2.2.length = g.2.1)) (Y := (fun g => fun wy => SlT bkEnc 6 92 wy g.1 g.2.1 g.2.2.2)) (m' := 0 + 20 + 100 + 1 + 1000) rfl cb48 rfl rfl rfl rfl (fun wx hm => (gbookings_anyQ q wx B sb _ hm.k (by omega) hq9).mono fun _ _ ⟨A, n, c, l, he, hsl, hok, hn, hnc, hS, hg⟩ => ⟨(A, n, c, l), he, ⟨hok, hn, hnc, hsl.len⟩, hS, hg, hsl⟩) (fun _ => SlT.lasts2 rfl) ?_
 rintro ⟨A, n, c, l⟩ hH
 dsimp only at hH ⊢
 obtain ⟨hok, hnq, hnc, hlen⟩ := hH
 have hn7 : n ≤ 7 := by omega
 obtain ⟨SE, hSE⟩ : ∃ E, E = stockE cs sl := ⟨_, rfl⟩
 obtain ⟨KE, hKE⟩ : ∃ E, E = checkE cs l := ⟨_, rfl⟩
 refine sg_ rfl (sg_ rfl (sg_ rfl (nn_ (gw_seq (sr_ (mv_ rfl (mv_ rfl ?_)))))))
 refine wl_nest none [90, 9] fun w2 hm_w2 => ⟨_, _, _, _, mem0 (X := [BlkOld w2.heap.size none g1 3 [.int .i64 1, .int .i64 2, .int .i64 3, .int .i64 4, .int .i64 5, .int .i64 6, .int .i64 7], SlOld csEnc 2 158 w2.heap.size none A0 4 cs, SlOld skEnc 2 211 w2.heap.size none A1 n1 sl, SlOld bkEnc 6 92 w2.heap.size none A n l]) (allF_cons (hm_w2.blkI 0 rfl).old (allF_cons (SlT.old (hm_w2.fact 2 rfl)) (allF_cons (SlT.old (hm_w2.fact 1 rfl)) (allF_cons (SlT.old (hm_w2.fact 0 rfl)) allF_nil)))) (allL_cons BlkOld.lasts (allL_cons SlOld.lasts (allL_cons SlOld.lasts (allL_cons SlOld.lasts allL_nil)))), ?_⟩
 refine wl_callv (v := .int .i64 SE) rfl cb58 rfl rfl (fun wx hm => (by rw [hSE]; exact stockFault_any cs A0 4 c0 sl A1 n1 c1 wx (hm.fact 1 rfl).1 hco (by omega) (hm.fact 2 rfl).1 hso (by omega))) ?_
 by_cases hs0 : SE = 0
 ·subst hs0
  refine wl_ov (ov_neq rfl rfl) rfl ?_
  refine wl_set 31 (v' := .bool false) rfl (congrArg Value.bool (by decide)) ?_
  refine mv_ rfl (wl_guard_on rfl rfl rfl (mv_ rfl (wl_guard_on rfl rfl rfl (mv_ rfl (wl_guard_on rfl rfl rfl ?_)))))
  refine wl_callv (v := .int .i64 KE) rfl cb51 rfl rfl (fun wx hm => (by rw [hKE]; exact bookingsFault_any cs A0 4 c0 l A n c wx (hm.fact 1 rfl).1 hco (by omega) (hm.fact 3 rfl).1 hok (by omega))) ?_
  by_cases hk0 : KE = 0
  ·subst hk0
   have h0 : firstE [stockE cs sl, checkE cs l] = 0 := by rw [← hSE, ← hKE]; rfl
   obtain ⟨⟨h30, hcl, hlo⟩, hmany, hkeys, htm0, _⟩ := right_has h0
   have htm : ∀ b ∈ l, b.fr < b.to_ := fun b hb => (htm0 b hb).2.1
   have hix := keys_ix hkeys
   refine wl_guard_on rfl rfl rfl (wl_ov (ov_neq rfl rfl) rfl ?_)
   refine wl_set 36 (v' := .bool false) rfl (congrArg Value.bool (by decide)) ?_
   refine pf_ rfl rfl (nn_ (cf_ rfl (gw_skip (nx_then (sr_ (mv_ rfl (mv_ rfl (mv_ rfl ?_))))))))
   refine wl_callx (γ := Option Addr × Nat × Nat × Option Addr × Nat × Nat) (val := (fun g => .tuple #[.slice g.1 g.2.1 g.2.2.1, .slice g.2.2.2.1 g.2.2.2.2.1 g.2.2.2.2.2, .int .i64 0])) (φ := (fun g => (givenE cs sl l).length = g.2.1 ∧ (waitE cs sl l).length = g.2.2.2.2.1 ∧ g.2.1 ≤ 9 ∧ g.2.1 ≤ g.2.2.1)) (Y := (fun g => fun wy => SlT gvEnc 3 90 wy g.1 g.2.1 (givenE cs sl l))) rfl cb59 rfl rfl (fun wx hm => (greedy_rightC cs A0 4 c0 sl A1 n1 c1 l A n c wx (hm.fact 1 rfl).1 hco (by omega) (hm.fact 2 rfl).1 hso (by omega) (hm.fact 3 rfl).1 hok (by omega) h0).mono fun _ _ ⟨Ag, k, cg, Al, q, cw, he, h1, h2, hk, hq, hcc, hg⟩ => ⟨(Ag, k, cg, Al, q, cw), he, ⟨h1.len, h2.len, hk, hcc⟩, hg, h1⟩) (fun _ => SlT.lasts2 rfl) ?_
   rintro ⟨Ag, gk, cg, Al, lk, cw⟩ hgl
   dsimp only at hgl ⊢
   obtain ⟨hgk, hlk, hgk9, hgc⟩ := hgl
   have hgw := giv_wait (cs := cs) (sl := sl) (l := l)
   have hA0 : asE cs sl l = 0 := by
    unfold asE
    rw [h0, decide_eq_false (by omega)]; rfl
   refine mv_ rfl (wl_ov (ov_extract rfl rfl) rfl (wl_ov (ov_extract rfl rfl) rfl (wl_ov (ov_extract rfl rfl) rfl (sg_ rfl (sg_ rfl (sg_ rfl (nn_ (sr_ (mv_ rfl (mv_ rfl (mv_ rfl ?_)))))))))))
   rcases hao : asgO cs sl l with _ | o
   ·refine wl_callv rfl cb35 rfl rfl (fun wx hm => ((assignA_rightC cs A0 4 c0 sl A1 n1 c1 l A n c wx (hm.fact 2 rfl).1 hco (by omega) (hm.fact 3 rfl).1 hso (by omega) (hm.fact 4 rfl).1 hok (by omega) hA0).mono fun _ _ ⟨h, hg⟩ => by
     rcases h with ⟨_, he⟩ | ⟨o, A2, c2, h2, _⟩
     ·exact ⟨he, hg⟩
     rw [hao] at h2; cases h2)) ?_
    have hlk0 : 0 < lk := by
     rcases Nat.eq_zero_or_pos lk with h | h
     ·obtain ⟨_, o, ho, _⟩ := greedy_less (sl := sl) hcl hlo hix htm (List.length_eq_zero_iff.1 (hlk.trans h))
      rw [hao] at ho; cases ho
     exact h
    refine mv_ rfl (wl_ov (ov_extract rfl rfl) rfl (wl_ov (ov_extract rfl rfl) rfl (sg_ rfl (sg_ rfl (nn_ (gw_seq (sr_ (mv_ rfl (wl_ov (ov_neq rfl rfl) rfl ?_)))))))))
    refine wl_set 55 (v' := .bool false) rfl (congrArg Value.bool (by decide)) ?_
    refine mv_ rfl (wl_guard_on rfl rfl rfl (mv_ rfl (wl_guard_on rfl rfl rfl (wl_ov (ov_eql rfl rfl) rfl ?_))))
    refine wl_set 58 (v' := .bool false) rfl (congrArg Value.bool (by decide)) ?_
    refine wl_guard_on rfl rfl rfl (mv_ rfl (goff rfl rfl rfl (goff rfl rfl rfl (goff rfl rfl rfl (goff rfl rfl rfl (goff rfl rfl rfl (goff rfl rfl rfl (wl_guard_on rfl rfl rfl (pf_ rfl rfl (pf_ rfl rfl (nn_ (cf_ rfl ?_))))))))))))
    refine gw_skip (nx_then (gw_seq (sr_ (mv_ rfl (wl_ov (ov_len es103 rfl) rfl ?_)))))
    refine wl_ov (ov_gtr rfl rfl) rfl ?_
    refine nn_ ?_
    refine gw_set 70 (v' := .bool true) rfl (congrArg Value.bool (decide_eq_true (by omega))) ?_
    have hll : ((gk : Nat) : Int) + ((lk : Nat) : Int) = ((n : Nat) : Int) := by omega
    refine ct_ rfl (sr_ (mv_ rfl (wl_ov (ov_len es80 rfl) rfl (mv_ rfl (wl_ov (ov_len es103 rfl) rfl (ad_ rfl rfl (mv_ rfl (wl_ov (ov_len es76 rfl) rfl (wl_ov (ov_eql rfl rfl) rfl (mv_ rfl ?_))))))))))
    refine wl_set 79 (v' := .bool true) rfl (congrArg Value.bool (decide_eq_true hll)) ?_
    refine wl_guard_on rfl rfl rfl ?_
    refine wl_callv rfl cb23 rfl rfl (fun wx hm => (ready_any wx)) ?_
    refine pt_ rfl rfl (sg_ rfl (nn_ ?_))
    refine gw_ret ?_
    refine nx_then_ret ?_
    refine nx_ret1 rfl rfl fun wx hm => ?_
    exact ⟨rfl, law_end hg1 hsb (grow_trans hm_w2.g (grow_weak hm.g))⟩
   refine wl_callx (γ := Option Addr × Nat) (val := (fun g => .tuple #[.slice g.1 n g.2, .int .i64 0])) (φ := (fun g => n ≤ g.2)) (Y := (fun g => fun wy => SlT gvEnc 3 90 wy g.1 n (gvO l o))) rfl cb35 rfl rfl (fun wx hm => (assignA_rightC cs A0 4 c0 sl A1 n1 c1 l A n c wx (hm.fact 2 rfl).1 hco (by omega) (hm.fact 3 rfl).1 hso (by omega) (hm.fact 4 rfl).1 hok (by omega) hA0).mono fun _ _ ⟨h, hg⟩ => by
    rcases h with ⟨h2, _⟩ | ⟨o2, A2, c2, h2, he, hs, hcc⟩
    ·rw [hao] at h2; cases h2
    rw [hao] at h2; cases h2; exact ⟨(A2, c2), he, hcc, hg, hs⟩) (fun _ => SlT.lasts2 rfl) ?_
   rintro ⟨A2, c2⟩ hc2
   dsimp only at hc2 ⊢
   obtain ⟨no, hno⟩ := asgO_sols hcl hlo hix htm hao
   obtain ⟨hz1, _⟩ := asg_right hcl hlo hix htm hno
   have hza : gchE cs sl l (gvO l o) = 0 := by
    unfold gchE
    rw [if_pos h0]; exact hz1
   refine mv_ rfl (wl_ov (ov_extract rfl rfl) rfl (wl_ov (ov_extract rfl rfl) rfl (sg_ rfl (sg_ rfl (nn_ (gw_seq (sr_ (mv_ rfl (wl_ov (ov_neq rfl rfl) rfl ?_)))))))))
   refine wl_set 55 (v' := .bool false) rfl (congrArg Value.bool (by decide)) ?_
   refine mv_ rfl (wl_guard_on rfl rfl rfl (mv_ rfl (wl_guard_on rfl rfl rfl (wl_ov (ov_eql rfl rfl) rfl ?_))))
   refine wl_set 58 (v' := .bool true) rfl (congrArg Value.bool (by decide)) ?_
   refine wl_guard_on rfl rfl rfl (mv_ rfl (wl_guard_on rfl rfl rfl (mv_ rfl (wl_guard_on rfl rfl rfl (mv_ rfl (wl_guard_on rfl rfl rfl (mv_ rfl (wl_guard_on rfl rfl rfl (mv_ rfl (wl_guard_on rfl rfl rfl ?_))))))))))
   refine wl_callv (v := .int .i64 0) rfl cb60 rfl rfl (fun wx hm => (by have h := checkGiven_any cs A0 4 c0 sl A1 n1 c1 l A n c (gvO l o) A2 n c2 wx (hm.fact 3 rfl).1 hco (by omega) (hm.fact 4 rfl).1 hso (by omega) (hm.fact 5 rfl).1 hok (by omega) (hm.fact 0 rfl) (by omega) hc2; rw [hza] at h; exact h)) ?_
   refine wl_guard_on rfl rfl rfl (wl_ov (ov_neq rfl rfl) rfl ?_)
   refine wl_set 65 (v' := .bool false) rfl (congrArg Value.bool (by decide)) ?_
   refine wl_guard_on rfl rfl rfl (pt_ rfl rfl (pf_ rfl rfl (nn_ (cf_ rfl (gw_skip (nx_then (gw_seq (sr_ (mv_ rfl (wl_ov (ov_len es103 rfl) rfl ?_))))))))))
   refine wl_ov (ov_gtr rfl rfl) rfl ?_
   refine nn_ ?_
   refine gw_cond rfl (fun hh => ?_) (fun hh => ?_)
   ·have hlk0 : 0 < ((lk : Nat) : Int) := by simpa using hh
    clear hh
    refine sr_ ?_
    have hll : ((gk : Nat) : Int) + ((lk : Nat) : Int) = ((n : Nat) : Int) := by omega
    refine mv_ rfl (wl_ov (ov_len es80 rfl) rfl (mv_ rfl (wl_ov (ov_len es103 rfl) rfl (ad_ rfl rfl (mv_ rfl (wl_ov (ov_len es76 rfl) rfl (wl_ov (ov_eql rfl rfl) rfl (mv_ rfl ?_))))))))
    refine wl_set 79 (v' := .bool true) rfl (congrArg Value.bool (decide_eq_true hll)) ?_
    refine wl_guard_on rfl rfl rfl ?_
    refine wl_callv rfl cb23 rfl rfl (fun wx hm => (ready_any wx)) ?_
    refine pt_ rfl rfl (sg_ rfl (nn_ ?_))
    refine gw_ret ?_
    refine nx_then_ret ?_
    refine nx_ret1 rfl rfl fun wx hm => ?_
    exact ⟨rfl, law_end hg1 hsb (grow_trans hm_w2.g (grow_weak hm.g))⟩
   have hlk0 : ¬ (0 < ((lk : Nat) : Int)) := by simpa using hh
   clear hh
   refine gw_skip (nx_then (sr_ ?_))
   obtain ⟨hzg, o2, ho2, _, hle⟩ := greedy_less (sl := sl) hcl hlo hix htm (List.length_eq_zero_iff.1 (by omega))
   rw [hao] at ho2
   cases ho2
   have hzg2 : gchE cs sl l (givenE cs sl l) = 0 := by
    unfold gchE
    rw [if_pos h0]; exact hzg
   refine mv_ rfl (mv_ rfl (mv_ rfl (mv_ rfl ?_)))
   obtain ⟨UG, hUG⟩ : ∃ E, E = upV cs (l.zip (givenE cs sl l)) := ⟨_, rfl⟩
   obtain ⟨UA, hUA⟩ : ∃ E, E = upV cs (l.zip (gvO l o)) := ⟨_, rfl⟩
   rw [← hUG, ← hUA] at hle
   refine wl_callv (v := .tuple #[.int .i64 UG, .int .i64 0]) rfl cb61 rfl rfl (fun wx hm => (by have h := upgrades_any cs A0 4 c0 sl A1 n1 c1 l A n c (givenE cs sl l) Ag gk cg wx (hm.fact 3 rfl).1 hco (by omega) (hm.fact 4 rfl).1 hso (by omega) (hm.fact 5 rfl).1 hok (by omega) (hm.fact 1 rfl) (by omega) hgc; rw [hzg2, if_pos rfl, ← hUG] at h; exact h)) ?_
   refine mv_ rfl (wl_ov (ov_extract rfl rfl) rfl (wl_ov (ov_extract rfl rfl) rfl (sg_ rfl (sg_ rfl (nn_ (sr_ (mv_ rfl (mv_ rfl (mv_ rfl (mv_ rfl ?_))))))))))
   refine wl_callv (v := .tuple #[.int .i64 UA, .int .i64 0]) rfl cb61 rfl rfl (fun wx hm => (by have h := upgrades_any cs A0 4 c0 sl A1 n1 c1 l A n c (gvO l o) A2 n c2 wx (hm.fact 3 rfl).1 hco (by omega) (hm.fact 4 rfl).1 hso (by omega) (hm.fact 5 rfl).1 hok (by omega) (hm.fact 0 rfl) (by omega) hc2; rw [hza, if_pos rfl, ← hUA] at h; exact h)) ?_
   refine mv_ rfl (wl_ov (ov_extract rfl rfl) rfl (wl_ov (ov_extract rfl rfl) rfl (sg_ rfl (sg_ rfl (nn_ (sr_ (mv_ rfl (wl_ov (ov_eql rfl rfl) rfl ?_))))))))
   refine wl_set 99 (v' := .bool true) rfl (congrArg Value.bool (by decide)) ?_
   refine mv_ rfl (wl_guard_on rfl rfl rfl (mv_ rfl (wl_guard_on rfl rfl rfl (wl_ov (ov_eql rfl rfl) rfl ?_))))
   refine wl_set 102 (v' := .bool true) rfl (congrArg Value.bool (by decide)) ?_
   refine pt_ rfl rfl (mv_ rfl (wl_guard_on rfl rfl rfl (mv_ rfl (wl_guard_on rfl rfl rfl (wl_ov (ov_eql rfl rfl) rfl ?_)))))
   refine wl_set 106 (v' := .bool true) rfl (congrArg Value.bool (by decide)) ?_
   refine pt_ rfl rfl (mv_ rfl (wl_guard_on rfl rfl rfl (mv_ rfl (wl_guard_on rfl rfl rfl (mv_ rfl (wl_guard_on rfl rfl rfl (wl_ov (ov_leq rfl rfl) rfl (pt_ rfl rfl (mv_ rfl ?_)))))))))
   refine wl_set 113 (v' := .bool true) rfl (congrArg Value.bool (decide_eq_true hle)) ?_
   refine wl_guard_on rfl rfl rfl ?_
   refine wl_callv rfl cb23 rfl rfl (fun wx hm => (ready_any wx)) ?_
   refine pt_ rfl rfl (sg_ rfl (nn_ ?_))
   refine gw_ret ?_
   refine nx_ret1 rfl rfl fun wx hm => ?_
   exact ⟨rfl, law_end hg1 hsb (grow_trans hm_w2.g (grow_weak hm.g))⟩
  refine wl_guard_on rfl rfl rfl (wl_ov (ov_neq rfl rfl) rfl (pf_ rfl rfl (nn_ ?_)))
  refine gw_set 37 (v' := .bool true) rfl (congrArg Value.bool (by rw [decide_eq_false hk0]; rfl)) ?_
  refine ct_ rfl (sr_ ?_)
  refine wl_callv rfl cb23 rfl rfl (fun wx hm => (ready_any wx)) ?_
  refine sg_ rfl (nn_ ?_)
  refine gw_ret ?_
  refine nx_then_ret ?_
  refine nx_ret1 rfl rfl fun wx hm => ?_
  exact ⟨rfl, law_end hg1 hsb (grow_trans hm_w2.g (grow_weak hm.g))⟩
 refine wl_ov (ov_neq rfl rfl) rfl (mv_ rfl ?_)
 refine wl_set 32 (v' := .bool true) rfl (congrArg Value.bool (by rw [decide_eq_false hs0]; rfl)) ?_
 refine goff rfl rfl rfl (goff rfl rfl rfl (goff rfl rfl rfl (goff rfl rfl rfl (pt_ rfl rfl (nn_ (ct_ rfl (sr_ ?_)))))))
 refine wl_callv rfl cb23 rfl rfl (fun wx hm => (ready_any wx)) ?_
 refine sg_ rfl (nn_ ?_)
 refine gw_ret ?_
 refine nx_then_ret ?_
 refine nx_ret1 rfl rfl fun wx hm => ?_
 exact ⟨rfl, law_end hg1 hsb (grow_trans hm_w2.g (grow_weak hm.g))⟩
end Go.Proofs.YtempjmpfdniecaaGreatDoor
