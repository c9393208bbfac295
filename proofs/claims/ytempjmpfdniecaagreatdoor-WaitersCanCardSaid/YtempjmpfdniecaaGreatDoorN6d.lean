/- Several texts as one: Bee Bef Beg Gob Gcg Dea Deb Bwc Fsd Bwd Bwg Wcp Bwh He Hf Bq Td Ry Wcn -/
import Derived.Test.YtempjmpfdniecaaGreatDoorN6c
import Derived.Test.YtempjmpfdniecaaGreatDoorN6b
import Derived.Test.YtempjmpfdniecaaGreatDoorN6a
import Derived.OneCell
import Derived.Deep.RegionHeld3
import Derived.Laws.ResultCell
set_option maxRecDepth 100000
set_option maxHeartbeats 4000000
namespace Go.Proofs.YtempjmpfdniecaaGreatDoor
open Go.RowKit
/-- The least number of steps, or -1. -/
def FwOk (cs : List Cs) (sl : List Sk) (l : List Bk) (v : Int) : Prop := (v = -1 ∧ asgO cs sl l = none) ∨ ∃ (k : Nat) (o : List (ByteArray × Nat)), v = (k : Int) ∧ asgO cs sl l = some o ∧ unitsW (l.map wnB) (roomU (l.map wnB)) (l.map (chB cs sl)) [] k = some o ∧ k ≤ l.length * cs.length
theorem fw_none {cs : List Cs} {sl : List Sk} {l : List Bk} (h : asgO cs sl l = none) : FwOk cs sl l (-1) := .inl ⟨rfl, h⟩
theorem fw_iff {cs : List Cs} {sl : List Sk} {l : List Bk} {v : Int} (h : FwOk cs sl l v) : decide (0 ≤ v) = (asgO cs sl l).isSome := by
  rcases h with ⟨rfl, h⟩ | ⟨k, o, rfl, h, _⟩
  · rw [h]; rfl
  · rw [h, decide_eq_true (by omega)]; rfl
theorem keys_ix {cs : List Cs} {l : List Bk} (h : ∀ b ∈ l, keysE cs [b.cls] = 0) : ∀ b ∈ l, 0 ≤ ixP (csP b.cls) cs 0 := fun b hb => (keys_ok (h b hb)).2 _ (List.mem_singleton.2 rfl)
theorem ch_steps {cs : List Cs} {sl : List Sk} {b : Bk} (hcl : Closed cs) (hlo : loopB cs cs.length = false) (h30 : cs.length ≤ 30) (hk : 0 ≤ ixP (csP b.cls) cs 0) : ∀ q ∈ chB cs sl b, q.2.1 ≤ 1000 := fun q hq => by
  have h1 := (ch_ok (many := capB sl) (path_nodup hcl hlo hk)).2.2.2 q hq
  have h2 := path_lenA hcl hlo hk
  omega
theorem ch_short {cs : List Cs} {sl : List Sk} {b : Bk} (hcl : Closed cs) (hlo : loopB cs cs.length = false) (h30 : cs.length ≤ 30) (hk : 0 ≤ ixP (csP b.cls) cs 0) : (chB cs sl b).length ≤ 1000 := by
  have h1 := List.length_filter_le (fun k : CdW ByteArray => decide (0 < k.2.2)) (wayC (capB sl) 0 (clsF cs b))
  rw [way_len] at h1
  have h2 : (clsF cs b).length ≤ cs.length := path_lenA hcl hlo hk
  exact Nat.le_trans h1 (by omega)
theorem fw_bb {cs : List Cs} {sl : List Sk} {l : List Bk} (hcl : Closed cs) (hlo : loopB cs cs.length = false) (hk : ∀ b ∈ l, 0 ≤ ixP (csP b.cls) cs 0) (ht : BkTim l) {od : List Nat} (hp : od.Perm (List.range l.length)) : FwOk cs sl l (bestI (bbW roomF (od.map (itB cs sl l)) [] 0 none)) := by
  rcases asg_same (sl := sl) hcl hlo hk (fun b hb => (ht b hb).2.1) (it_perm hp) with ⟨h1, h2⟩ | ⟨k, o, h1, h2, h3, h4, _⟩
  · rw [h1]; exact fw_none h2
  · rw [h1]; exact .inr ⟨k, o, rfl, h2, h3, h4⟩
def coB (cs : List Cs) (sl : List Sk) (l : List Bk) (od : List Nat) : List (List (CdW ByteArray)) := od.map fun j => chB cs sl (bkAt l j)
theorem co_it {cs : List Cs} {sl : List Sk} {l : List Bk} {od : List Nat} {k : Nat} : restI ((od.drop k).map (itB cs sl l)) = restW ((coB cs sl l od).drop k) := by
  rw [restI_W, List.map_map]
  unfold coB
  rw [← List.map_drop]; rfl
theorem co_at {cs : List Cs} {sl : List Sk} {l : List Bk} {od : List Nat} {k i : Nat} (h : od[k]? = some i) : (coB cs sl l od)[k]? = some (chB cs sl (bkAt l i)) := by
  unfold coB; rw [List.getElem?_map, h]; rfl
theorem co_le {cs : List Cs} {sl : List Sk} {l : List Bk} {od : List Nat} (hs : ∀ b ∈ l, ∀ q ∈ chB cs sl b, q.2.1 ≤ 1000) (ho : ∀ j ∈ od, j < l.length) (k : Nat) : restW ((coB cs sl l od).drop k) ≤ od.length * 1000 := by
  have h := restW_le (M := 1000) (css := (coB cs sl l od).drop k) fun c hc q hq => by
    have hm := List.mem_of_mem_drop hc
    unfold coB at hm
    obtain ⟨j, hj, rfl⟩ := List.mem_map.1 hm
    obtain ⟨b, hb⟩ : ∃ b, l[j]? = some b := ⟨_, List.getElem?_eq_getElem (ho j hj)⟩
    rw [bkAt_get hb] at hq
    exact hs b (List.mem_of_getElem? hb) q hq
  rw [List.length_drop] at h
  have e : (coB cs sl l od).length = od.length := by unfold coB; rw [List.length_map]
  rw [e] at h
  exact Nat.le_trans h (Nat.mul_le_mul_right _ (by omega))
theorem head_at {c : List (CdW ByteArray)} {k : CdW ByteArray} (h : c[0]? = some k) : headW c = k.2.1 := by
  cases c with
  | nil => cases h
  | cons x r => cases h; rfl
theorem zc262 : zeroCs Tryz.prog 262 = some [.pointer none] := by kernel_rfl
theorem fewest_any (cs : List Cs) (A0 : Option Addr) (n0 c0 : Nat) (sl : List Sk) (A1 : Option Addr) (n1 c1 : Nat) (l : List Bk) (A : Option Addr) (n c : Nat) (w : World) (hcs : SlT csEnc 2 158 w A0 n0 cs) (hco : ∀ x ∈ cs, CsOk x) (hn0 : n0 ≤ 1000) (hs : SlT skEnc 2 211 w A1 n1 sl) (hso : ∀ x ∈ sl, SkOk x) (hn1 : n1 ≤ 1000) (hl : SlT bkEnc 6 92 w A n l) (hn : n ≤ 12) (hcl : Closed cs) (hlo : loopB cs cs.length = false) (h30 : cs.length ≤ 30) (hkeys : ∀ b ∈ l, keysE cs [b.cls] = 0) (htm : BkTim l) :
  Calls Tryz.prog 134 #[.slice A0 n0 c0, .slice A1 n1 c1, .slice A n c] w (fun e w' => ∃ v, e = .returned (.int .i64 v) ∧ FwOk cs sl l v ∧ w.grownBy w' none) := by
 refine gw_enter ⟨102, w, none, [269, 268]⟩ Tryz.func134 rfl Tryz.ntmps134 rfl (mem0 (X := [SlOld csEnc 2 158 w.heap.size none A0 n0 cs, SlOld skEnc 2 211 w.heap.size none A1 n1 sl, SlOld bkEnc 6 92 w.heap.size none A n l]) (allF_cons hcs.old (allF_cons hs.old (allF_cons hl.old allF_nil))) (allL_cons SlOld.lasts (allL_cons SlOld.lasts (allL_cons SlOld.lasts allL_nil)))) ?_
 refine sr_ ?_
 have hlen := hl.len
 have hix := keys_ix hkeys
 have hstp : ∀ b ∈ l, ∀ q ∈ chB cs sl b, q.2.1 ≤ 1000 := fun b hb => ch_steps hcl hlo h30 (hix b hb)
 have hchl : ∀ b ∈ l, (chB cs sl b).length ≤ 1000 := fun b hb => ch_short hcl hlo h30 (hix b hb)
 refine sg_ rfl (nn_ ?_)
 refine gw_cut (γ := Option Addr × Nat × List ChS × Nat × Nat × Nat) (I := (fun g => g.2.2.1.map ChS.l = l.map (chB cs sl))) (S' := (fun g => [(2, .slice A n c), (6, .int .i64 0), (7, .pointer (some ⟨g.2.2.2.1, 0, none⟩))])) (K' := (fun g => fun _ => True)) (L' := (fun g => [(g.2.2.2.1, 262, [.pointer (some ⟨g.2.2.2.2.1, 0, none⟩)]), (g.2.2.2.2.1, 266, [.slice A n c, .slice g.1 n g.2.1, .slice none 0 0, .slice (some ⟨g.2.2.2.2.2, 0, none⟩) n n, .slice none 0 0, .slice none 0 0, .int .i64 (-1)])])) (O' := (fun g => [⟨.slice (some ⟨g.2.2.2.2.2, 0, none⟩) n n, 9, 1, n, (List.replicate (n) (⟨#[]⟩ : ByteArray)).flatMap sgEnc⟩])) (X' := (fun g => [SlOld csEnc 2 158 w.heap.size none A0 n0 cs, SlOld skEnc 2 211 w.heap.size none A1 n1 sl, SlOld bkEnc 6 92 w.heap.size none A n l, fun wy => SlT csnEnc 1 269 wy g.1 n g.2.2.1, fun wy => Chs 268 g.2.2.1 wy])) ?_ ?_
 ·refine gd (fun wz => (SlOld csEnc 2 158 w.heap.size none A0 n0 cs) wz ∧ (SlOld skEnc 2 211 w.heap.size none A1 n1 sl) wz ∧ (SlOld bkEnc 6 92 w.heap.size none A n l) wz ∧ True) mixed (fun _ hm => ⟨hm.fa 0, hm.fa 1, hm.fa 2, trivial⟩) fun z => ?_
  refine wt 0 12 1 rfl z (ov_move rfl) ?_
  refine wt 1 12 3 rfl z (ov_move rfl) ?_
  refine wt 2 12 7 rfl z (ov_move rfl) ?_
  refine wt 3 12 15 rfl z (ov_move rfl) ?_
  refine wt 5 12 47 rfl z (ov_move rfl) ?_
  refine wt 6 12 111 rfl z (ov_len es76 rfl) ?_
  refine wa_all [4, 7, 10] (by kernel_rfl) rfl ⟨⟨_, rfl, ?_⟩, ⟨_, rfl, ?_⟩, ⟨_, rfl, ?_⟩, trivial⟩
  ·refine wl_callx (γ := Option Addr × Nat × List ChS) (val := (fun g => .slice g.1 n g.2.1)) (φ := (fun g => g.2.2.map ChS.l = l.map (chB cs sl))) (Y := (fun g => fun wy => SlT csnEnc 1 269 wy g.1 n g.2.2 ∧ Chs 268 g.2.2 wy)) rfl cb220 rfl rfl (fun wx hm => (choicesP_any cs A0 n0 c0 sl A1 n1 c1 l A n c wx (hm.fact 0 rfl).1 hco (by omega) (hm.fact 1 rfl).1 hso (by omega) (hm.fact 2 rfl).1 (by omega) hkeys).mono fun _ _ ⟨A9, c9, cx, he, h1, h2, h3, hg⟩ => ⟨(A9, c9, cx), he, h3, hg, ⟨h1, h2⟩⟩) (fun _ => (SlT.lasts2 rfl).and_ (Chs.lasts rfl)) ?_
   rintro ⟨A9, c9, cx⟩ hcx
   dsimp only at hcx ⊢
   refine wl_nil ?_
   refine nw 12 127 (fun _ hm => ⟨hm.fa 1, hm.fa 2, hm.fa 3, trivial⟩) fun z => ?_
   refine wa_all [7, 10] (by kernel_rfl) rfl ⟨⟨_, rfl, ?_⟩, ⟨_, rfl, ?_⟩, trivial⟩
   ·refine wl_makeO (n := n) (sz := 1) (e := 9) (by_ := 16) (z := .string ⟨#[]⟩) (by kernel_rfl) (by kernel_rfl) rfl rfl (by omega) (by omega) (by omega) (by unfold maxLen; omega) (made_flat (enc := sgEnc) (x := (⟨#[]⟩ : ByteArray)) rfl rfl (by decide) (n)) rfl fun g1 => ?_
    refine wl_nil ?_
    refine nw 12 255 (fun _ hm => ⟨hm.fa 1, hm.fa 2, hm.fa 3, trivial⟩) fun z => ?_
    refine wt 8 12 511 rfl z (ov_build (cs := [.slice A n c, .slice A9 n c9, .slice none 0 0, .slice (some ⟨g1, 0, none⟩) n n, .slice none 0 0, .slice none 0 0, .int .i64 (-1)]) rfl (by kernel_rfl)) ?_
    refine wa_all [9, 10] (by kernel_rfl) rfl ⟨⟨_, rfl, ?_⟩, ⟨_, rfl, ?_⟩, trivial⟩
    ·refine wl_box rfl rfl rfl fun g2 => ?_
     refine wl_nil ?_
     refine nw 12 1023 (fun _ hm => ⟨hm.fa 1, hm.fa 2, hm.fa 3, trivial⟩) fun z => ?_
     refine wa1 10 rfl ?_
     refine wl_alloc zc262 rfl fun g3 => ?_
     refine wl_nil ?_
     refine nw 12 2047 (fun _ hm => ⟨hm.fa 1, hm.fa 2, hm.fa 3, trivial⟩) fun z => ?_
     refine wa1 11 rfl ?_
     refine wl_store 0 sc262 rfl rfl rfl rfl rfl rfl ?_
     refine wl_nil ?_
     refine nw 12 4095 (fun _ hm => ⟨hm.fa 1, hm.fa 2, hm.fa 3, trivial⟩) fun z => ?_
     refine wa_done (by kernel_rfl) ?_
     refine nx_also (Y := fun wy => SlT csnEnc 1 269 wy A9 n cx) (SlT.lasts2 rfl) (fun wx hm => (hm.fact 0 rfl).1) ?_
     refine nx_also (Y := fun wy => Chs 268 cx wy) (Chs.lasts rfl) (fun wx hm => (hm.fact 1 rfl).2) ?_
     exact nx_meet (A9, c9, cx, g3, g2, g1) hcx ⟨rfl, rfl, rfl, trivial⟩ (fun _ hm => hm.pick [0, 1] [0] [3, 4, 5, 1, 0] rfl rfl)
    refine wl_alloc zc262 rfl fun g4 => ?_
    refine wl_nil ?_
    refine nw 12 1535 (fun _ hm => ⟨hm.fa 1, hm.fa 2, hm.fa 3, trivial⟩) fun z => ?_
    refine wa1 9 rfl ?_
    refine wl_box rfl rfl rfl fun g5 => ?_
    refine wl_nil ?_
    refine nw 12 2047 (fun _ hm => ⟨hm.fa 1, hm.fa 2, hm.fa 3, trivial⟩) fun z => ?_
    refine wa1 11 rfl ?_
    refine wl_store 1 sc262 rfl rfl rfl rfl rfl rfl ?_
    refine wl_nil ?_
    refine nw 12 4095 (fun _ hm => ⟨hm.fa 1, hm.fa 2, hm.fa 3, trivial⟩) fun z => ?_
    refine wa_done (by kernel_rfl) ?_
    refine nx_also (Y := fun wy => SlT csnEnc 1 269 wy A9 n cx) (SlT.lasts2 rfl) (fun wx hm => (hm.fact 0 rfl).1) ?_
    refine nx_also (Y := fun wy => Chs 268 cx wy) (Chs.lasts rfl) (fun wx hm => (hm.fact 1 rfl).2) ?_
    exact nx_meet (A9, c9, cx, g4, g5, g1) hcx ⟨rfl, rfl, rfl, trivial⟩ (fun _ hm => hm.pick [1, 0] [0] [3, 4, 5, 1, 0] rfl rfl)
   refine wl_alloc zc262 rfl fun g6 => ?_
   refine wl_nil ?_
   refine nw 12 1151 (fun _ hm => ⟨hm.fa 1, hm.fa 2, hm.fa 3, trivial⟩) fun z => ?_
   refine wa1 7 rfl ?_
   refine wl_makeO (n := n) (sz := 1) (e := 9) (by_ := 16) (z := .string ⟨#[]⟩) (by kernel_rfl) (by kernel_rfl) rfl rfl (by omega) (by omega) (by omega) (by unfold maxLen; omega) (made_flat (enc := sgEnc) (x := (⟨#[]⟩ : ByteArray)) rfl rfl (by decide) (n)) rfl fun g7 => ?_
   refine wl_nil ?_
   refine nw 12 1279 (fun _ hm => ⟨hm.fa 1, hm.fa 2, hm.fa 3, trivial⟩) fun z => ?_
   refine wt 8 12 1535 rfl z (ov_build (cs := [.slice A n c, .slice A9 n c9, .slice none 0 0, .slice (some ⟨g7, 0, none⟩) n n, .slice none 0 0, .slice none 0 0, .int .i64 (-1)]) rfl (by kernel_rfl)) ?_
   refine wa1 9 rfl ?_
   refine wl_box rfl rfl rfl fun g8 => ?_
   refine wl_nil ?_
   refine nw 12 2047 (fun _ hm => ⟨hm.fa 1, hm.fa 2, hm.fa 3, trivial⟩) fun z => ?_
   refine wa1 11 rfl ?_
   refine wl_store 1 sc262 rfl rfl rfl rfl rfl rfl ?_
   refine wl_nil ?_
   refine nw 12 4095 (fun _ hm => ⟨hm.fa 1, hm.fa 2, hm.fa 3, trivial⟩) fun z => ?_
   refine wa_done (by kernel_rfl) ?_
   refine nx_also (Y := fun wy => SlT csnEnc 1 269 wy A9 n cx) (SlT.lasts2 rfl) (fun wx hm => (hm.fact 0 rfl).1) ?_
   refine nx_also (Y := fun wy => Chs 268 cx wy) (Chs.lasts rfl) (fun wx hm => (hm.fact 1 rfl).2) ?_
   exact nx_meet (A9, c9, cx, g6, g8, g7) hcx ⟨rfl, rfl, rfl, trivial⟩ (fun _ hm => hm.pick [1, 0] [0] [3, 4, 5, 1, 0] rfl rfl)
  ·refine wl_makeO (n := n) (sz := 1) (e := 9) (by_ := 16) (z := .string ⟨#[]⟩) (by kernel_rfl) (by kernel_rfl) rfl rfl (by omega) (by omega) (by omega) (by unfold maxLen; omega) (made_flat (enc := sgEnc) (x := (⟨#[]⟩ : ByteArray)) rfl rfl (by decide) (n)) rfl fun g9 => ?_
   refine wl_nil ?_
   refine nw 12 239 (fun _ hm => ⟨hm.fa 0, hm.fa 1, hm.fa 2, trivial⟩) fun z => ?_
   refine wa_all [4, 10] (by kernel_rfl) rfl ⟨⟨_, rfl, ?_⟩, ⟨_, rfl, ?_⟩, trivial⟩
   ·refine wl_callx (γ := Option Addr × Nat × List ChS) (val := (fun g => .slice g.1 n g.2.1)) (φ := (fun g => g.2.2.map ChS.l = l.map (chB cs sl))) (Y := (fun g => fun wy => SlT csnEnc 1 269 wy g.1 n g.2.2 ∧ Chs 268 g.2.2 wy)) rfl cb220 rfl rfl (fun wx hm => (choicesP_any cs A0 n0 c0 sl A1 n1 c1 l A n c wx (hm.fact 0 rfl).1 hco (by omega) (hm.fact 1 rfl).1 hso (by omega) (hm.fact 2 rfl).1 (by omega) hkeys).mono fun _ _ ⟨A9, c9, cx, he, h1, h2, h3, hg⟩ => ⟨(A9, c9, cx), he, h3, hg, ⟨h1, h2⟩⟩) (fun _ => (SlT.lasts2 rfl).and_ (Chs.lasts rfl)) ?_
    rintro ⟨A9, c9, cx⟩ hcx
    dsimp only at hcx ⊢
    refine wl_nil ?_
    refine nw 12 255 (fun _ hm => ⟨hm.fa 1, hm.fa 2, hm.fa 3, trivial⟩) fun z => ?_
    refine wt 8 12 511 rfl z (ov_build (cs := [.slice A n c, .slice A9 n c9, .slice none 0 0, .slice (some ⟨g9, 0, none⟩) n n, .slice none 0 0, .slice none 0 0, .int .i64 (-1)]) rfl (by kernel_rfl)) ?_
    refine wa_all [9, 10] (by kernel_rfl) rfl ⟨⟨_, rfl, ?_⟩, ⟨_, rfl, ?_⟩, trivial⟩
    ·refine wl_box rfl rfl rfl fun g10 => ?_
     refine wl_nil ?_
     refine nw 12 1023 (fun _ hm => ⟨hm.fa 1, hm.fa 2, hm.fa 3, trivial⟩) fun z => ?_
     refine wa1 10 rfl ?_
     refine wl_alloc zc262 rfl fun g11 => ?_
     refine wl_nil ?_
     refine nw 12 2047 (fun _ hm => ⟨hm.fa 1, hm.fa 2, hm.fa 3, trivial⟩) fun z => ?_
     refine wa1 11 rfl ?_
     refine wl_store 0 sc262 rfl rfl rfl rfl rfl rfl ?_
     refine wl_nil ?_
     refine nw 12 4095 (fun _ hm => ⟨hm.fa 1, hm.fa 2, hm.fa 3, trivial⟩) fun z => ?_
     refine wa_done (by kernel_rfl) ?_
     refine nx_also (Y := fun wy => SlT csnEnc 1 269 wy A9 n cx) (SlT.lasts2 rfl) (fun wx hm => (hm.fact 0 rfl).1) ?_
     refine nx_also (Y := fun wy => Chs 268 cx wy) (Chs.lasts rfl) (fun wx hm => (hm.fact 1 rfl).2) ?_
     exact nx_meet (A9, c9, cx, g11, g10, g9) hcx ⟨rfl, rfl, rfl, trivial⟩ (fun _ hm => hm.pick [0, 1] [0] [3, 4, 5, 1, 0] rfl rfl)
    refine wl_alloc zc262 rfl fun g12 => ?_
    refine wl_nil ?_
    refine nw 12 1535 (fun _ hm => ⟨hm.fa 1, hm.fa 2, hm.fa 3, trivial⟩) fun z => ?_
    refine wa1 9 rfl ?_
    refine wl_box rfl rfl rfl fun g13 => ?_
    refine wl_nil ?_
    refine nw 12 2047 (fun _ hm => ⟨hm.fa 1, hm.fa 2, hm.fa 3, trivial⟩) fun z => ?_
    refine wa1 11 rfl ?_
    refine wl_store 1 sc262 rfl rfl rfl rfl rfl rfl ?_
    refine wl_nil ?_
    refine nw 12 4095 (fun _ hm => ⟨hm.fa 1, hm.fa 2, hm.fa 3, trivial⟩) fun z => ?_
    refine wa_done (by kernel_rfl) ?_
    refine nx_also (Y := fun wy => SlT csnEnc 1 269 wy A9 n cx) (SlT.lasts2 rfl) (fun wx hm => (hm.fact 0 rfl).1) ?_
    refine nx_also (Y := fun wy => Chs 268 cx wy) (Chs.lasts rfl) (fun wx hm => (hm.fact 1 rfl).2) ?_
    exact nx_meet (A9, c9, cx, g12, g13, g9) hcx ⟨rfl, rfl, rfl, trivial⟩ (fun _ hm => hm.pick [1, 0] [0] [3, 4, 5, 1, 0] rfl rfl)
   refine wl_alloc zc262 rfl fun g14 => ?_
   refine wl_nil ?_
   refine nw 12 1263 (fun _ hm => ⟨hm.fa 0, hm.fa 1, hm.fa 2, trivial⟩) fun z => ?_
   refine wa1 4 rfl ?_
   refine wl_callx (γ := Option Addr × Nat × List ChS) (val := (fun g => .slice g.1 n g.2.1)) (φ := (fun g => g.2.2.map ChS.l = l.map (chB cs sl))) (Y := (fun g => fun wy => SlT csnEnc 1 269 wy g.1 n g.2.2 ∧ Chs 268 g.2.2 wy)) rfl cb220 rfl rfl (fun wx hm => (choicesP_any cs A0 n0 c0 sl A1 n1 c1 l A n c wx (hm.fact 0 rfl).1 hco (by omega) (hm.fact 1 rfl).1 hso (by omega) (hm.fact 2 rfl).1 (by omega) hkeys).mono fun _ _ ⟨A9, c9, cx, he, h1, h2, h3, hg⟩ => ⟨(A9, c9, cx), he, h3, hg, ⟨h1, h2⟩⟩) (fun _ => (SlT.lasts2 rfl).and_ (Chs.lasts rfl)) ?_
   rintro ⟨A9, c9, cx⟩ hcx
   dsimp only at hcx ⊢
   refine wl_nil ?_
   refine nw 12 1279 (fun _ hm => ⟨hm.fa 1, hm.fa 2, hm.fa 3, trivial⟩) fun z => ?_
   refine wt 8 12 1535 rfl z (ov_build (cs := [.slice A n c, .slice A9 n c9, .slice none 0 0, .slice (some ⟨g9, 0, none⟩) n n, .slice none 0 0, .slice none 0 0, .int .i64 (-1)]) rfl (by kernel_rfl)) ?_
   refine wa1 9 rfl ?_
   refine wl_box rfl rfl rfl fun g15 => ?_
   refine wl_nil ?_
   refine nw 12 2047 (fun _ hm => ⟨hm.fa 1, hm.fa 2, hm.fa 3, trivial⟩) fun z => ?_
   refine wa1 11 rfl ?_
   refine wl_store 1 sc262 rfl rfl rfl rfl rfl rfl ?_
   refine wl_nil ?_
   refine nw 12 4095 (fun _ hm => ⟨hm.fa 1, hm.fa 2, hm.fa 3, trivial⟩) fun z => ?_
   refine wa_done (by kernel_rfl) ?_
   refine nx_also (Y := fun wy => SlT csnEnc 1 269 wy A9 n cx) (SlT.lasts2 rfl) (fun wx hm => (hm.fact 0 rfl).1) ?_
   refine nx_also (Y := fun wy => Chs 268 cx wy) (Chs.lasts rfl) (fun wx hm => (hm.fact 1 rfl).2) ?_
   exact nx_meet (A9, c9, cx, g14, g15, g9) hcx ⟨rfl, rfl, rfl, trivial⟩ (fun _ hm => hm.pick [1, 0] [0] [3, 4, 5, 1, 0] rfl rfl)
  refine wl_alloc zc262 rfl fun g16 => ?_
  refine wl_nil ?_
  refine nw 12 1135 (fun _ hm => ⟨hm.fa 0, hm.fa 1, hm.fa 2, trivial⟩) fun z => ?_
  refine wa_all [4, 7] (by kernel_rfl) rfl ⟨⟨_, rfl, ?_⟩, ⟨_, rfl, ?_⟩, trivial⟩
  ·refine wl_callx (γ := Option Addr × Nat × List ChS) (val := (fun g => .slice g.1 n g.2.1)) (φ := (fun g => g.2.2.map ChS.l = l.map (chB cs sl))) (Y := (fun g => fun wy => SlT csnEnc 1 269 wy g.1 n g.2.2 ∧ Chs 268 g.2.2 wy)) rfl cb220 rfl rfl (fun wx hm => (choicesP_any cs A0 n0 c0 sl A1 n1 c1 l A n c wx (hm.fact 0 rfl).1 hco (by omega) (hm.fact 1 rfl).1 hso (by omega) (hm.fact 2 rfl).1 (by omega) hkeys).mono fun _ _ ⟨A9, c9, cx, he, h1, h2, h3, hg⟩ => ⟨(A9, c9, cx), he, h3, hg, ⟨h1, h2⟩⟩) (fun _ => (SlT.lasts2 rfl).and_ (Chs.lasts rfl)) ?_
   rintro ⟨A9, c9, cx⟩ hcx
   dsimp only at hcx ⊢
   refine wl_nil ?_
   refine nw 12 1151 (fun _ hm => ⟨hm.fa 1, hm.fa 2, hm.fa 3, trivial⟩) fun z => ?_
   refine wa1 7 rfl ?_
   refine wl_makeO (n := n) (sz := 1) (e := 9) (by_ := 16) (z := .string ⟨#[]⟩) (by kernel_rfl) (by kernel_rfl) rfl rfl (by omega) (by omega) (by omega) (by unfold maxLen; omega) (made_flat (enc := sgEnc) (x := (⟨#[]⟩ : ByteArray)) rfl rfl (by decide) (n)) rfl fun g17 => ?_
   refine wl_nil ?_
   refine nw 12 1279 (fun _ hm => ⟨hm.fa 1, hm.fa 2, hm.fa 3, trivial⟩) fun z => ?_
   refine wt 8 12 1535 rfl z (ov_build (cs := [.slice A n c, .slice A9 n c9, .slice none 0 0, .slice (some ⟨g17, 0, none⟩) n n, .slice none 0 0, .slice none 0 0, .int .i64 (-1)]) rfl (by kernel_rfl)) ?_
   refine wa1 9 rfl ?_
   refine wl_box rfl rfl rfl fun g18 => ?_
   refine wl_nil ?_
   refine nw 12 2047 (fun _ hm => ⟨hm.fa 1, hm.fa 2, hm.fa 3, trivial⟩) fun z => ?_
   refine wa1 11 rfl ?_
   refine wl_store 1 sc262 rfl rfl rfl rfl rfl rfl ?_
   refine wl_nil ?_
   refine nw 12 4095 (fun _ hm => ⟨hm.fa 1, hm.fa 2, hm.fa 3, trivial⟩) fun z => ?_
   refine wa_done (by kernel_rfl) ?_
   refine nx_also (Y := fun wy => SlT csnEnc 1 269 wy A9 n cx) (SlT.lasts2 rfl) (fun wx hm => (hm.fact 0 rfl).1) ?_
   refine nx_also (Y := fun wy => Chs 268 cx wy) (Chs.lasts rfl) (fun wx hm => (hm.fact 1 rfl).2) ?_
   exact nx_meet (A9, c9, cx, g16, g18, g17) hcx ⟨rfl, rfl, rfl, trivial⟩ (fun _ hm => hm.pick [1, 0] [0] [3, 4, 5, 1, 0] rfl rfl)
  refine wl_makeO (n := n) (sz := 1) (e := 9) (by_ := 16) (z := .string ⟨#[]⟩) (by kernel_rfl) (by kernel_rfl) rfl rfl (by omega) (by omega) (by omega) (by unfold maxLen; omega) (made_flat (enc := sgEnc) (x := (⟨#[]⟩ : ByteArray)) rfl rfl (by decide) (n)) rfl fun g19 => ?_
  refine wl_nil ?_
  refine nw 12 1263 (fun _ hm => ⟨hm.fa 0, hm.fa 1, hm.fa 2, trivial⟩) fun z => ?_
  refine wa1 4 rfl ?_
  refine wl_callx (γ := Option Addr × Nat × List ChS) (val := (fun g => .slice g.1 n g.2.1)) (φ := (fun g => g.2.2.map ChS.l = l.map (chB cs sl))) (Y := (fun g => fun wy => SlT csnEnc 1 269 wy g.1 n g.2.2 ∧ Chs 268 g.2.2 wy)) rfl cb220 rfl rfl (fun wx hm => (choicesP_any cs A0 n0 c0 sl A1 n1 c1 l A n c wx (hm.fact 0 rfl).1 hco (by omega) (hm.fact 1 rfl).1 hso (by omega) (hm.fact 2 rfl).1 (by omega) hkeys).mono fun _ _ ⟨A9, c9, cx, he, h1, h2, h3, hg⟩ => ⟨(A9, c9, cx), he, h3, hg, ⟨h1, h2⟩⟩) (fun _ => (SlT.lasts2 rfl).and_ (Chs.lasts rfl)) ?_
  rintro ⟨A9, c9, cx⟩ hcx
  dsimp only at hcx ⊢
  refine wl_nil ?_
  refine nw 12 1279 (fun _ hm => ⟨hm.fa 1, hm.fa 2, hm.fa 3, trivial⟩) fun z => ?_
  refine wt 8 12 1535 rfl z (ov_build (cs := [.slice A n c, .slice A9 n c9, .slice none 0 0, .slice (some ⟨g19, 0, none⟩) n n, .slice none 0 0, .slice none 0 0, .int .i64 (-1)]) rfl (by kernel_rfl)) ?_
  refine wa1 9 rfl ?_
  refine wl_box rfl rfl rfl fun g20 => ?_
  refine wl_nil ?_
  refine nw 12 2047 (fun _ hm => ⟨hm.fa 1, hm.fa 2, hm.fa 3, trivial⟩) fun z => ?_
  refine wa1 11 rfl ?_
  refine wl_store 1 sc262 rfl rfl rfl rfl rfl rfl ?_
  refine wl_nil ?_
  refine nw 12 4095 (fun _ hm => ⟨hm.fa 1, hm.fa 2, hm.fa 3, trivial⟩) fun z => ?_
  refine wa_done (by kernel_rfl) ?_
  refine nx_also (Y := fun wy => SlT csnEnc 1 269 wy A9 n cx) (SlT.lasts2 rfl) (fun wx hm => (hm.fact 0 rfl).1) ?_
  refine nx_also (Y := fun wy => Chs 268 cx wy) (Chs.lasts rfl) (fun wx hm => (hm.fact 1 rfl).2) ?_
  exact nx_meet (A9, c9, cx, g16, g20, g19) hcx ⟨rfl, rfl, rfl, trivial⟩ (fun _ hm => hm.pick [1, 0] [0] [3, 4, 5, 1, 0] rfl rfl)
 rintro ⟨A9, c9, cx, g7, gx, gc⟩ hinv
 replace hinv : cx.map ChS.l = l.map (chB cs sl) := hinv
 dsimp only
 refine gw_seq (sr_ ?_)
 have hcx : cx.map ChS.l = l.map (chB cs sl) := hinv
 have hcxl : cx.length = n := by have h := congrArg List.length hcx; rw [List.length_map, List.length_map] at h; omega
 refine wl_look (R := (∀ x ∈ cx, x.l.length = x.n) ∧ (0 < n → ∃ b9 o9, A9 = some ⟨b9, o9, none⟩) ∧ ∀ x ∈ cx, 0 < x.n → ∃ bi oi, x.A = some ⟨bi, oi, none⟩) (fun wx hm => ⟨fun x hx => ((hm.fact 4 rfl) x hx).len, fun h0 => by
  obtain ⟨b9, o9, e, _⟩ := (hm.fact 3 rfl).get h0
  exact ⟨b9, o9, e⟩, fun x hx h0 => by
  obtain ⟨b9, o9, e, _⟩ := ((hm.fact 4 rfl) x hx).get h0
  exact ⟨b9, o9, e⟩⟩) ?_
 rintro ⟨hcn, h9, hin⟩
 refine wl_nilOwn 3 1 ?_
 refine mv_ rfl (wl_ov (ov_len es76 rfl) rfl (mv_ rfl (nn_ (gw_block ?_))))
 refine gw_loop (γ := Nat × Value) (fun g => g.1 ≤ n ∧ ∀ j, j < g.1 → lenN (l.map (chB cs sl)) j ≠ 0) (fun g => [(2, .slice A n c), (7, .pointer (some ⟨g7, 0, none⟩)), (21, .int .i64 ((n : Nat) : Int)), (22, .int .i64 ((g.1 : Nat) : Int))]) (fun g => fun _ => True) (fun g => [(g7, 262, [.pointer (some ⟨gx, 0, none⟩)]), (gx, 266, [.slice A n c, .slice A9 n c9, g.2, .slice (some ⟨gc, 0, none⟩) n n, .slice none 0 0, .slice none 0 0, .int .i64 (-1)])]) (fun g => [⟨g.2, 3, 1, g.1, (List.range g.1).flatMap nEnc⟩, ⟨.slice (some ⟨gc, 0, none⟩) n n, 9, 1, n, (List.replicate (n) (⟨#[]⟩ : ByteArray)).flatMap sgEnc⟩]) (fun g => [SlOld csEnc 2 158 w.heap.size none A0 n0 cs, SlOld skEnc 2 211 w.heap.size none A1 n1 sl, SlOld bkEnc 6 92 w.heap.size none A n l, fun wy => SlT csnEnc 1 269 wy A9 n cx, fun wy => Chs 268 cx wy]) (fun g => n - g.1) (0, .slice none 0 0) ⟨Nat.zero_le _, fun j h => absurd h (Nat.not_lt_zero j)⟩ ⟨rfl, rfl, rfl, rfl, trivial⟩ (fun _ hm => hm.pick [0, 1] [0, 1] [0, 1, 2, 3, 4] rfl rfl) ?_
 rintro ⟨i, v⟩ hinv
 replace hinv : i ≤ n ∧ ∀ j, j < i → lenN (l.map (chB cs sl)) j ≠ 0 := hinv
 dsimp only
 refine sr_ ?_
 obtain ⟨hi0, hne⟩ := hinv
 refine wl_ov (ov_lss rfl rfl) rfl (nn_ (gw_seq ?_))
 refine gw_cond rfl (fun hh => ?_) (fun hh => ?_)
 ·have hi : ((i : Nat) : Int) < ((n : Nat) : Int) := by simpa using hh
  clear hh
  refine gw_skip (nx_then (gw_seq (gw_block (sr_ ?_))))
  obtain ⟨b9, o9, rfl⟩ := h9 (by omega)
  obtain ⟨x9, hx9⟩ : ∃ x, cx[i]? = some x := ⟨_, List.getElem?_eq_getElem (by omega)⟩
  have hln := lenN_at hcx hcn hx9
  have hxl := cx_at hcx hx9
  obtain ⟨Ai, ni, ci, li⟩ := x9
  dsimp only at hln hxl
  refine mv_ rfl (sg_ rfl (nn_ (gw_seq (sr_ (lk_ sc262 0 rfl rfl rfl (wl_ov (ov_nilcheck rfl) rfl (fd_ fo266_1 rfl rfl (lk_ sc263 1 rfl rfl rfl (mv_ rfl ?_)))))))))
  refine wl_ov (ov_index (j := i) es263 rfl rfl (by omega)) rfl ?_
  refine wl_ov (ov_elem1 (k := 0) (v := .slice Ai ni ci) sc269 rfl (fun _ hm => (hm.fact 3 rfl)) hx9 rfl rfl) rfl ?_
  refine wl_ov (ov_len es269 rfl) rfl (wl_ov (ov_eql rfl rfl) rfl (nn_ ?_))
  refine gw_cond rfl (fun hh => ?_) (fun hh => ?_)
  ·have hni : ((ni : Nat) : Int) = 0 := by simpa using hh
   clear hh
   refine sr_ (sg_ rfl ?_)
   refine wl_set 6 (v' := .int .i64 (-1)) rfl rfl ?_
   refine nn_ ?_
   refine gw_ret ?_
   refine nx_then_ret (nx_blk_ret (nx_then_ret (nx_then_ret (nx_blk_ret (nx_then_ret ?_)))))
   have hle : li = [] := List.length_eq_zero_iff.1 (by have := hcn _ (List.mem_of_getElem? hx9); dsimp only at this; omega)
   have hem : [] ∈ l.map (chB cs sl) := by rw [← hcx]; exact List.mem_map.2 ⟨_, List.mem_of_getElem? hx9, hle⟩
   refine nx_ret1 rfl rfl fun wx hm => ?_
   exact ⟨-1, rfl, fw_none (asg_empty hcl hlo hix (fun b hb => (htm b hb).2.1) hem), hm.g⟩
  have hni : ¬ (((ni : Nat) : Int) = 0) := by simpa using hh
  clear hh
  refine gw_skip (nx_then ?_)
  have hn0 : lenN (l.map (chB cs sl)) i ≠ 0 := by omega
  refine gd (fun wz => Blk wz g7 262 [.pointer (some ⟨gx, 0, none⟩)] ∧ (SlOld csEnc 2 158 w.heap.size none A0 n0 cs) wz ∧ (SlOld skEnc 2 211 w.heap.size none A1 n1 sl) wz ∧ (SlOld bkEnc 6 92 w.heap.size none A n l) wz ∧ (fun wy => SlT csnEnc 1 269 wy (some ⟨b9, o9, none⟩) n cx) wz ∧ (fun wy => Chs 268 cx wy) wz ∧ True) mixed (fun _ hm => ⟨hm.bl 0, hm.fa 0, hm.fa 1, hm.fa 2, hm.fa 3, hm.fa 4, trivial⟩) fun z => ?_
  refine wt 0 11 1 rfl z (ov_load sc262 rfl (fun _ hm => hm.1) rfl) ?_
  refine wt 1 11 3 rfl z (ov_load sc262 rfl (fun _ hm => hm.1) rfl) ?_
  refine wt 2 11 7 rfl z (ov_nilcheck rfl) ?_
  refine wt 3 11 15 rfl z (ov_field fo266_2 rfl rfl) ?_
  refine wt 5 11 47 rfl z (ov_move rfl) ?_
  refine wa_all [4, 6] (by kernel_rfl) rfl ⟨⟨_, rfl, ?_⟩, ⟨_, rfl, ?_⟩, trivial⟩
  ·refine lk_ sc22 1 rfl rfl rfl (wl_nil ?_)
   refine nw 11 63 (fun _ hm => ⟨hm.bl 0, hm.fa 0, hm.fa 1, hm.fa 2, hm.fa 3, hm.fa 4, trivial⟩) fun z => ?_
   refine wa1 6 rfl ?_
   refine wl_buildSlice (e := 3) (cs := [.int .i64 ((i : Nat) : Int)]) rfl (by kernel_rfl) rfl fun g21 => ?_
   refine wl_nil ?_
   refine nw 11 127 (fun _ hm => ⟨hm.bl 1, hm.fa 0, hm.fa 1, hm.fa 2, hm.fa 3, hm.fa 4, trivial⟩) fun z => ?_
   refine wa1 7 rfl ?_
   refine wl_append (news := [.int .i64 ((i : Nat) : Int)]) 0 0 ap22 rfl rfl rfl rfl rfl rfl rfl (by omega) (by unfold maxLen; omega) rfl rfl fun v2 hv2 => ?_
   rw [show (List.range i).flatMap nEnc ++ ([.int .i64 ((i : Nat) : Int)] : List Value) = (List.range (i + 1)).flatMap nEnc from by rw [List.range_succ, List.flatMap_append]; simp [nEnc]]
   refine wl_look (R := ∃ A cc, v2 = .slice A (i + 1) cc) (fun wx hm => own_slice (hm.ownI 0 rfl)) ?_
   rintro ⟨Ao, co, rfl⟩
   refine wl_nil ?_
   refine nw 11 255 (fun _ hm => ⟨hm.bl 1, hm.fa 0, hm.fa 1, hm.fa 2, hm.fa 3, hm.fa 4, trivial⟩) fun z => ?_
   refine wt 8 11 511 rfl z (ov_nilcheck rfl) ?_
   refine wt 9 11 1023 rfl z (ov_field fo266_2 rfl rfl) ?_
   refine wa1 10 rfl ?_
   refine wl_store 2 sc22 rfl rfl rfl rfl rfl rfl ?_
   refine wl_nil ?_
   refine nw 11 2047 (fun _ hm => ⟨hm.bl 1, hm.fa 0, hm.fa 1, hm.fa 2, hm.fa 3, hm.fa 4, trivial⟩) fun z => ?_
   refine wa_done (by kernel_rfl) ?_
   refine nx_blk_nrm (nx_then (gw_region (ad_ rfl rfl (mv_ rfl (wl_nil ?_)))))
   exact nx_round (i + 1, .slice Ao (i + 1) co) ⟨by dsimp only; omega, fun j hj => by
    by_cases e : j = i
    ·rw [e]; omega
    exact hne j (by dsimp only at hj; omega)⟩ (by dsimp only; omega) ⟨rfl, rfl, rfl, (some_int (by omega)), trivial⟩ (fun _ hm => hm.pick [1, 2] [0, 1] [0, 1, 2, 3, 4] rfl rfl)
  refine wl_buildSlice (e := 3) (cs := [.int .i64 ((i : Nat) : Int)]) rfl (by kernel_rfl) rfl fun g22 => ?_
  refine wl_nil ?_
  refine nw 11 111 (fun _ hm => ⟨hm.bl 1, hm.fa 0, hm.fa 1, hm.fa 2, hm.fa 3, hm.fa 4, trivial⟩) fun z => ?_
  refine wa1 4 rfl ?_
  refine lk_ sc22 2 rfl rfl rfl (wl_nil ?_)
  refine nw 11 127 (fun _ hm => ⟨hm.bl 1, hm.fa 0, hm.fa 1, hm.fa 2, hm.fa 3, hm.fa 4, trivial⟩) fun z => ?_
  refine wa1 7 rfl ?_
  refine wl_append (news := [.int .i64 ((i : Nat) : Int)]) 0 0 ap22 rfl rfl rfl rfl rfl rfl rfl (by omega) (by unfold maxLen; omega) rfl rfl fun v2 hv2 => ?_
  rw [show (List.range i).flatMap nEnc ++ ([.int .i64 ((i : Nat) : Int)] : List Value) = (List.range (i + 1)).flatMap nEnc from by rw [List.range_succ, List.flatMap_append]; simp [nEnc]]
  refine wl_look (R := ∃ A cc, v2 = .slice A (i + 1) cc) (fun wx hm => own_slice (hm.ownI 0 rfl)) ?_
  rintro ⟨Ao, co, rfl⟩
  refine wl_nil ?_
  refine nw 11 255 (fun _ hm => ⟨hm.bl 1, hm.fa 0, hm.fa 1, hm.fa 2, hm.fa 3, hm.fa 4, trivial⟩) fun z => ?_
  refine wt 8 11 511 rfl z (ov_nilcheck rfl) ?_
  refine wt 9 11 1023 rfl z (ov_field fo266_2 rfl rfl) ?_
  refine wa1 10 rfl ?_
  refine wl_store 2 sc22 rfl rfl rfl rfl rfl rfl ?_
  refine wl_nil ?_
  refine nw 11 2047 (fun _ hm => ⟨hm.bl 1, hm.fa 0, hm.fa 1, hm.fa 2, hm.fa 3, hm.fa 4, trivial⟩) fun z => ?_
  refine wa_done (by kernel_rfl) ?_
  refine nx_blk_nrm (nx_then (gw_region (ad_ rfl rfl (mv_ rfl (wl_nil ?_)))))
  exact nx_round (i + 1, .slice Ao (i + 1) co) ⟨by dsimp only; omega, fun j hj => by
   by_cases e : j = i
   ·rw [e]; omega
   exact hne j (by dsimp only at hj; omega)⟩ (by dsimp only; omega) ⟨rfl, rfl, rfl, (some_int (by omega)), trivial⟩ (fun _ hm => hm.pick [1, 2] [0, 1] [0, 1, 2, 3, 4] rfl rfl)
 have hi : ¬ (((i : Nat) : Int) < ((n : Nat) : Int)) := by simpa using hh
 clear hh
 refine gw_exit ?_
 refine nx_then_exit (nx_then_exit ?_)
 refine nx_blk_here ?_
 refine nx_then (sr_ ?_)
 have hin2 : i = n := by omega
 subst hin2
 refine wl_look (R := ∃ A cc, v = .slice A i cc) (fun wx hm => own_slice (hm.ownI 0 rfl)) ?_
 rintro ⟨Ao, co, rfl⟩
 obtain ⟨OD, hOD⟩ : ∃ z, z = ordN (l.map (chB cs sl)) i := ⟨_, rfl⟩
 have hOp : OD.Perm (List.range l.length) := by rw [hOD, hlen]; exact ordN_perm _ _
 have hOl : OD.length = i := by rw [hOp.length_eq, List.length_range]; exact hlen
 have hOm : ∀ j ∈ OD, j < i := fun j hj => by have := List.mem_range.1 (hOp.mem_iff.1 hj); omega
 have hOn : OD.Nodup := hOp.nodup_iff.2 List.nodup_range
 refine lk_ sc262 0 rfl rfl rfl (wl_ov (ov_nilcheck rfl) rfl (fd_ fo266_2 rfl rfl (lk_ sc22 1 rfl rfl rfl (wl_ov (ov_makeFunc rfl rfl) rfl ?_))))
 by_cases h0 : i = 0
 ·refine wl_callv (v := .tuple #[]) rfl cb155 rfl rfl (fun wx hm => (by subst h0; exact stable0_co Ao co g7 wx)) ?_
  rw [show (List.range i).flatMap nEnc = OD.flatMap nEnc from by rw [List.length_eq_zero_iff.1 (hOl.trans h0), h0]; rfl]
  refine nn_ (gw_seq ?_)
  refine gd (fun wz => Blk wz g7 262 [.pointer (some ⟨gx, 0, none⟩)] ∧ (SlOld csEnc 2 158 w.heap.size none A0 n0 cs) wz ∧ (SlOld skEnc 2 211 w.heap.size none A1 n1 sl) wz ∧ (SlOld bkEnc 6 92 w.heap.size none A i l) wz ∧ (fun wy => SlT csnEnc 1 269 wy A9 i cx) wz ∧ (fun wy => Chs 268 cx wy) wz ∧ True) mixed (fun _ hm => ⟨hm.bl 0, hm.fa 0, hm.fa 1, hm.fa 2, hm.fa 3, hm.fa 4, trivial⟩) fun z => ?_
  refine wt 0 8 1 rfl z (ov_load sc262 rfl (fun _ hm => hm.1) rfl) ?_
  refine wt 1 8 3 rfl z (ov_move rfl) ?_
  refine wt 2 8 7 rfl z (ov_len es76 rfl) ?_
  refine wt 3 8 15 rfl z (ov_add rfl rfl (by omega) (by omega)) ?_
  refine wa1 4 rfl ?_
  refine wl_makeO (n := (i + 1)) (sz := 1) (e := 3) (by_ := 8) (z := .int .i64 0) (by kernel_rfl) (by kernel_rfl) rfl rfl (by omega) (by omega) (by omega) (by unfold maxLen; omega) (made_flat (enc := iEnc) (x := (0 : Int)) rfl rfl (by decide) (i + 1)) rfl fun g23 => ?_
  obtain ⟨CO, hCO⟩ : ∃ z, z = coB cs sl l OD := ⟨_, rfl⟩
  have hCl : CO.length = i := by rw [hCO]; unfold coB; rw [List.length_map]; exact hOl
  rw [show (List.replicate (i + 1) (0 : Int)).flatMap iEnc = (restL CO i).flatMap iEnc from by rw [show restL CO i = List.replicate (i + 1) 0 from by have := restL_zero CO; rw [hCl] at this; exact this]]
  refine wl_nil ?_
  refine nw 8 31 (fun _ hm => ⟨hm.bl 0, hm.fa 0, hm.fa 1, hm.fa 2, hm.fa 3, hm.fa 4, trivial⟩) fun z => ?_
  refine wt 5 8 63 rfl z (ov_nilcheck rfl) ?_
  refine wt 6 8 127 rfl z (ov_field fo266_5 rfl rfl) ?_
  refine wa1 7 rfl ?_
  refine wl_store 1 sc22 rfl rfl rfl rfl rfl rfl ?_
  refine wl_nil ?_
  refine nw 8 255 (fun _ hm => ⟨hm.bl 0, hm.fa 0, hm.fa 1, hm.fa 2, hm.fa 3, hm.fa 4, trivial⟩) fun z => ?_
  refine wa_done (by kernel_rfl) ?_
  refine nx_then (gw_seq (sr_ (mv_ rfl (wl_ov (ov_len es76 rfl) rfl ?_))))
  refine wl_ov (ov_sub rfl rfl (by omega) (by omega)) rfl ?_
  refine sg_ rfl (nn_ (gw_block ?_))
  refine gw_loop (γ := Nat) (fun (j : Nat) => j ≤ i) (fun (j : Nat) => [(7, .pointer (some ⟨g7, 0, none⟩)), (9, .int .i64 (((j : Nat) : Int) - 1))]) (fun (j : Nat) => fun _ => True) (fun (j : Nat) => [(g7, 262, [.pointer (some ⟨gx, 0, none⟩)]), (gx, 266, [.slice A i c, .slice A9 i c9, .slice Ao i co, .slice (some ⟨gc, 0, none⟩) i i, .slice none 0 0, .slice (some ⟨g23, 0, none⟩) (i + 1) (i + 1), .int .i64 (-1)])]) (fun (j : Nat) => [⟨.slice (some ⟨g23, 0, none⟩) (i + 1) (i + 1), 3, 1, (i + 1), (restL CO j).flatMap iEnc⟩, ⟨.slice Ao i co, 3, 1, i, OD.flatMap nEnc⟩, ⟨.slice (some ⟨gc, 0, none⟩) i i, 9, 1, i, (List.replicate (i) (⟨#[]⟩ : ByteArray)).flatMap sgEnc⟩]) (fun (j : Nat) => [SlOld csEnc 2 158 w.heap.size none A0 n0 cs, SlOld skEnc 2 211 w.heap.size none A1 n1 sl, SlOld bkEnc 6 92 w.heap.size none A i l, fun wy => SlT csnEnc 1 269 wy A9 i cx, fun wy => Chs 268 cx wy]) (fun (j : Nat) => j) i (Nat.le_refl _) ⟨rfl, rfl, trivial⟩ (fun _ hm => hm.pick [0, 1] [0, 1, 2] [0, 1, 2, 3, 4] rfl rfl) ?_
  intro j hinv
  replace hinv : j ≤ i := hinv
  refine gw_seq (sr_ (mv_ rfl ?_))
  refine wl_ov (ov_geq rfl rfl) rfl ?_
  refine nn_ ?_
  refine gw_cond rfl (fun hh => ?_) (fun hh => ?_)
  ·have hj : 0 ≤ ((j : Nat) : Int) - 1 := by simpa using hh
   clear hh
   refine gw_skip (nx_then (gw_seq (gw_block ?_)))
   obtain ⟨k, rfl⟩ : ∃ k, j = k + 1 := ⟨j - 1, by omega⟩
   have ek : (((k + 1 : Nat) : Int) - 1) = ((k : Nat) : Int) := by omega
   have hki : k < i := by omega
   refine gw_set 9 (v' := .int .i64 ((k : Nat) : Int)) rfl (congrArg (Value.int .i64) ek) ?_
   exact absurd hki (by omega)
  have hj : ¬ (0 ≤ ((j : Nat) : Int) - 1) := by simpa using hh
  clear hh
  refine gw_exit ?_
  refine nx_then_exit (nx_then_exit ?_)
  refine nx_blk_here ?_
  refine nx_then (sr_ ?_)
  have hj0 : j = 0 := by omega
  subst hj0
  refine lk_ sc262 0 rfl rfl rfl ?_
  refine wl_callG (γ := List ByteArray) (val := fun _ => .tuple #[]) (φ := fun _ => True) (K' := fun _ => fun _ => True) (L' := fun _ => [(gx, 266, [.slice A i c, .slice A9 i c9, .slice Ao i co, .slice (some ⟨gc, 0, none⟩) i i, .slice none 0 0, .slice (some ⟨g23, 0, none⟩) (i + 1) (i + 1), .int .i64 (bestI (bbW roomF (OD.map (itB cs sl l)) [] 0 none))]), (g7, 262, [.pointer (some ⟨gx, 0, none⟩)])]) (O' := fun cl2 => [⟨.slice (some ⟨gc, 0, none⟩) i i, 9, 1, i, cl2.flatMap sgEnc⟩, ⟨.slice Ao i co, 3, 1, i, OD.flatMap nEnc⟩, ⟨.slice (some ⟨g23, 0, none⟩) (i + 1) (i + 1), 3, 1, (i + 1), (restL CO 0).flatMap iEnc⟩]) (X' := fun _ => [SlOld bkEnc 6 92 w.heap.size none A i l]) rfl cb228 rfl rfl (fun wx hm => by
   have h := cf_all w l A i c cs sl A9 c9 cx OD Ao co (restL CO 0) gx g7 gc g23 (by omega) (own_cap (hm.ownI 1 rfl)) hOl (by rw [restL_len, hCl]) hOm hOn htm hcx hstp hchl (fun k => by rw [co_it]; exact Nat.le_trans (co_le hstp (fun j hj => by rw [hlen]; exact hOm j hj) k) (by omega)) (fun k hk => by rw [co_it, ← hCO, restL_at (by omega)]; rfl) i 0 (by omega) 0 none (List.replicate (i) (⟨#[]⟩ : ByteArray)) wx (by rw [List.length_replicate]) (by omega) (hm.pick [1, 0] [2, 1, 0] [2, 3, 4] rfl rfl).cx
   exact h.mono fun _ _ ⟨cl2, he, _, _, hm2⟩ => ⟨cl2, he, trivial, (hm2.cx.pick [0, 1] [0, 1, 2] [0] rfl rfl)⟩) ?_
  rintro cl2 -
  refine nn_ (sr_ (lk_ sc262 1 rfl rfl rfl (wl_ov (ov_nilcheck rfl) rfl (fd_ fo266_6 rfl rfl (lk_ sc3 0 rfl rfl rfl (sg_ rfl (nn_ ?_)))))))
  refine gw_ret ?_
  refine nx_ret1 rfl rfl fun wx hm => ?_
  exact ⟨_, rfl, fw_bb hcl hlo hix htm hOp, hm.g⟩
 refine wl_look (R := ∃ g, Ao = some ⟨g, 0, none⟩) (fun wx hm => own_addr (hm.ownI 0 rfl) (by omega)) ?_
 rintro ⟨go, rfl⟩
 rw [show (List.range i).flatMap nEnc = ((List.range i).map fun k => ((k : Nat) : Int)).flatMap iEnc from (n_flat _).symm]
 refine wl_callr (v := .tuple #[]) (xs' := OD.flatMap nEnc) 0 rfl rfl rfl cb155 rfl rfl (fun wx hm => (by have h := stable_co cx (l.map (chB cs sl)) A9 i c9 g7 gx _ _ _ _ _ _ ((List.range i).map fun k => ((k : Nat) : Int)) go i co _ wx (hm.ownI 0 rfl) (by simp) (by omega) ((hm.fact 3 rfl).farT (hm.ownI 0 rfl) (by decide)) (hm.blkFar 0 0 rfl rfl) (hm.blkFar 1 0 rfl rfl) hcx hcn (fun z hz => by obtain ⟨q, hq, rfl⟩ := List.mem_map.1 hz; have := List.mem_range.1 hq; omega); rw [ordN_eq, ← hOD, n_flat] at h; exact h)) ?_
 refine nn_ (gw_seq ?_)
 refine gd (fun wz => Blk wz g7 262 [.pointer (some ⟨gx, 0, none⟩)] ∧ (SlOld csEnc 2 158 w.heap.size none A0 n0 cs) wz ∧ (SlOld skEnc 2 211 w.heap.size none A1 n1 sl) wz ∧ (SlOld bkEnc 6 92 w.heap.size none A i l) wz ∧ (fun wy => SlT csnEnc 1 269 wy A9 i cx) wz ∧ (fun wy => Chs 268 cx wy) wz ∧ True) mixed (fun _ hm => ⟨hm.bl 0, hm.fa 0, hm.fa 1, hm.fa 2, hm.fa 3, hm.fa 4, trivial⟩) fun z => ?_
 refine wt 0 8 1 rfl z (ov_load sc262 rfl (fun _ hm => hm.1) rfl) ?_
 refine wt 1 8 3 rfl z (ov_move rfl) ?_
 refine wt 2 8 7 rfl z (ov_len es76 rfl) ?_
 refine wt 3 8 15 rfl z (ov_add rfl rfl (by omega) (by omega)) ?_
 refine wa1 4 rfl ?_
 refine wl_makeO (n := (i + 1)) (sz := 1) (e := 3) (by_ := 8) (z := .int .i64 0) (by kernel_rfl) (by kernel_rfl) rfl rfl (by omega) (by omega) (by omega) (by unfold maxLen; omega) (made_flat (enc := iEnc) (x := (0 : Int)) rfl rfl (by decide) (i + 1)) rfl fun g24 => ?_
 obtain ⟨CO, hCO⟩ : ∃ z, z = coB cs sl l OD := ⟨_, rfl⟩
 have hCl : CO.length = i := by rw [hCO]; unfold coB; rw [List.length_map]; exact hOl
 rw [show (List.replicate (i + 1) (0 : Int)).flatMap iEnc = (restL CO i).flatMap iEnc from by rw [show restL CO i = List.replicate (i + 1) 0 from by have := restL_zero CO; rw [hCl] at this; exact this]]
 refine wl_nil ?_
 refine nw 8 31 (fun _ hm => ⟨hm.bl 0, hm.fa 0, hm.fa 1, hm.fa 2, hm.fa 3, hm.fa 4, trivial⟩) fun z => ?_
 refine wt 5 8 63 rfl z (ov_nilcheck rfl) ?_
 refine wt 6 8 127 rfl z (ov_field fo266_5 rfl rfl) ?_
 refine wa1 7 rfl ?_
 refine wl_store 1 sc22 rfl rfl rfl rfl rfl rfl ?_
 refine wl_nil ?_
 refine nw 8 255 (fun _ hm => ⟨hm.bl 0, hm.fa 0, hm.fa 1, hm.fa 2, hm.fa 3, hm.fa 4, trivial⟩) fun z => ?_
 refine wa_done (by kernel_rfl) ?_
 refine nx_then (gw_seq (sr_ (mv_ rfl (wl_ov (ov_len es76 rfl) rfl ?_))))
 refine wl_ov (ov_sub rfl rfl (by omega) (by omega)) rfl ?_
 refine sg_ rfl (nn_ (gw_block ?_))
 refine gw_loop (γ := Nat) (fun (j : Nat) => j ≤ i) (fun (j : Nat) => [(7, .pointer (some ⟨g7, 0, none⟩)), (9, .int .i64 (((j : Nat) : Int) - 1))]) (fun (j : Nat) => fun _ => True) (fun (j : Nat) => [(g7, 262, [.pointer (some ⟨gx, 0, none⟩)]), (gx, 266, [.slice A i c, .slice A9 i c9, .slice (some ⟨go, 0, none⟩) i co, .slice (some ⟨gc, 0, none⟩) i i, .slice none 0 0, .slice (some ⟨g24, 0, none⟩) (i + 1) (i + 1), .int .i64 (-1)])]) (fun (j : Nat) => [⟨.slice (some ⟨g24, 0, none⟩) (i + 1) (i + 1), 3, 1, (i + 1), (restL CO j).flatMap iEnc⟩, ⟨.slice (some ⟨go, 0, none⟩) i co, 3, 1, i, OD.flatMap nEnc⟩, ⟨.slice (some ⟨gc, 0, none⟩) i i, 9, 1, i, (List.replicate (i) (⟨#[]⟩ : ByteArray)).flatMap sgEnc⟩]) (fun (j : Nat) => [SlOld csEnc 2 158 w.heap.size none A0 n0 cs, SlOld skEnc 2 211 w.heap.size none A1 n1 sl, SlOld bkEnc 6 92 w.heap.size none A i l, fun wy => SlT csnEnc 1 269 wy A9 i cx, fun wy => Chs 268 cx wy]) (fun (j : Nat) => j) i (Nat.le_refl _) ⟨rfl, rfl, trivial⟩ (fun _ hm => hm.pick [0, 1] [0, 1, 2] [0, 1, 2, 3, 4] rfl rfl) ?_
 intro j hinv
 replace hinv : j ≤ i := hinv
 refine gw_seq (sr_ (mv_ rfl ?_))
 refine wl_ov (ov_geq rfl rfl) rfl ?_
 refine nn_ ?_
 refine gw_cond rfl (fun hh => ?_) (fun hh => ?_)
 ·have hj : 0 ≤ ((j : Nat) : Int) - 1 := by simpa using hh
  clear hh
  refine gw_skip (nx_then (gw_seq (gw_block ?_)))
  obtain ⟨k, rfl⟩ : ∃ k, j = k + 1 := ⟨j - 1, by omega⟩
  have ek : (((k + 1 : Nat) : Int) - 1) = ((k : Nat) : Int) := by omega
  have hki : k < i := by omega
  refine gw_set 9 (v' := .int .i64 ((k : Nat) : Int)) rfl (congrArg (Value.int .i64) ek) ?_
  obtain ⟨b9, o9, rfl⟩ := h9 (by omega)
  obtain ⟨q, hq⟩ : ∃ x, OD[k]? = some x := ⟨_, List.getElem?_eq_getElem (by omega)⟩
  have hqi := hOm q (List.mem_of_getElem? hq)
  obtain ⟨x9, hx9⟩ : ∃ x, cx[q]? = some x := ⟨_, List.getElem?_eq_getElem (by omega)⟩
  have hx9m := List.mem_of_getElem? hx9
  have hln := lenN_at hcx hcn hx9
  have hxl := cx_at hcx hx9
  have hlnz := hne q hqi
  obtain ⟨bi, oi, hAi⟩ := hin _ hx9m (by omega)
  obtain ⟨Ai, ni, ci, li⟩ := x9
  dsimp only at hln hxl hAi
  subst hAi
  have hlil := hcn _ hx9m
  dsimp only at hlil
  obtain ⟨e0, he0⟩ : ∃ x, li[0]? = some x := ⟨_, List.getElem?_eq_getElem (by omega)⟩
  have hco := co_at (cs := cs) (sl := sl) (l := l) hq
  rw [← hCO, ← hxl] at hco
  have hrw := restW_at hco
  rw [head_at he0] at hrw
  obtain ⟨e1, e2, e3⟩ := e0
  dsimp only at hrw
  obtain ⟨r1, hr1⟩ : ∃ z, z = restW (CO.drop (k + 1)) := ⟨_, rfl⟩
  obtain ⟨r0, hr0⟩ : ∃ z, z = restW (CO.drop k) := ⟨_, rfl⟩
  have hrb := co_le (l := l) (cs := cs) (sl := sl) hstp (fun j hj => by rw [hlen]; exact hOm j hj) k
  rw [← hCO, ← hr0] at hrb
  rw [← hr0, ← hr1] at hrw
  have hg1 : (restL CO (k + 1))[k + 1]? = some ((r1 : Nat) : Int) := by rw [restL_at (by omega), hr1]; unfold restR; rw [if_pos (Nat.le_refl _)]
  have hg0 : (restL CO (k + 1))[k]? = some (restR CO (k + 1) k) := restL_at (by omega)
  refine gd (fun wz => Blk wz g7 262 [.pointer (some ⟨gx, 0, none⟩)] ∧ Blk wz gx 266 [.slice A i c, .slice (some ⟨b9, o9, none⟩) i c9, .slice (some ⟨go, 0, none⟩) i co, .slice (some ⟨gc, 0, none⟩) i i, .slice none 0 0, .slice (some ⟨g24, 0, none⟩) (i + 1) (i + 1), .int .i64 (-1)] ∧ (SlOld csEnc 2 158 w.heap.size none A0 n0 cs) wz ∧ (SlOld skEnc 2 211 w.heap.size none A1 n1 sl) wz ∧ (SlOld bkEnc 6 92 w.heap.size none A i l) wz ∧ (fun wy => SlT csnEnc 1 269 wy (some ⟨b9, o9, none⟩) i cx) wz ∧ (fun wy => Chs 268 cx wy) wz ∧ wz.ownsRow w.heap.size 3 1 (.slice (some ⟨go, 0, none⟩) i co) i (OD.flatMap nEnc) ∧ wz.ownsRow w.heap.size 9 1 (.slice (some ⟨gc, 0, none⟩) i i) i ((List.replicate (i) (⟨#[]⟩ : ByteArray)).flatMap sgEnc) ∧ True) mixed (fun _ hm => ⟨hm.bl 0, hm.bl 1, hm.fa 0, hm.fa 1, hm.fa 2, hm.fa 3, hm.fa 4, hm.ownI 1 rfl, hm.ownI 2 rfl, trivial⟩) fun z => ?_
  refine wt 0 32 1 rfl z (ov_load sc262 rfl (fun _ hm => hm.1) rfl) ?_
  refine wt 1 32 3 rfl z (ov_nilcheck rfl) ?_
  refine wt 2 32 7 rfl z (ov_field fo266_5 rfl rfl) ?_
  refine wt 3 32 15 rfl z (ov_load sc22 rfl (fun _ hm => hm.2.1) rfl) ?_
  refine wt 4 32 31 rfl z (ov_move rfl) ?_
  refine wt 5 32 63 rfl z (ov_load sc262 rfl (fun _ hm => hm.1) rfl) ?_
  refine wt 6 32 127 rfl z (ov_nilcheck rfl) ?_
  refine wt 7 32 255 rfl z (ov_field fo266_5 rfl rfl) ?_
  refine wt 8 32 511 rfl z (ov_load sc22 rfl (fun _ hm => hm.2.1) rfl) ?_
  refine wt 9 32 1023 rfl z (ov_move rfl) ?_
  refine wt 10 32 2047 rfl z (ov_add rfl rfl (by omega) (by omega)) ?_
  refine wa_set 75 (v' := .int .i64 ((k + 1 : Nat) : Int)) rfl (congrArg (Value.int .i64) (by omega)) ?_
  refine wt 11 32 4095 rfl z (ov_index (j := k + 1) es22 rfl rfl (by omega)) ?_
  refine wt 13 32 12287 rfl z (ov_load sc262 rfl (fun _ hm => hm.1) rfl) ?_
  refine wt 14 32 28671 rfl z (ov_nilcheck rfl) ?_
  refine wt 15 32 61439 rfl z (ov_field fo266_1 rfl rfl) ?_
  refine wt 16 32 126975 rfl z (ov_load sc263 rfl (fun _ hm => hm.2.1) rfl) ?_
  refine wt 17 32 258047 rfl z (ov_load sc262 rfl (fun _ hm => hm.1) rfl) ?_
  refine wt 18 32 520191 rfl z (ov_nilcheck rfl) ?_
  refine wt 19 32 1044479 rfl z (ov_field fo266_2 rfl rfl) ?_
  refine wt 20 32 2093055 rfl z (ov_load sc22 rfl (fun _ hm => hm.2.1) rfl) ?_
  refine wt 21 32 4190207 rfl z (ov_move rfl) ?_
  refine wt 22 32 8384511 rfl z (ov_index (j := k) es22 rfl rfl (by omega)) ?_
  refine wt 23 32 16773119 rfl z (ov_elem1 (k := 0) (v := .int .i64 ((q : Nat) : Int)) sc3 rfl (fun _ hm => (SlT.ofOwn n_len (hm.2.2.2.2.2.2.2.1) hOl)) hq rfl rfl) ?_
  refine wt 24 32 33550335 rfl z (ov_index (j := q) es263 rfl rfl (by omega)) ?_
  refine wt 25 32 67104767 rfl z (ov_elem1 (k := 0) (v := .slice (some ⟨bi, oi, none⟩) ni ci) sc269 rfl (fun _ hm => (hm.2.2.2.2.2.1)) hx9 rfl rfl) ?_
  refine wt 26 32 134213631 rfl z (ov_index (j := 0) es269 rfl rfl (by omega)) ?_
  refine wt 27 32 268431359 rfl z (ov_field fo268_1 rfl rfl) ?_
  refine wt 28 32 536866815 rfl z (ov_elem1 (k := 1) (v := .int .i64 ((e2 : Nat) : Int)) sc3 rfl (fun _ hm => ((hm.2.2.2.2.2.2.1) _ hx9m)) he0 rfl rfl) ?_
  refine wa1 12 rfl ?_
  refine wl_ov (ov_elem1 (k := 0) (v := .int .i64 ((r1 : Nat) : Int)) sc3 rfl (fun _ hm => (SlT.ofOwn i_len (hm.ownI 0 rfl) (by rw [restL_len]; omega))) hg1 rfl rfl) rfl ?_
  refine wl_nil ?_
  refine nw 32 536870911 (fun _ hm => ⟨hm.bl 0, hm.bl 1, hm.fa 0, hm.fa 1, hm.fa 2, hm.fa 3, hm.fa 4, hm.ownI 1 rfl, hm.ownI 2 rfl, trivial⟩) fun z => ?_
  refine wt 29 32 1073741823 rfl z (ov_add rfl rfl (by omega) (by omega)) ?_
  refine wa_set 94 (v' := .int .i64 ((r0 : Nat) : Int)) rfl (congrArg (Value.int .i64) (by omega)) ?_
  refine wt 30 32 2147483647 rfl z (ov_index (j := k) es22 rfl rfl (by omega)) ?_
  refine wa1 31 rfl ?_
  refine wl_storeE (l := (restL CO (k + 1))) (j := k) (r := 0) (el := (restR CO (k + 1) k)) (el' := ((r0 : Nat) : Int)) 0 sc3 rfl rfl rfl rfl i_len rfl hg0 (by rw [restL_len]; omega) (show 0 < 1 by decide) rfl rfl ?_
  rw [show ((restL CO (k + 1)).set k ((r0 : Nat) : Int)).flatMap iEnc = (restL CO k).flatMap iEnc from by rw [hr0, restL_set (by omega)]]
  refine wl_nil ?_
  refine nw 32 4294967295 (fun _ hm => ⟨hm.bl 0, hm.bl 1, hm.fa 0, hm.fa 1, hm.fa 2, hm.fa 3, hm.fa 4, hm.ownI 1 rfl, hm.ownI 2 rfl, trivial⟩) fun z => ?_
  refine wa_done (by kernel_rfl) ?_
  refine nx_blk_nrm (nx_then (gw_region (mv_ rfl ?_)))
  refine wl_ov (ov_sub rfl rfl (by omega) (by omega)) rfl ?_
  refine sg_ rfl (wl_nil ?_)
  exact nx_round k (by omega) (by omega) ⟨rfl, rfl, trivial⟩ (fun _ hm => hm.pick [0, 1] [0, 1, 2] [0, 1, 2, 3, 4] rfl rfl)
 have hj : ¬ (0 ≤ ((j : Nat) : Int) - 1) := by simpa using hh
 clear hh
 refine gw_exit ?_
 refine nx_then_exit (nx_then_exit ?_)
 refine nx_blk_here ?_
 refine nx_then (sr_ ?_)
 have hj0 : j = 0 := by omega
 subst hj0
 refine lk_ sc262 0 rfl rfl rfl ?_
 refine wl_callG (γ := List ByteArray) (val := fun _ => .tuple #[]) (φ := fun _ => True) (K' := fun _ => fun _ => True) (L' := fun _ => [(gx, 266, [.slice A i c, .slice A9 i c9, .slice (some ⟨go, 0, none⟩) i co, .slice (some ⟨gc, 0, none⟩) i i, .slice none 0 0, .slice (some ⟨g24, 0, none⟩) (i + 1) (i + 1), .int .i64 (bestI (bbW roomF (OD.map (itB cs sl l)) [] 0 none))]), (g7, 262, [.pointer (some ⟨gx, 0, none⟩)])]) (O' := fun cl2 => [⟨.slice (some ⟨gc, 0, none⟩) i i, 9, 1, i, cl2.flatMap sgEnc⟩, ⟨.slice (some ⟨go, 0, none⟩) i co, 3, 1, i, OD.flatMap nEnc⟩, ⟨.slice (some ⟨g24, 0, none⟩) (i + 1) (i + 1), 3, 1, (i + 1), (restL CO 0).flatMap iEnc⟩]) (X' := fun _ => [SlOld bkEnc 6 92 w.heap.size none A i l]) rfl cb228 rfl rfl (fun wx hm => by
  have h := cf_all w l A i c cs sl A9 c9 cx OD (some ⟨go, 0, none⟩) co (restL CO 0) gx g7 gc g24 (by omega) (own_cap (hm.ownI 1 rfl)) hOl (by rw [restL_len, hCl]) hOm hOn htm hcx hstp hchl (fun k => by rw [co_it]; exact Nat.le_trans (co_le hstp (fun j hj => by rw [hlen]; exact hOm j hj) k) (by omega)) (fun k hk => by rw [co_it, ← hCO, restL_at (by omega)]; rfl) i 0 (by omega) 0 none (List.replicate (i) (⟨#[]⟩ : ByteArray)) wx (by rw [List.length_replicate]) (by omega) (hm.pick [1, 0] [2, 1, 0] [2, 3, 4] rfl rfl).cx
  exact h.mono fun _ _ ⟨cl2, he, _, _, hm2⟩ => ⟨cl2, he, trivial, (hm2.cx.pick [0, 1] [0, 1, 2] [0] rfl rfl)⟩) ?_
 rintro cl2 -
 refine nn_ (sr_ (lk_ sc262 1 rfl rfl rfl (wl_ov (ov_nilcheck rfl) rfl (fd_ fo266_6 rfl rfl (lk_ sc3 0 rfl rfl rfl (sg_ rfl (nn_ ?_)))))))
 refine gw_ret ?_
 refine nx_ret1 rfl rfl fun wx hm => ?_
 exact ⟨_, rfl, fw_bb hcl hlo hix htm hOp, hm.g⟩
end Go.Proofs.YtempjmpfdniecaaGreatDoor
namespace Go.Proofs.YtempjmpfdniecaaGreatDoor
open Go.RowKit
/-- What right bookings have. -/
theorem right_has {cs : List Cs} {sl : List Sk} {l : List Bk} (h : firstE [stockE cs sl, checkE cs l] = 0) : (cs.length ≤ 30 ∧ Closed cs ∧ loopB cs cs.length = false) ∧ (∀ k, manyV sl k ≤ 100) ∧ (∀ b ∈ l, keysE cs [b.cls] = 0) ∧ BkTim l ∧ formE l = 0 := by
  obtain ⟨h1, h2⟩ := firstE_two h
  obtain ⟨hc0, hf0, hk⟩ := gcheckE_ok h2
  exact ⟨classesE_ok hc0, many_le h1, hk, form_tim hf0, hf0⟩
end Go.Proofs.YtempjmpfdniecaaGreatDoor
namespace Go.Proofs.YtempjmpfdniecaaGreatDoor
open Go.RowKit
theorem firstE_cons0 {a : Int} {r : List Int} (h : firstE (a :: r) = 0) : a = 0 ∧ firstE r = 0 := by
  unfold firstE at h
  split at h
  · exact ⟨‹_›, h⟩
  · exact absurd h ‹_›
theorem whenE_no {b : Bool} {e : Int} (h : whenE b e = 0) (he : e ≠ 0) : b = false := by
  cases b
  · rfl
  · exact absurd h he
theorem newE_ok {cs : List Cs} {l : List Bk} {b : Bk} (h : newE cs l b = 0) : classedE cs [b] = 0 ∧ hasB l b.key = false ∧ l.length ≤ 6 := by
  obtain ⟨h1, h⟩ := firstE_cons0 h
  obtain ⟨h2, h⟩ := firstE_cons0 h
  obtain ⟨h3, _⟩ := firstE_cons0 h
  have h4 := of_decide_eq_false (whenE_no h3 (by decide))
  exact ⟨h1, whenE_no h2 (by decide), by omega⟩
/-- The error of Can. -/
def canE (cs : List Cs) (sl : List Sk) (l : List Bk) (b : Bk) : Int := if firstE [stockE cs sl, checkE cs l] = 0 then newE cs l b else firstE [stockE cs sl, checkE cs l]
/-- It can be added. -/
def canB (cs : List Cs) (sl : List Sk) (l : List Bk) (b : Bk) : Bool := (asgO cs sl (withB l b)).isSome
theorem canE_ok {cs : List Cs} {sl : List Sk} {l : List Bk} {b : Bk} (h : canE cs sl l b = 0) : firstE [stockE cs sl, checkE cs l] = 0 ∧ newE cs l b = 0 := by
  unfold canE at h
  split at h
  · exact ⟨‹_›, h⟩
  · exact absurd h ‹_›
/-- What a right booking has. -/
theorem oneB_has {cs : List Cs} {sl : List Sk} {l : List Bk} {b : Bk} (h0 : firstE [stockE cs sl, checkE cs l] = 0) (h1 : classedE cs [b] = 0) : keysE cs [b.cls] = 0 ∧ (0 ≤ b.fr ∧ b.fr < b.to_ ∧ b.to_ ≤ 5761439) := by
  obtain ⟨hs, hc⟩ := firstE_two h0
  obtain ⟨hc0, _⟩ := firstE_two hc
  have h2 : firstE [stockE cs sl, checkE cs [b]] = 0 := by
    unfold checkE
    rw [hs, hc0, h1]; rfl
  obtain ⟨_, _, hk, ht, _⟩ := right_has h2
  exact ⟨hk b (List.mem_singleton.2 rfl), ht b (List.mem_singleton.2 rfl)⟩
theorem with_has {cs : List Cs} {sl : List Sk} {l : List Bk} {b : Bk} (h0 : firstE [stockE cs sl, checkE cs l] = 0) (hk : keysE cs [b.cls] = 0) (ht : 0 ≤ b.fr ∧ b.fr < b.to_ ∧ b.to_ ≤ 5761439) : (∀ x ∈ withB l b, keysE cs [x.cls] = 0) ∧ BkTim (withB l b) := by
  obtain ⟨_, _, h2, h3, _⟩ := right_has h0
  refine ⟨fun x hx => ?_, fun x hx => ?_⟩
  · rcases withB_mem.1 hx with hx | rfl
    · exact h2 x hx
    · exact hk
  · rcases withB_mem.1 hx with hx | rfl
    · exact h3 x hx
    · exact ht
theorem can_any (cs : List Cs) (A0 : Option Addr) (n0 c0 : Nat) (sl : List Sk) (A1 : Option Addr) (n1 c1 : Nat) (l : List Bk) (A : Option Addr) (n c : Nat) (x0 x1 : ByteArray) (x2 x3 x4 x5 : Int) (w : World) (hcs : SlT csEnc 2 158 w A0 n0 cs) (hco : ∀ x ∈ cs, CsOk x) (hn0 : n0 ≤ 1000) (hs : SlT skEnc 2 211 w A1 n1 sl) (hso : ∀ x ∈ sl, SkOk x) (hn1 : n1 ≤ 1000) (hl : SlT bkEnc 6 92 w A n l) (hok : ∀ x ∈ l, BkOk x) (hn : n ≤ 1000) (hbo : BkOk (⟨x0, x1, x2, x3, x4, x5⟩ : Bk)) :
  Calls Tryz.prog 43 #[.slice A0 n0 c0, .slice A1 n1 c1, .slice A n c, .agg #[.string x0, .string x1, .int .i64 x2, .int .i64 x3, .int .i64 x4, .int .i64 x5]] w (fun e w' => e = .returned (.tuple #[.bool (if canE cs sl l (⟨x0, x1, x2, x3, x4, x5⟩ : Bk) = 0 then canB cs sl l (⟨x0, x1, x2, x3, x4, x5⟩ : Bk) else false), .int .i64 (canE cs sl l (⟨x0, x1, x2, x3, x4, x5⟩ : Bk))]) ∧ w.grownBy w' none) := by
 refine gw_enter ⟨26, w, none, [92]⟩ Tryz.func43 rfl Tryz.ntmps43 rfl (mem0 (X := [SlOld csEnc 2 158 w.heap.size none A0 n0 cs, SlOld skEnc 2 211 w.heap.size none A1 n1 sl, SlOld bkEnc 6 92 w.heap.size none A n l]) (allF_cons hcs.old (allF_cons hs.old (allF_cons hl.old allF_nil))) (allL_cons SlOld.lasts (allL_cons SlOld.lasts (allL_cons SlOld.lasts allL_nil)))) ?_
 refine sr_ ?_
 have hlen := hl.len
 obtain ⟨CE, hCE⟩ : ∃ z, z = canE cs sl l (⟨x0, x1, x2, x3, x4, x5⟩ : Bk) := ⟨_, rfl⟩
 obtain ⟨CB, hCB⟩ : ∃ z, z = canB cs sl l (⟨x0, x1, x2, x3, x4, x5⟩ : Bk) := ⟨_, rfl⟩
 rw [← hCE, ← hCB]
 refine wl_box rfl rfl rfl fun g1 => ?_
 refine sg_ rfl (sg_ rfl (nn_ (gw_seq (sr_ (mv_ rfl (mv_ rfl (mv_ rfl ?_)))))))
 refine wl_ov (ov_loads rz92 rfl (fun _ hm => hm.blkI 0 rfl) rfl rfl) rfl ?_
 refine wl_callv (v := .int .i64 CE) rfl cb133 rfl rfl (fun wx hm => (by rw [hCE]; exact checkNew_any cs A0 n0 c0 sl A1 n1 c1 l A n c x0 x1 x2 x3 x4 x5 wx (hm.fact 0 rfl).1 hco hn0 (hm.fact 1 rfl).1 hso hn1 (hm.fact 2 rfl).1 hok hn hbo)) ?_
 refine sg_ rfl (nn_ (sr_ (mv_ rfl (wl_ov (ov_neq rfl rfl) rfl (nn_ ?_)))))
 refine gw_cond rfl (fun hh => ?_) (fun hh => ?_)
 ·have h1 : ¬ (CE = 0) := by simpa using hh
  clear hh
  refine sr_ (mv_ rfl (sg_ rfl (sg_ rfl (nn_ ?_))))
  refine gw_ret ?_
  refine nx_then_ret ?_
  refine nx_ret2 rfl rfl rfl fun wx hm => ?_
  exact ⟨by rw [if_neg (by simpa using h1)], hm.g⟩
 have h1 : CE = 0 := by simpa using hh
 clear hh
 refine gw_skip (nx_then (sr_ ?_))
 have h1 : CE = 0 := by simpa using h1
 obtain ⟨hz0, hz1⟩ := canE_ok (hCE.symm.trans h1)
 obtain ⟨hz2, _, hz6⟩ := newE_ok hz1
 obtain ⟨hzk, hzt⟩ := oneB_has hz0 hz2
 obtain ⟨hkw, htw⟩ := with_has hz0 hzk hzt
 obtain ⟨⟨h30, hcl, hlo⟩, hmany, _, _, _⟩ := right_has hz0
 rw [if_pos h1]
 refine mv_ rfl (mv_ rfl (mv_ rfl ?_))
 refine wl_ov (ov_loads rz92 rfl (fun _ hm => hm.blkI 0 rfl) rfl rfl) rfl ?_
 refine wl_callx (γ := Option Addr × Nat) (val := (fun g => .slice g.1 (n + 1) g.2)) (φ := (fun g => True)) (Y := (fun g => fun wy => SlT bkEnc 6 92 wy g.1 (n + 1) (withB l (⟨x0, x1, x2, x3, x4, x5⟩ : Bk)))) rfl cb135 rfl rfl (fun wx hm => (with_ky l A n c x0 x1 x2 x3 x4 x5 wx (hm.fact 2 rfl).1 (by omega)).mono fun _ _ ⟨A2, c2, he, hs, hg⟩ => ⟨(A2, c2), he, trivial, hg, hs⟩) (fun _ => SlT.lasts2 rfl) ?_
 rintro ⟨A2, c2⟩ hphi
 dsimp only
 clear hphi
 refine wl_callx (γ := Int) (val := (fun g => .int .i64 g)) (φ := (fun g => FwOk cs sl (withB l (⟨x0, x1, x2, x3, x4, x5⟩ : Bk)) g)) (Y := (fun g => fun _ => True)) rfl cb134 rfl rfl (fun wx hm => (fewest_any cs A0 n0 c0 sl A1 n1 c1 (withB l (⟨x0, x1, x2, x3, x4, x5⟩ : Bk)) A2 (n + 1) c2 wx (hm.fact 1 rfl).1 hco hn0 (hm.fact 2 rfl).1 hso hn1 (hm.fact 0 rfl) (by omega) hcl hlo h30 hkw htw).mono fun _ _ ⟨v, he, hf, hg⟩ => ⟨v, he, hf, hg, trivial⟩) (fun _ => Lasts2.true_) ?_
 rintro v hfw
 have hcan := fw_iff hfw
 refine wl_ov (ov_geq rfl rfl) rfl ?_
 refine sg_ rfl (sg_ rfl (nn_ ?_))
 refine gw_ret ?_
 refine nx_ret2 rfl rfl rfl fun wx hm => ?_
 exact ⟨by rw [hcan, h1, hCB]; rfl, hm.g⟩
end Go.Proofs.YtempjmpfdniecaaGreatDoor
namespace Go.Proofs.YtempjmpfdniecaaGreatDoor
theorem find_srt {p : Int → Bool} : ∀ {a : List Int}, a.Pairwise (fun x y => x ≤ y) → ∀ {m : Int}, a.find? p = some m → m ∈ a ∧ p m = true ∧ ∀ x ∈ a, p x = true → m ≤ x
  | [], _, _, h => by cases h
  | y :: a, hs, m, h => by
    rw [List.pairwise_cons] at hs
    cases hy : p y with
    | true =>
      rw [List.find?_cons_of_pos hy] at h
      cases h
      refine ⟨List.mem_cons_self .., hy, fun x hx _ => ?_⟩
      rcases List.mem_cons.1 hx with rfl | hx
      · exact Int.le_refl _
      · exact hs.1 x hx
    | false =>
      rw [List.find?_cons_of_neg (by rw [hy]; decide)] at h
      obtain ⟨h1, h2, h3⟩ := find_srt hs.2 h
      refine ⟨List.mem_cons_of_mem _ h1, h2, fun x hx hp => ?_⟩
      rcases List.mem_cons.1 hx with rfl | hx
      · rw [hp] at hy; cases hy
      · exact h3 x hx hp
end Go.Proofs.YtempjmpfdniecaaGreatDoor
namespace Go.Proofs.YtempjmpfdniecaaGreatDoor
open Go.RowKit
/-- A booking that is moved. -/
def atB (b : Bk) (a : Int) : Bk := ⟨b.key, b.cls, a, a + (b.to_ - b.fr), b.made, b.odds⟩
def endQ (b x : Bk) : Bool := decide (b.fr < x.to_) && decide (x.to_ + (b.to_ - b.fr) ≤ 5761439)
/-- Where bookings end, behind the begin of one, and soon enough. -/
def endsB (b : Bk) (l : List Bk) : List Int := (l.filter (endQ b)).map Bk.to_
/-- When a booking can begin. -/
def erlO (cs : List Cs) (sl : List Sk) (l : List Bk) (b : Bk) : Option Int := (sortI (b.fr :: endsB b l)).find? fun a => canB cs sl l (atB b a)
theorem ends_take {b : Bk} {l : List Bk} {i : Nat} {x : Bk} (h : l[i]? = some x) : endsB b (l.take (i + 1)) = endsB b (l.take i) ++ (if endQ b x = true then [x.to_] else []) := by
  unfold endsB
  rw [List.take_add_one, h, Option.toList_some, List.filter_append, List.map_append]
  congr 1
  cases hq : endQ b x <;> simp [hq]
theorem ends_mem {b : Bk} {l : List Bk} {a : Int} : a ∈ endsB b l ↔ ∃ x ∈ l, endQ b x = true ∧ x.to_ = a := by
  unfold endsB
  rw [List.mem_map]
  constructor
  · rintro ⟨x, hx, he⟩
    obtain ⟨h1, h2⟩ := List.mem_filter.1 hx
    exact ⟨x, h1, h2, he⟩
  · rintro ⟨x, hx, hq, he⟩
    exact ⟨x, List.mem_filter.2 ⟨hx, hq⟩, he⟩
theorem endQ_iff {b x : Bk} : endQ b x = true ↔ b.fr < x.to_ ∧ x.to_ + (b.to_ - b.fr) ≤ 5761439 := by
  unfold endQ
  rw [Bool.and_eq_true, decide_eq_true_eq, decide_eq_true_eq]
theorem srt_has {b : Bk} {l : List Bk} {a : Int} (ht : b.to_ ≤ 5761439) (h : a ∈ sortI (b.fr :: endsB b l)) : b.fr ≤ a ∧ a + (b.to_ - b.fr) ≤ 5761439 := by
  rcases List.mem_cons.1 (sortI_mem.1 h) with rfl | h
  · omega
  · obtain ⟨x, _, hq, rfl⟩ := ends_mem.1 h
    have := endQ_iff.1 hq
    omega
theorem find_at {p : Int → Bool} {l : List Int} {j : Nat} {x : Int} (h : l[j]? = some x) : (l.drop j).find? p = if p x = true then some x else (l.drop (j + 1)).find? p := by
  obtain ⟨hj, rfl⟩ := List.getElem?_eq_some_iff.1 h
  rw [List.drop_eq_getElem_cons hj]
  split
  · rw [List.find?_cons_of_pos ‹_›]
  · rw [List.find?_cons_of_neg ‹_›]
theorem atB_has {b : Bk} {a : Int} (hb : 0 ≤ b.fr ∧ b.fr < b.to_ ∧ b.to_ ≤ 5761439) (h : b.fr ≤ a ∧ a + (b.to_ - b.fr) ≤ 5761439) : 0 ≤ (atB b a).fr ∧ (atB b a).fr < (atB b a).to_ ∧ (atB b a).to_ ≤ 5761439 := by
  unfold atB
  dsimp only
  omega
/-- What Earliest returns. -/
def erlP (o : Option Int) : Int × Int := match o with
  | some a => (a, 0)
  | none => (0, 12)
theorem earliest_any (cs : List Cs) (A0 : Option Addr) (n0 c0 : Nat) (sl : List Sk) (A1 : Option Addr) (n1 c1 : Nat) (l : List Bk) (A : Option Addr) (n c : Nat) (x0 x1 : ByteArray) (x2 x3 x4 x5 : Int) (w : World) (hcs : SlT csEnc 2 158 w A0 n0 cs) (hco : ∀ x ∈ cs, CsOk x) (hn0 : n0 ≤ 1000) (hs : SlT skEnc 2 211 w A1 n1 sl) (hso : ∀ x ∈ sl, SkOk x) (hn1 : n1 ≤ 1000) (hl : SlT bkEnc 6 92 w A n l) (hok : ∀ x ∈ l, BkOk x) (hn : n ≤ 1000) (hbo : BkOk (⟨x0, x1, x2, x3, x4, x5⟩ : Bk)) :
  Calls Tryz.prog 44 #[.slice A0 n0 c0, .slice A1 n1 c1, .slice A n c, .agg #[.string x0, .string x1, .int .i64 x2, .int .i64 x3, .int .i64 x4, .int .i64 x5]] w (fun e w' => e = .returned (.tuple #[.int .i64 (if canE cs sl l (⟨x0, x1, x2, x3, x4, x5⟩ : Bk) = 0 then (erlP (erlO cs sl l (⟨x0, x1, x2, x3, x4, x5⟩ : Bk))).1 else 0), .int .i64 (if canE cs sl l (⟨x0, x1, x2, x3, x4, x5⟩ : Bk) = 0 then (erlP (erlO cs sl l (⟨x0, x1, x2, x3, x4, x5⟩ : Bk))).2 else canE cs sl l (⟨x0, x1, x2, x3, x4, x5⟩ : Bk))]) ∧ w.grownBy w' none) := by
 refine gw_enter ⟨87, w, none, []⟩ Tryz.func44 rfl Tryz.ntmps44 rfl (mem0 (X := [SlOld csEnc 2 158 w.heap.size none A0 n0 cs, SlOld skEnc 2 211 w.heap.size none A1 n1 sl, SlOld bkEnc 6 92 w.heap.size none A n l]) (allF_cons hcs.old (allF_cons hs.old (allF_cons hl.old allF_nil))) (allL_cons SlOld.lasts (allL_cons SlOld.lasts (allL_cons SlOld.lasts allL_nil)))) ?_
 refine sr_ ?_
 have hlen := hl.len
 obtain ⟨CE, hCE⟩ : ∃ z, z = canE cs sl l (⟨x0, x1, x2, x3, x4, x5⟩ : Bk) := ⟨_, rfl⟩
 obtain ⟨EO, hEO⟩ : ∃ z, z = erlO cs sl l (⟨x0, x1, x2, x3, x4, x5⟩ : Bk) := ⟨_, rfl⟩
 rw [← hCE, ← hEO]
 refine wl_box rfl rfl rfl fun g1 => ?_
 refine sg_ rfl (sg_ rfl (nn_ (gw_seq (sr_ (mv_ rfl (mv_ rfl (mv_ rfl ?_)))))))
 refine wl_ov (ov_loads rz92 rfl (fun _ hm => hm.blkI 0 rfl) rfl rfl) rfl ?_
 refine wl_callv (v := .int .i64 CE) rfl cb133 rfl rfl (fun wx hm => (by rw [hCE]; exact checkNew_any cs A0 n0 c0 sl A1 n1 c1 l A n c x0 x1 x2 x3 x4 x5 wx (hm.fact 0 rfl).1 hco hn0 (hm.fact 1 rfl).1 hso hn1 (hm.fact 2 rfl).1 hok hn hbo)) ?_
 refine sg_ rfl (nn_ (sr_ (mv_ rfl (wl_ov (ov_neq rfl rfl) rfl (nn_ ?_)))))
 refine gw_cond rfl (fun hh => ?_) (fun hh => ?_)
 ·have h1 : ¬ (CE = 0) := by simpa using hh
  clear hh
  refine sr_ (mv_ rfl (sg_ rfl (sg_ rfl (nn_ ?_))))
  refine gw_ret ?_
  refine nx_then_ret ?_
  refine nx_ret2 rfl rfl rfl fun wx hm => ?_
  exact ⟨by rw [if_neg (by simpa using h1), if_neg (by simpa using h1)], hm.g⟩
 have h1 : CE = 0 := by simpa using hh
 clear hh
 refine gw_skip (nx_then (sr_ ?_))
 have h1 : CE = 0 := by simpa using h1
 obtain ⟨hz0, hz1⟩ := canE_ok (hCE.symm.trans h1)
 obtain ⟨hz2, _, hz6⟩ := newE_ok hz1
 obtain ⟨hzk, hzt⟩ := oneB_has hz0 hz2
 obtain ⟨⟨h30, hcl, hlo⟩, hmany, _, htm, _⟩ := right_has hz0
 dsimp only at hzk hzt
 obtain ⟨hzt0, hzt1, hzt2⟩ := hzt
 refine fd_ fo92_2 rfl rfl (fd_ fo27_1 rfl rfl (lk_ sc3 0 rfl rfl rfl (fd_ fo92_2 rfl rfl (fd_ fo27_0 rfl rfl (lk_ sc3 0 rfl rfl rfl ?_)))))
 refine wl_ov (ov_sub rfl rfl (by omega) (by omega)) rfl ?_
 refine sg_ rfl (nn_ (sr_ (fd_ fo92_2 rfl rfl (fd_ fo27_0 rfl rfl (lk_ sc3 0 rfl rfl rfl ?_)))))
 refine wl_buildSlice (e := 3) (cs := [.int .i64 x2]) rfl (by kernel_rfl) rfl fun g2 => ?_
 refine sg_ rfl (nn_ (gw_seq (sr_ (mv_ rfl (wl_ov (ov_len es76 rfl) rfl (mv_ rfl (nn_ (gw_block ?_))))))))
 refine gw_toOwn (sz := 1) (n := 1) 0 [1] rfl rfl rfl (by unfold maxLen; omega) ?_
 refine gw_loop (γ := Nat × Nat × Value × List Value) (fun g => g.1 ≤ n ∧ (endsB (⟨x0, x1, x2, x3, x4, x5⟩ : Bk) (l.take g.1)).length = g.2.1 ∧ g.2.1 ≤ g.1 ∧ g.2.2.2 = (x2 :: endsB (⟨x0, x1, x2, x3, x4, x5⟩ : Bk) (l.take g.1)).flatMap iEnc) (fun g => [(0, .slice A0 n0 c0), (1, .slice A1 n1 c1), (2, .slice A n c), (7, .pointer (some ⟨g1, 0, none⟩)), (8, .int .i64 0), (9, .int .i64 0), (11, .int .i64 (x3 - x2)), (12, g.2.2.1), (36, .slice A n c), (37, .int .i64 ((n : Nat) : Int)), (38, .int .i64 ((g.1 : Nat) : Int))]) (fun g => fun _ => True) (fun g => [(g1, 92, [.string x0, .string x1, .int .i64 x2, .int .i64 x3, .int .i64 x4, .int .i64 x5])]) (fun g => [⟨g.2.2.1, 3, 1, (g.2.1 + 1), g.2.2.2⟩]) (fun g => [SlOld csEnc 2 158 w.heap.size none A0 n0 cs, SlOld skEnc 2 211 w.heap.size none A1 n1 sl, SlOld bkEnc 6 92 w.heap.size none A n l]) (fun g => n - g.1) (0, 0, .slice (some ⟨g2, 0, none⟩) 1 1, [.int .i64 x2]) ⟨Nat.zero_le _, by simp [endsB], Nat.le_refl _, by simp [endsB, iEnc]⟩ ⟨rfl, rfl, rfl, rfl, rfl, rfl, rfl, rfl, rfl, rfl, rfl, trivial⟩ (fun _ hm => hm.pick [0] [0] [0, 1, 2] rfl rfl) ?_
 rintro ⟨i, k, v, xs⟩ hinv
 replace hinv : i ≤ n ∧ (endsB (⟨x0, x1, x2, x3, x4, x5⟩ : Bk) (l.take i)).length = k ∧ k ≤ i ∧ xs = (x2 :: endsB (⟨x0, x1, x2, x3, x4, x5⟩ : Bk) (l.take i)).flatMap iEnc := hinv
 dsimp only
 refine sr_ ?_
 obtain ⟨hi0, hk, hki, rfl⟩ := hinv
 refine wl_ov (ov_lss rfl rfl) rfl (nn_ (gw_seq ?_))
 refine gw_cond rfl (fun hh => ?_) (fun hh => ?_)
 ·have hi : ((i : Nat) : Int) < ((n : Nat) : Int) := by simpa using hh
  clear hh
  refine gw_skip (nx_then (gw_seq (gw_block (sr_ ?_))))
  obtain ⟨bl, off, hA, _, _⟩ := hl.get (by omega)
  subst hA
  obtain ⟨x, hx⟩ : ∃ x, l[i]? = some x := ⟨_, List.getElem?_eq_getElem (by omega)⟩
  obtain ⟨y0, y1, y2, y3, y4, y5⟩ := x
  have htx := htm _ (List.mem_of_getElem? hx)
  dsimp only at htx
  have hat := ends_take (b := (⟨x0, x1, x2, x3, x4, x5⟩ : Bk)) hx
  refine wl_ov (ov_index (j := i) es76 rfl rfl (by omega)) rfl ?_
  refine wl_ov (ov_elem (vs := [.string y0, .string y1, .int .i64 y2, .int .i64 y3, .int .i64 y4, .int .i64 y5]) rz92 rfl (fun _ hm => (hm.fact 2 rfl).1) hx rfl rfl) rfl ?_
  refine wl_alloc zc92 rfl fun g3 => ?_
  refine wl_stores (cs' := [.string y0, .string y1, .int .i64 y2, .int .i64 y3, .int .i64 y4, .int .i64 y5]) 0 rz92 rfl rfl rfl rfl rfl rfl rfl rfl ?_
  refine nn_ (sr_ (fd_ fo92_2 rfl rfl (fd_ fo27_1 rfl rfl (lk_ sc3 0 rfl rfl rfl (fd_ fo92_2 rfl rfl (fd_ fo27_0 rfl rfl (lk_ sc3 1 rfl rfl rfl ?_)))))))
  refine wl_ov (ov_gtr rfl rfl) rfl ?_
  refine mv_ rfl ?_
  rcases Bool.eq_false_or_eq_true (decide (x2 < y3)) with hq1 | hq1
  ·refine wl_set 49 rfl (congrArg Value.bool hq1) ?_
   replace hq1 := of_decide_eq_true hq1
   refine wl_guard_on rfl rfl rfl (fd_ fo92_2 rfl rfl (wl_guard_on rfl rfl rfl (fd_ fo27_1 rfl rfl (wl_guard_on rfl rfl rfl (lk_ sc3 0 rfl rfl rfl (wl_guard_on rfl rfl rfl (mv_ rfl (wl_guard_on rfl rfl rfl (ad_ rfl rfl (wl_guard_on rfl rfl rfl (wl_ov (ov_leq rfl rfl) rfl (pt_ rfl rfl (wl_nil ?_)))))))))))))
   refine nx_then ?_
   refine gw_cond rfl (fun hh => ?_) (fun hh => ?_)
   ·have hq2 : y3 + (x3 - x2) ≤ 5761439 := by simpa using hh
    clear hh
    refine gw_region ?_
    rw [if_pos (endQ_iff.2 ⟨by dsimp only; omega, by dsimp only; omega⟩)] at hat
    refine mv_ rfl (fd_ fo92_2 rfl rfl (fd_ fo27_1 rfl rfl (lk_ sc3 0 rfl rfl rfl ?_)))
    refine wl_buildSlice (e := 3) (cs := [.int .i64 y3]) rfl (by kernel_rfl) rfl fun g4 => ?_
    refine wl_append (news := [.int .i64 y3]) 0 0 ap22 rfl rfl rfl rfl rfl rfl rfl (by omega) (by unfold maxLen; omega) rfl rfl fun v2 hv2 => ?_
    refine sg_ rfl (wl_nil (nx_blk_nrm (nx_then (gw_region (ad_ rfl rfl (mv_ rfl (wl_nil ?_)))))))
    exact nx_round (i + 1, k + 1, v2, (x2 :: endsB (⟨x0, x1, x2, x3, x4, x5⟩ : Bk) (l.take i)).flatMap iEnc ++ ([.int .i64 y3] : List Value)) ⟨by dsimp only; omega, by rw [hat]; simp [hk], by dsimp only; omega, by rw [hat]; simp [iEnc]⟩ (by dsimp only; omega) ⟨rfl, rfl, rfl, rfl, rfl, rfl, rfl, rfl, rfl, rfl, (some_int (by omega)), trivial⟩ (fun _ hm => hm.pick [2] [0] [0, 1, 2] rfl rfl)
   have hq2 : ¬ (y3 + (x3 - x2) ≤ 5761439) := by simpa using hh
   clear hh
   refine gw_skip (nx_blk_nrm (nx_then (gw_region ?_)))
   rw [if_neg (fun h => by have h2 := endQ_iff.1 h; dsimp only at h2; omega), List.append_nil] at hat
   refine ad_ rfl rfl (mv_ rfl (wl_nil ?_))
   exact nx_round (i + 1, k, v, (x2 :: endsB (⟨x0, x1, x2, x3, x4, x5⟩ : Bk) (l.take i)).flatMap iEnc) ⟨by dsimp only; omega, by rw [hat]; exact hk, by dsimp only; omega, by rw [hat]⟩ (by dsimp only; omega) ⟨rfl, rfl, rfl, rfl, rfl, rfl, rfl, rfl, rfl, rfl, (some_int (by omega)), trivial⟩ (fun _ hm => hm.pick [1] [0] [0, 1, 2] rfl rfl)
  refine wl_set 49 rfl (congrArg Value.bool hq1) ?_
  replace hq1 := of_decide_eq_false hq1
  rw [if_neg (fun h => by have h2 := endQ_iff.1 h; dsimp only at h2; omega), List.append_nil] at hat
  refine goff rfl rfl rfl (goff rfl rfl rfl (goff rfl rfl rfl (goff rfl rfl rfl (goff rfl rfl rfl (goff rfl rfl rfl (pf_ rfl rfl (nn_ (cf_ rfl (gw_skip (nx_blk_nrm (nx_then (gw_region ?_))))))))))))
  refine ad_ rfl rfl (mv_ rfl (wl_nil ?_))
  exact nx_round (i + 1, k, v, (x2 :: endsB (⟨x0, x1, x2, x3, x4, x5⟩ : Bk) (l.take i)).flatMap iEnc) ⟨by dsimp only; omega, by rw [hat]; exact hk, by dsimp only; omega, by rw [hat]⟩ (by dsimp only; omega) ⟨rfl, rfl, rfl, rfl, rfl, rfl, rfl, rfl, rfl, rfl, (some_int (by omega)), trivial⟩ (fun _ hm => hm.pick [1] [0] [0, 1, 2] rfl rfl)
 have hi : ¬ (((i : Nat) : Int) < ((n : Nat) : Int)) := by simpa using hh
 clear hh
 refine gw_exit ?_
 refine nx_then_exit (nx_then_exit ?_)
 refine nx_blk_here ?_
 refine nx_then (sr_ ?_)
 have hall : l.take i = l := List.take_of_length_le (by omega)
 rw [hall] at hk ⊢
 obtain ⟨S, hS⟩ : ∃ S, S = sortI (x2 :: endsB (⟨x0, x1, x2, x3, x4, x5⟩ : Bk) l) := ⟨_, rfl⟩
 have hSl : S.length = k + 1 := by rw [hS, sortI_len, List.length_cons, hk]
 have hEO2 : EO = S.find? (fun a => canB cs sl l (atB (⟨x0, x1, x2, x3, x4, x5⟩ : Bk) a)) := by rw [hEO, hS]; rfl
 refine wl_look (R := ∃ A cc, v = .slice A (k + 1) cc) (fun wx hm => own_slice (hm.ownI 0 rfl)) ?_
 rintro ⟨A3, c3, rfl⟩
 refine wl_look (R := ∃ g, A3 = some ⟨g, 0, none⟩) (fun wx hm => own_addr (hm.ownI 0 rfl) (by omega)) ?_
 rintro ⟨g3, rfl⟩
 refine mv_ rfl ?_
 refine wl_callr (v := .tuple #[]) (xs' := S.flatMap iEnc) 0 rfl rfl rfl cb136 rfl rfl (fun wx hm => (by have h := sort_own (x2 :: endsB (⟨x0, x1, x2, x3, x4, x5⟩ : Bk) l) g3 (k + 1) c3 _ wx (hm.ownI 0 rfl) (by simp [hk]) (by omega); rw [← hS] at h; exact h)) ?_
 refine nn_ (gw_seq (sr_ (mv_ rfl (wl_ov (ov_len es22 rfl) rfl (mv_ rfl (nn_ (gw_block ?_)))))))
 refine gw_loop (γ := Nat × Int × Int) (fun g => g.1 ≤ k + 1 ∧ S.find? (fun a => canB cs sl l (atB (⟨x0, x1, x2, x3, x4, x5⟩ : Bk) a)) = (S.drop g.1).find? (fun a => canB cs sl l (atB (⟨x0, x1, x2, x3, x4, x5⟩ : Bk) a))) (fun g => [(0, .slice A0 n0 c0), (1, .slice A1 n1 c1), (2, .slice A n c), (7, .pointer (some ⟨g1, 0, none⟩)), (11, .int .i64 (x3 - x2)), (66, .slice (some ⟨g3, 0, none⟩) (k + 1) c3), (67, .int .i64 (((k + 1) : Nat) : Int)), (68, .int .i64 ((g.1 : Nat) : Int))]) (fun g => fun _ => True) (fun g => [(g1, 92, [.string x0, .string x1, .int .i64 g.2.1, .int .i64 g.2.2, .int .i64 x4, .int .i64 x5])]) (fun g => [⟨.slice (some ⟨g3, 0, none⟩) (k + 1) c3, 3, 1, (k + 1), S.flatMap iEnc⟩]) (fun g => [SlOld csEnc 2 158 w.heap.size none A0 n0 cs, SlOld skEnc 2 211 w.heap.size none A1 n1 sl, SlOld bkEnc 6 92 w.heap.size none A n l]) (fun g => k + 1 - g.1) (0, x2, x3) ⟨Nat.zero_le _, rfl⟩ ⟨rfl, rfl, rfl, rfl, rfl, rfl, rfl, rfl, trivial⟩ (fun _ hm => hm.pick [0] [0] [0, 1, 2] rfl rfl) ?_
 rintro ⟨j, ta, tb⟩ hinv
 replace hinv : j ≤ k + 1 ∧ S.find? (fun a => canB cs sl l (atB (⟨x0, x1, x2, x3, x4, x5⟩ : Bk) a)) = (S.drop j).find? (fun a => canB cs sl l (atB (⟨x0, x1, x2, x3, x4, x5⟩ : Bk) a)) := hinv
 dsimp only
 refine sr_ ?_
 obtain ⟨hj0, hfd⟩ := hinv
 refine wl_ov (ov_lss rfl rfl) rfl (nn_ (gw_seq ?_))
 refine gw_cond rfl (fun hh => ?_) (fun hh => ?_)
 ·have hj : ((j : Nat) : Int) < (((k + 1) : Nat) : Int) := by simpa using hh
  clear hh
  refine gw_skip (nx_then (gw_seq (gw_block (sr_ ?_))))
  obtain ⟨aa, hxS⟩ : ∃ x, S[j]? = some x := ⟨_, List.getElem?_eq_getElem (by omega)⟩
  have hat2 := find_at (p := (fun a => canB cs sl l (atB (⟨x0, x1, x2, x3, x4, x5⟩ : Bk) a))) hxS
  have hsr := srt_has (b := (⟨x0, x1, x2, x3, x4, x5⟩ : Bk)) (l := l) hzt2 (by rw [← hS]; exact List.mem_of_getElem? hxS)
  dsimp only at hsr
  obtain ⟨hkw, htw⟩ := with_has (b := atB (⟨x0, x1, x2, x3, x4, x5⟩ : Bk) aa) hz0 hzk (atB_has (b := (⟨x0, x1, x2, x3, x4, x5⟩ : Bk)) ⟨hzt0, hzt1, hzt2⟩ hsr)
  obtain ⟨hsr1, hsr2⟩ := hsr
  refine wl_ov (ov_index (j := j) es22 rfl rfl (by omega)) rfl ?_
  refine wl_ov (ov_elem1 (k := 0) (v := .int .i64 aa) sc3 rfl (fun _ hm => (SlT.ofOwn i_len (hm.ownI 0 rfl) hSl)) hxS rfl rfl) rfl ?_
  refine sg_ rfl (nn_ (sr_ (mv_ rfl (mv_ rfl (mv_ rfl (ad_ rfl rfl ?_))))))
  refine wl_ov (ov_build (cs := [.int .i64 aa, .int .i64 (aa + (x3 - x2))]) rfl (by kernel_rfl)) rfl ?_
  refine fd_ fo92_2 rfl rfl ?_
  refine wl_stores (cs' := [.string x0, .string x1, .int .i64 aa, .int .i64 (aa + (x3 - x2)), .int .i64 x4, .int .i64 x5]) 0 rz27 rfl rfl rfl rfl rfl rfl rfl rfl ?_
  refine nn_ (sr_ (mv_ rfl (mv_ rfl (mv_ rfl ?_))))
  refine wl_ov (ov_loads rz92 rfl (fun _ hm => hm.blkI 0 rfl) rfl rfl) rfl ?_
  refine wl_callgo (γ := Option Addr × Nat) (val := (fun g => .slice g.1 (n + 1) g.2)) (φ := (fun g => True)) (fun g => ⟨.slice g.1 (n + 1) g.2, 92, 6, n + 1, (withB l (atB (⟨x0, x1, x2, x3, x4, x5⟩ : Bk) aa)).flatMap bkEnc⟩) rfl cb135 rfl rfl (fun wx hm => (with_kyO l A n c x0 x1 aa (aa + (x3 - x2)) x4 x5 wx (hm.fact 2 rfl).1 (by omega)).mono fun _ _ ⟨A2, c2, he, ho, hg⟩ => ⟨(A2, c2), he, trivial, ho, hg⟩) ?_
  rintro ⟨A2, c2⟩ hphi
  dsimp only at hphi ⊢
  refine wl_callx (γ := Int) (val := (fun g => .int .i64 g)) (φ := (fun g => FwOk cs sl (withB l (atB (⟨x0, x1, x2, x3, x4, x5⟩ : Bk) aa)) g)) (Y := (fun g => fun _ => True)) rfl cb134 rfl rfl (fun wx hm => (fewest_any cs A0 n0 c0 sl A1 n1 c1 (withB l (atB (⟨x0, x1, x2, x3, x4, x5⟩ : Bk) aa)) A2 (n + 1) c2 wx (hm.fact 0 rfl).1 hco hn0 (hm.fact 1 rfl).1 hso hn1 (SlT.ofOwn bk_len (hm.ownI 0 rfl) (by rw [withB_len, hlen])) (by omega) hcl hlo h30 hkw htw).mono fun _ _ ⟨v, he, hf, hg⟩ => ⟨v, he, hf, hg, trivial⟩) (fun _ => Lasts2.true_) ?_
  rintro fv hfw
  have hcan := fw_iff hfw
  have hcb : canB cs sl l (atB (⟨x0, x1, x2, x3, x4, x5⟩ : Bk) aa) = decide (0 ≤ fv) := hcan.symm
  refine wl_ov (ov_geq rfl rfl) rfl ?_
  refine nn_ ?_
  refine gw_cond rfl (fun hh => ?_) (fun hh => ?_)
  ·have hv0 : 0 ≤ fv := by simpa using hh
   clear hh
   refine sr_ ?_
   rw [if_pos (by rw [hcb]; exact decide_eq_true hv0)] at hat2
   refine mv_ rfl (sg_ rfl (sg_ rfl (nn_ ?_)))
   refine gw_ret ?_
   refine nx_blk_ret (nx_then_ret (nx_then_ret (nx_blk_ret (nx_then_ret ?_))))
   refine nx_ret2 rfl rfl rfl fun wx hm => ?_
   exact ⟨by rw [if_pos h1, if_pos h1, hEO2, hfd, hat2]; rfl, hm.g⟩
  have hv0 : ¬ (0 ≤ fv) := by simpa using hh
  clear hh
  refine gw_skip (nx_blk_nrm (nx_then (gw_region ?_)))
  rw [if_neg (by rw [hcb, decide_eq_false hv0]; decide)] at hat2
  refine ad_ rfl rfl (mv_ rfl (wl_nil ?_))
  exact nx_round (j + 1, aa, (aa + (x3 - x2))) ⟨by dsimp only; omega, by dsimp only; rw [hfd, hat2]⟩ (by dsimp only; omega) ⟨rfl, rfl, rfl, rfl, rfl, rfl, rfl, (some_int (by omega)), trivial⟩ (fun _ hm => hm.pick [0] [1] [1, 2, 3] rfl rfl)
 have hj : ¬ (((j : Nat) : Int) < (((k + 1) : Nat) : Int)) := by simpa using hh
 clear hh
 refine gw_exit ?_
 refine nx_then_exit (nx_then_exit ?_)
 refine nx_blk_here ?_
 refine nx_then (sr_ (sg_ rfl (sg_ rfl (nn_ ?_))))
 refine gw_ret ?_
 refine nx_ret2 rfl rfl rfl fun wx hm => ?_
 exact ⟨by rw [if_pos h1, if_pos h1, hEO2, hfd, List.drop_eq_nil_of_le (by omega)]; rfl, hm.g⟩
end Go.Proofs.YtempjmpfdniecaaGreatDoor
namespace Go.Proofs.YtempjmpfdniecaaGreatDoor
open Go.RowKit
def mdLt (x y : Bk) : Bool := decide (cmpI x.made y.made < 0)
/-- One who waits. -/
def prS (cs : List Cs) (sl : List Sk) (st : List Bk × List ByteArray) (b : Bk) : List Bk × List ByteArray := if 7 ≤ st.1.length then st else if canB cs sl st.1 b = true then (withB st.1 b, st.2 ++ [b.key]) else st
/-- Those who wait, one after the other. -/
def prF (cs : List Cs) (sl : List Sk) (l Q : List Bk) : List Bk × List ByteArray := Q.foldl (prS cs sl) (l, [])
def prV (cs : List Cs) (sl : List Sk) (l wl : List Bk) : List ByteArray := (prF cs sl l (isort mdLt wl)).2
theorem prF_at {cs : List Cs} {sl : List Sk} {l Q : List Bk} {i : Nat} {x : Bk} (h : Q[i]? = some x) : prF cs sl l (Q.take (i + 1)) = prS cs sl (prF cs sl l (Q.take i)) x := by
  unfold prF
  rw [List.take_add_one, h, Option.toList_some, List.foldl_append]; rfl
theorem prS_full {cs : List Cs} {sl : List Sk} : ∀ (Q : List Bk) {st : List Bk × List ByteArray}, 7 ≤ st.1.length → Q.foldl (prS cs sl) st = st
  | [], _, _ => rfl
  | b :: Q, st, h => by
    rw [List.foldl_cons, show prS cs sl st b = st from if_pos h]
    exact prS_full Q h
theorem prF_full {cs : List Cs} {sl : List Sk} {l Q : List Bk} {i : Nat} (h : 7 ≤ (prF cs sl l (Q.take i)).1.length) : prF cs sl l Q = prF cs sl l (Q.take i) := by
  conv => lhs; rw [← List.take_append_drop i Q]
  unfold prF at h ⊢
  rw [List.foldl_append]
  exact prS_full _ h
theorem with_has2 {cs : List Cs} {l : List Bk} {b : Bk} (h2 : ∀ x ∈ l, keysE cs [x.cls] = 0) (h3 : BkTim l) (hk : keysE cs [b.cls] = 0) (ht : 0 ≤ b.fr ∧ b.fr < b.to_ ∧ b.to_ ≤ 5761439) : (∀ x ∈ withB l b, keysE cs [x.cls] = 0) ∧ BkTim (withB l b) := by
  refine ⟨fun x hx => ?_, fun x hx => ?_⟩
  · rcases withB_mem.1 hx with hx | rfl
    · exact h2 x hx
    · exact hk
  · rcases withB_mem.1 hx with hx | rfl
    · exact h3 x hx
    · exact ht
/-- One of those who wait is there already. -/
def twB (l wl : List Bk) : Bool := decide (0 ≤ ixP (fun b => hasB l b.key) wl 0)
/-- The error of Promote. -/
def prE (cs : List Cs) (sl : List Sk) (l wl : List Bk) : Int := firstE [firstE [firstE [stockE cs sl, checkE cs l], checkE cs wl], whenE (twB l wl) 6, whenE (decide (7 < ((l.length : Nat) : Int))) 2, whenE ((asgO cs sl l).isNone) 12]
theorem prom2_any (x0 x1 y0 y1 : ByteArray) (x2 x3 x4 x5 y2 y3 y4 y5 : Int) (w : World) :
  Calls Tryz.prog 146 #[.agg #[.string x0, .string x1, .int .i64 x2, .int .i64 x3, .int .i64 x4, .int .i64 x5], .agg #[.string y0, .string y1, .int .i64 y2, .int .i64 y3, .int .i64 y4, .int .i64 y5]] w (fun e w' => e = .returned (.int .i64 (cmpI x4 y4)) ∧ w.grownBy w' none) := by
 refine gw_enter ⟨10, w, none, []⟩ Tryz.func146 rfl Tryz.ntmps146 rfl (mem0 (X := []) allF_nil allL_nil) ?_
 refine sr_ ?_
 refine wl_box rfl rfl rfl fun g1 => ?_
 refine wl_box rfl rfl rfl fun g2 => ?_
 refine sg_ rfl (nn_ (sr_ (fd_ fo92_3 rfl rfl (lk_ sc3 1 rfl rfl rfl (fd_ fo92_3 rfl rfl (lk_ sc3 0 rfl rfl rfl ?_))))))
 refine wl_callv rfl cb83 rfl rfl (fun wx hm => (cmp_int _ _ wx)) ?_
 refine sg_ rfl (nn_ ?_)
 refine gw_ret ?_
 refine nx_ret1 rfl rfl fun wx hm => ?_
 exact ⟨rfl, hm.g⟩
theorem ins_md  (l0 : List Bk) (br n cap base : Nat) (w : World) (h : w.ownsRow base 92 6 (.slice (some ⟨br, 0, none⟩) n cap) n (l0.flatMap bkEnc)) (hl0 : l0.length = n) (hn : n ≤ 1000000)  :
  Calls Tryz.prog 294 #[.slice (some ⟨br, 0, none⟩) n cap, .int .i64 0, .int .i64 ((n : Nat) : Int), .func (.func 146) #[] #[]] w (fun e w' => e = .returned (.tuple #[]) ∧ w'.ownsRow base 92 6 (.slice (some ⟨br, 0, none⟩) n cap) n ((isort (mdLt) l0).flatMap bkEnc) ∧ w.grownBy w' (some br)) := by
 obtain ⟨R, hR⟩ : ∃ z, z = isort (mdLt) l0 := ⟨_, rfl⟩
 rw [← hR]
 refine gw_enter ⟨53, w, (some br), []⟩ Tryz.func294 rfl Tryz.ntmps294 rfl (memR (X := []) h allF_nil allL_nil) ?_
 refine sr_ (mv_ rfl (ad_ rfl rfl ?_))
 refine wl_set 11 (v' := .int .i64 1) rfl rfl ?_
 refine sg_ rfl (nn_ (gw_block ?_))
 refine gw_loop (γ := Nat × List Bk) (fun gg => (1 ≤ gg.1 ∧ gg.1 ≤ n + 1) ∧ gg.2.length = n ∧ isortF (mdLt) (n - gg.1) gg.1 gg.2 = R) (fun gg => [(0, .slice (some ⟨br, 0, none⟩) n cap), (1, .int .i64 0), (2, .int .i64 ((n : Nat) : Int)), (3, .func (.func 146) #[] #[]), (8, .int .i64 ((gg.1 : Nat) : Int))]) (fun gg => RowK base 92 6 n cap br ((gg.2).flatMap bkEnc)) (fun gg => []) (fun gg => []) (fun gg => []) (fun gg => n + 1 - gg.1) (1, l0) ⟨⟨Nat.le_refl _, by omega⟩, hl0, by rw [hR]; unfold isort; rw [hl0]⟩ ⟨rfl, rfl, rfl, rfl, (some_int (by omega)), trivial⟩ (fun _ hm => hm.pick [] [] [] rfl rfl) ?_
 rintro ⟨i, l⟩ hinv
 replace hinv : (1 ≤ i ∧ i ≤ n + 1) ∧ l.length = n ∧ isortF (mdLt) (n - i) i l = R := hinv
 dsimp only
 refine gw_seq (sr_ ?_)
 obtain ⟨⟨hi1, hi2⟩, hl1, hR1⟩ := hinv
 refine mv_ rfl (mv_ rfl (wl_ov (ov_lss rfl rfl) rfl (nn_ ?_)))
 refine gw_cond rfl (fun hh => ?_) (fun hh => ?_)
 ·have hi : ((i : Nat) : Int) < ((n : Nat) : Int) := by simpa using hh
  clear hh
  refine gw_skip (nx_then (gw_seq (gw_block (sr_ ?_))))
  have hRi : isortF (mdLt) (n - (i + 1)) (i + 1) (sink (mdLt) i l) = R := by rw [← hR1, show n - i = (n - (i + 1)) + 1 by omega]; rfl
  obtain ⟨S, hS⟩ : ∃ z, z = sink (mdLt) i l := ⟨_, rfl⟩
  rw [← hS] at hRi
  have hSl : S.length = n := by rw [hS, sink_len]; exact hl1
  refine mv_ rfl (sg_ rfl (nn_ (gw_block ?_)))
  refine gw_loop (γ := Nat × List Bk) (fun gg => (gg.1 ≤ i) ∧ gg.2.length = n ∧ sink (mdLt) gg.1 gg.2 = S) (fun gg => [(0, .slice (some ⟨br, 0, none⟩) n cap), (1, .int .i64 0), (2, .int .i64 ((n : Nat) : Int)), (3, .func (.func 146) #[] #[]), (8, .int .i64 ((i : Nat) : Int)), (9, .int .i64 ((gg.1 : Nat) : Int))]) (fun gg => RowK base 92 6 n cap br ((gg.2).flatMap bkEnc)) (fun gg => []) (fun gg => []) (fun gg => []) (fun gg => gg.1) (i, l) ⟨Nat.le_refl _, hl1, hS.symm⟩ ⟨rfl, rfl, rfl, rfl, rfl, rfl, trivial⟩ (fun _ hm => hm.pick [] [] [] rfl rfl) ?_
  rintro ⟨jj, m⟩ hinv
  replace hinv : (jj ≤ i) ∧ m.length = n ∧ sink (mdLt) jj m = S := hinv
  dsimp only
  refine gw_seq (gw_seq ?_)
  obtain ⟨hj1, hm1, hS1⟩ := hinv
  rcases jj with _ | j
  ·refine gd (fun wz => True) mixed (fun _ _ => trivial) fun z => ?_
   refine wt 0 17 1 rfl z (ov_move rfl) ?_
   refine wa_set 18 (v' := .int .i64 0) rfl rfl ?_
   refine wt 1 17 3 rfl z (ov_move rfl) ?_
   refine wt 2 17 7 rfl z (ov_gtr rfl rfl) ?_
   refine wa_set 20 (v' := .bool false) rfl (congrArg Value.bool (by decide)) ?_
   refine wt 3 17 15 rfl z (ov_move rfl) ?_
   refine wtf 4 17 31 rfl rfl rfl z ?_
   refine wtf 5 17 63 rfl rfl rfl z ?_
   refine wtf 6 17 127 rfl rfl rfl z ?_
   refine wtf 7 17 255 rfl rfl rfl z ?_
   refine wtf 8 17 511 rfl rfl rfl z ?_
   refine wtf 9 17 1023 rfl rfl rfl z ?_
   refine wtf 10 17 2047 rfl rfl rfl z ?_
   refine wtf 11 17 4095 rfl rfl rfl z ?_
   refine wtf 12 17 8191 rfl rfl rfl z ?_
   refine wtf 13 17 16383 rfl rfl rfl z ?_
   refine wtf 14 17 32767 rfl rfl rfl z ?_
   refine wtf 15 17 65535 rfl rfl rfl z ?_
   refine wt 16 17 131071 rfl z (ov_pick_f rfl rfl) ?_
   refine wa_done (by kernel_rfl) ?_
   refine nx_then (cf_ rfl ?_)
   refine gw_exit ?_
   refine nx_then_exit (nx_then_exit ?_)
   refine nx_blk_here ?_
   refine nx_blk_nrm (nx_then (gw_region (mv_ rfl (ad_ rfl rfl (sg_ rfl (wl_nil ?_))))))
   have hm2 : m = S := hS1
   exact nx_round (i + 1, m) ⟨⟨by dsimp only; omega, by dsimp only; omega⟩, by rw [hm2]; exact hSl, by rw [hm2]; exact hRi⟩ (by dsimp only; omega) ⟨rfl, rfl, rfl, rfl, (some_int (by omega)), trivial⟩ (fun _ hm => hm.pick [] [] [] rfl rfl)
  have hj2 : j + 1 < n := by omega
  obtain ⟨xx, hx⟩ : ∃ x, m[j + 1]? = some x := ⟨_, List.getElem?_eq_getElem (by omega)⟩
  obtain ⟨x0, x1, x2, x3, x4, x5⟩ := xx
  obtain ⟨yy, hy⟩ : ∃ x, m[j]? = some x := ⟨_, List.getElem?_eq_getElem (by omega)⟩
  obtain ⟨y0, y1, y2, y3, y4, y5⟩ := yy
  refine gd (fun wz => (RowK base 92 6 n cap br ((m).flatMap bkEnc)) wz ∧ True) mixed (fun _ hm => ⟨hm.k, trivial⟩) fun z => ?_
  refine wt 0 17 1 rfl z (ov_move rfl) ?_
  refine wt 1 17 3 rfl z (ov_move rfl) ?_
  refine wt 2 17 7 rfl z (ov_gtr rfl rfl) ?_
  refine wa_set 20 (v' := .bool true) rfl (congrArg Value.bool (decide_eq_true (by omega))) ?_
  refine wt 3 17 15 rfl z (ov_move rfl) ?_
  refine wto 4 17 31 rfl rfl rfl z (ov_move rfl) ?_
  refine wto 5 17 63 rfl rfl rfl z (ov_move rfl) ?_
  refine wto 6 17 127 rfl rfl rfl z (ov_move rfl) ?_
  refine wto 7 17 255 rfl rfl rfl z (ov_index (j := (j + 1)) es76 rfl rfl (by omega)) ?_
  refine wto 8 17 511 rfl rfl rfl z (ov_elem (vs := [.string x0, .string x1, .int .i64 x2, .int .i64 x3, .int .i64 x4, .int .i64 x5]) rz92 rfl (fun _ hm => (RowK.get (hm.1) bk_len hm1)) hx rfl rfl) ?_
  refine wto 9 17 1023 rfl rfl rfl z (ov_move rfl) ?_
  refine wto 10 17 2047 rfl rfl rfl z (ov_move rfl) ?_
  refine wto 11 17 4095 rfl rfl rfl z (ov_sub rfl rfl (by omega) (by omega)) ?_
  refine wa_set 29 (v' := .int .i64 ((j : Nat) : Int)) rfl (congrArg (Value.int .i64) (by omega)) ?_
  refine wto 12 17 8191 rfl rfl rfl z (ov_index (j := j) es76 rfl rfl (by omega)) ?_
  refine wto 13 17 16383 rfl rfl rfl z (ov_elem (vs := [.string y0, .string y1, .int .i64 y2, .int .i64 y3, .int .i64 y4, .int .i64 y5]) rz92 rfl (fun _ hm => (RowK.get (hm.1) bk_len hm1)) hy rfl rfl) ?_
  refine wa1 14 rfl ?_
  refine wl_guard_on rfl rfl rfl ?_
  refine wl_callv rfl cb146 rfl rfl (fun wx hm => (prom2_any x0 x1 y0 y1 x2 x3 x4 x5 y2 y3 y4 y5 wx)) ?_
  refine wl_nil ?_
  refine nw 17 32767 (fun _ hm => ⟨hm.k, trivial⟩) fun z => ?_
  refine wto 15 17 65535 rfl rfl rfl z (ov_lss rfl rfl) ?_
  refine wt 16 17 131071 rfl z (ov_pick_t rfl rfl) ?_
  refine wa_done (by kernel_rfl) ?_
  refine nx_then ?_
  refine gw_cond rfl (fun hh => ?_) (fun hh => ?_)
  ·have hlt : cmpI x4 y4 < 0 := by simpa using hh
   clear hh
   refine gw_skip (nx_then (gw_seq (gw_block ?_)))
   have hlt2 : (mdLt) ⟨x0, x1, x2, x3, x4, x5⟩ ⟨y0, y1, y2, y3, y4, y5⟩ = true := decide_eq_true (show cmpI x4 y4 < 0 from hlt)
   have hS2 := (sink_yes hx hy hlt2).symm.trans hS1
   refine gd (fun wz => True) mixed (fun _ _ => trivial) fun z => ?_
   refine wt 0 18 1 rfl z (ov_move rfl) ?_
   refine wt 1 18 3 rfl z (ov_move rfl) ?_
   refine wt 2 18 7 rfl z (ov_move rfl) ?_
   refine wt 3 18 15 rfl z (ov_move rfl) ?_
   refine wt 4 18 31 rfl z (ov_sub rfl rfl (by omega) (by omega)) ?_
   refine wa_set 41 (v' := .int .i64 ((j : Nat) : Int)) rfl (congrArg (Value.int .i64) (by omega)) ?_
   refine wt 5 18 63 rfl z (ov_move rfl) ?_
   refine wt 6 18 127 rfl z (ov_move rfl) ?_
   refine wt 7 18 255 rfl z (ov_sub rfl rfl (by omega) (by omega)) ?_
   refine wa_set 44 (v' := .int .i64 ((j : Nat) : Int)) rfl (congrArg (Value.int .i64) (by omega)) ?_
   refine wt 8 18 511 rfl z (ov_index (j := j) es76 rfl rfl (by omega)) ?_
   refine wt 10 18 1535 rfl z (ov_move rfl) ?_
   refine wt 11 18 3583 rfl z (ov_move rfl) ?_
   refine wt 12 18 7679 rfl z (ov_index (j := (j + 1)) es76 rfl rfl (by omega)) ?_
   refine wa_all [9, 13] (by kernel_rfl) rfl ⟨⟨_, rfl, ?_⟩, ⟨_, rfl, ?_⟩, trivial⟩
   ·refine wl_ov (ov_elem (vs := [.string y0, .string y1, .int .i64 y2, .int .i64 y3, .int .i64 y4, .int .i64 y5]) rz92 rfl (fun _ hm => (RowK.get hm.k bk_len hm1)) hy rfl rfl) rfl ?_
    refine wl_nil ?_
    refine nw 18 8191 (fun _ _ => trivial) fun z => ?_
    refine wa1 13 rfl ?_
    refine wl_ov (ov_elem (vs := [.string x0, .string x1, .int .i64 x2, .int .i64 x3, .int .i64 x4, .int .i64 x5]) rz92 rfl (fun _ hm => (RowK.get hm.k bk_len hm1)) hx rfl rfl) rfl ?_
    refine wl_nil ?_
    refine nw 18 16383 (fun _ _ => trivial) fun z => ?_
    refine wt 14 18 32767 rfl z (ov_index (j := (j + 1)) es76 rfl rfl (by omega)) ?_
    refine wa1 15 rfl ?_
    refine wl_storesRow (l := m) (j := j + 1) (r := 0) (el := ⟨x0, x1, x2, x3, x4, x5⟩) (el' := ⟨y0, y1, y2, y3, y4, y5⟩) rfl rz92 rfl rfl rfl rfl bk_len rfl hx hm1 (by decide) rfl rfl ?_
    refine wl_nil ?_
    refine nw 18 65535 (fun _ _ => trivial) fun z => ?_
    refine wt 16 18 131071 rfl z (ov_index (j := j) es76 rfl rfl (by omega)) ?_
    refine wa1 17 rfl ?_
    refine wl_storesRow (l := m.set (j + 1) ⟨y0, y1, y2, y3, y4, y5⟩) (j := j) (r := 0) (el := ⟨y0, y1, y2, y3, y4, y5⟩) (el' := ⟨x0, x1, x2, x3, x4, x5⟩) rfl rz92 rfl rfl rfl rfl bk_len rfl (by rw [List.getElem?_set_ne (by omega)]; exact hy) (by rw [List.length_set]; exact hm1) (by decide) rfl rfl ?_
    refine wl_nil ?_
    refine nw 18 262143 (fun _ _ => trivial) fun z => ?_
    refine wa_done (by kernel_rfl) ?_
    refine nx_blk_nrm (nx_then (gw_region (mv_ rfl ?_)))
    refine wl_ov (ov_sub rfl rfl (by omega) (by omega)) rfl ?_
    refine wl_set 36 (v' := .int .i64 ((j : Nat) : Int)) rfl (congrArg (Value.int .i64) (by omega)) ?_
    refine sg_ rfl (wl_nil ?_)
    exact nx_round (j, (m.set (j + 1) ⟨y0, y1, y2, y3, y4, y5⟩).set j ⟨x0, x1, x2, x3, x4, x5⟩) ⟨by dsimp only; omega, by simp [hm1], hS2⟩ (by dsimp only; omega) ⟨rfl, rfl, rfl, rfl, rfl, (some_int (by omega)), trivial⟩ (fun _ hm => hm.pick [] [] [] rfl rfl)
   refine wl_ov (ov_elem (vs := [.string x0, .string x1, .int .i64 x2, .int .i64 x3, .int .i64 x4, .int .i64 x5]) rz92 rfl (fun _ hm => (RowK.get hm.k bk_len hm1)) hx rfl rfl) rfl ?_
   refine wl_nil ?_
   refine nw 18 15871 (fun _ _ => trivial) fun z => ?_
   refine wa1 9 rfl ?_
   refine wl_ov (ov_elem (vs := [.string y0, .string y1, .int .i64 y2, .int .i64 y3, .int .i64 y4, .int .i64 y5]) rz92 rfl (fun _ hm => (RowK.get hm.k bk_len hm1)) hy rfl rfl) rfl ?_
   refine wl_nil ?_
   refine nw 18 16383 (fun _ _ => trivial) fun z => ?_
   refine wt 14 18 32767 rfl z (ov_index (j := (j + 1)) es76 rfl rfl (by omega)) ?_
   refine wa1 15 rfl ?_
   refine wl_storesRow (l := m) (j := j + 1) (r := 0) (el := ⟨x0, x1, x2, x3, x4, x5⟩) (el' := ⟨y0, y1, y2, y3, y4, y5⟩) rfl rz92 rfl rfl rfl rfl bk_len rfl hx hm1 (by decide) rfl rfl ?_
   refine wl_nil ?_
   refine nw 18 65535 (fun _ _ => trivial) fun z => ?_
   refine wt 16 18 131071 rfl z (ov_index (j := j) es76 rfl rfl (by omega)) ?_
   refine wa1 17 rfl ?_
   refine wl_storesRow (l := m.set (j + 1) ⟨y0, y1, y2, y3, y4, y5⟩) (j := j) (r := 0) (el := ⟨y0, y1, y2, y3, y4, y5⟩) (el' := ⟨x0, x1, x2, x3, x4, x5⟩) rfl rz92 rfl rfl rfl rfl bk_len rfl (by rw [List.getElem?_set_ne (by omega)]; exact hy) (by rw [List.length_set]; exact hm1) (by decide) rfl rfl ?_
   refine wl_nil ?_
   refine nw 18 262143 (fun _ _ => trivial) fun z => ?_
   refine wa_done (by kernel_rfl) ?_
   refine nx_blk_nrm (nx_then (gw_region (mv_ rfl ?_)))
   refine wl_ov (ov_sub rfl rfl (by omega) (by omega)) rfl ?_
   refine wl_set 36 (v' := .int .i64 ((j : Nat) : Int)) rfl (congrArg (Value.int .i64) (by omega)) ?_
   refine sg_ rfl (wl_nil ?_)
   exact nx_round (j, (m.set (j + 1) ⟨y0, y1, y2, y3, y4, y5⟩).set j ⟨x0, x1, x2, x3, x4, x5⟩) ⟨by dsimp only; omega, by simp [hm1], hS2⟩ (by dsimp only; omega) ⟨rfl, rfl, rfl, rfl, rfl, (some_int (by omega)), trivial⟩ (fun _ hm => hm.pick [] [] [] rfl rfl)
  have hlt : ¬ (cmpI x4 y4 < 0) := by simpa using hh
  clear hh
  refine gw_exit ?_
  refine nx_then_exit (nx_then_exit ?_)
  refine nx_blk_here ?_
  refine nx_blk_nrm (nx_then (gw_region ?_))
  have hlt2 : (mdLt) ⟨x0, x1, x2, x3, x4, x5⟩ ⟨y0, y1, y2, y3, y4, y5⟩ = false := decide_eq_false (show ¬ cmpI x4 y4 < 0 from hlt)
  have hS2 := (sink_no hx hy hlt2).symm.trans hS1
  refine mv_ rfl (ad_ rfl rfl (sg_ rfl (wl_nil ?_)))
  have hm2 : m = S := hS2
  exact nx_round (i + 1, m) ⟨⟨by dsimp only; omega, by dsimp only; omega⟩, by rw [hm2]; exact hSl, by rw [hm2]; exact hRi⟩ (by dsimp only; omega) ⟨rfl, rfl, rfl, rfl, (some_int (by omega)), trivial⟩ (fun _ hm => hm.pick [] [] [] rfl rfl)
 have hi : ¬ (((i : Nat) : Int) < ((n : Nat) : Int)) := by simpa using hh
 clear hh
 refine gw_exit ?_
 refine nx_then_exit (nx_then_exit ?_)
 refine nx_blk_here ?_
 obtain rfl : l = R := by rw [← hR1, show n - i = 0 by omega]; rfl
 refine nx_ret0 rfl fun wx hm => ?_
 exact ⟨rfl, fin_row hm.k hm.g⟩
theorem stb_md (l0 : List Bk) (br n cap base : Nat) (w : World) (h : w.ownsRow base 92 6 (.slice (some ⟨br, 0, none⟩) n cap) n (l0.flatMap bkEnc)) (hl0 : l0.length = n) (hn : n ≤ 19)  :
  Calls Tryz.prog 234 #[.slice (some ⟨br, 0, none⟩) n cap, .int .i64 ((n : Nat) : Int), .func (.func 146) #[] #[]] w (fun e w' => e = .returned (.tuple #[]) ∧ w'.ownsRow base 92 6 (.slice (some ⟨br, 0, none⟩) n cap) n ((isort mdLt l0).flatMap bkEnc) ∧ w.grownBy w' (some br)) := by
 refine gw_enter ⟨63, w, (some br), []⟩ Tryz.func234 rfl Tryz.ntmps234 rfl (memR (X := []) h allF_nil allL_nil) ?_
 refine sr_ (sg_ rfl (nn_ (sr_ (mv_ rfl (sg_ rfl (sg_ rfl (nn_ (gw_seq (gw_block ?_)))))))))
 refine gw_rounds 1 ?_
 refine gr_next ?_
 refine gw_seq (sr_ (mv_ rfl (mv_ rfl (wl_ov (ov_leq rfl rfl) rfl ?_))))
 refine wl_set 13 (v' := .bool false) rfl (congrArg Value.bool (decide_eq_false (by omega))) ?_
 refine nn_ (cf_ rfl ?_)
 refine gw_exit ?_
 refine nx_then_exit (nx_then_exit ?_)
 refine nx_blk_here ?_
 refine nx_then (sr_ (mv_ rfl (mv_ rfl (mv_ rfl (mv_ rfl ?_)))))
 refine wl_callK rfl rfl rfl cb294 rfl rfl (fun wx hm => (ins_md l0 br n cap base wx hm.k hl0 (by omega) )) ?_
 refine nn_ (gw_block ?_)
 refine gw_rounds 1 ?_
 refine gr_next ?_
 refine gw_seq (sr_ (mv_ rfl (mv_ rfl (wl_ov (ov_lss rfl rfl) rfl ?_))))
 refine wl_set 30 (v' := .bool false) rfl (congrArg Value.bool (decide_eq_false (by omega))) ?_
 refine nn_ (cf_ rfl ?_)
 refine gw_exit ?_
 refine nx_then_exit (nx_then_exit ?_)
 refine nx_blk_here ?_
 refine nx_ret0 rfl fun wx hm => ?_
 exact ⟨rfl, fin_row hm.k hm.g⟩
set_option maxRecDepth 100000 in
set_option maxHeartbeats 400000 in
theorem stable_md (l0 : List Bk) (br n cap base : Nat) (w : World) (h : w.ownsRow base 92 6 (.slice (some ⟨br, 0, none⟩) n cap) n (l0.flatMap bkEnc)) (hl0 : l0.length = n) (hn : n ≤ 19)  :
    Calls Tryz.prog 145 #[.slice (some ⟨br, 0, none⟩) n cap, .func (.func 146) #[] #[]] w (fun e w' => e = .returned (.tuple #[]) ∧ w'.ownsRow base 92 6 (.slice (some ⟨br, 0, none⟩) n cap) n ((isort mdLt l0).flatMap bkEnc) ∧ w.grownBy w' (some br)) := by
  refine gw_enter ⟨9, w, (some br), []⟩ Tryz.func145 rfl Tryz.ntmps145 rfl (memR (X := []) h allF_nil allL_nil) ?_
  refine gw_region ?_
  refine wl_ov (ov_move rfl) rfl ?_
  refine wl_ov (ov_move rfl) rfl ?_
  refine wl_ov (ov_len es76 rfl) rfl ?_
  refine wl_ov (ov_move rfl) rfl ?_
  refine wl_callK rfl rfl rfl cb234 rfl rfl (fun wx hm => (stb_md l0 br n cap base wx hm.k hl0 (by omega) )) ?_
  refine wl_nil ?_
  refine nx_ret0 rfl fun wx hm => ?_
  exact ⟨rfl, fin_row hm.k hm.g⟩
theorem ins0_md (A : Option Addr) (cap : Nat) (w : World) : Calls Tryz.prog 294 #[.slice A 0 cap, .int .i64 0, .int .i64 0, .func (.func 146) #[] #[]] w (fun e w' => e = .returned (.tuple #[]) ∧ w.grownBy w' none) := by
 refine gw_enter ⟨53, w, none, []⟩ Tryz.func294 rfl Tryz.ntmps294 rfl (mem0 (X := []) allF_nil allL_nil) ?_
 refine sr_ (mv_ rfl (ad_ rfl rfl ?_))
 refine wl_set 11 (v' := .int .i64 1) rfl rfl ?_
 refine sg_ rfl (nn_ (gw_block ?_))
 refine gw_rounds 1 ?_
 refine gr_next ?_
 refine gw_seq (sr_ (mv_ rfl (mv_ rfl (wl_ov (ov_lss rfl rfl) rfl ?_))))
 refine wl_set 14 (v' := .bool false) rfl (congrArg Value.bool (by decide)) ?_
 refine nn_ (cf_ rfl ?_)
 refine gw_exit ?_
 refine nx_then_exit (nx_then_exit ?_)
 refine nx_blk_here ?_
 refine nx_ret0 rfl fun wx hm => ?_
 exact ⟨rfl, hm.g⟩
theorem stb0_md (A : Option Addr) (cap : Nat) (w : World) : Calls Tryz.prog 234 #[.slice A 0 cap, .int .i64 0, .func (.func 146) #[] #[]] w (fun e w' => e = .returned (.tuple #[]) ∧ w.grownBy w' none) := by
 refine gw_enter ⟨63, w, none, []⟩ Tryz.func234 rfl Tryz.ntmps234 rfl (mem0 (X := []) allF_nil allL_nil) ?_
 refine sr_ (sg_ rfl (nn_ (sr_ (mv_ rfl (sg_ rfl (sg_ rfl (nn_ (gw_seq (gw_block ?_)))))))))
 refine gw_rounds 1 ?_
 refine gr_next ?_
 refine gw_seq (sr_ (mv_ rfl (mv_ rfl (wl_ov (ov_leq rfl rfl) rfl ?_))))
 refine wl_set 13 (v' := .bool false) rfl (congrArg Value.bool (by decide)) ?_
 refine nn_ (cf_ rfl ?_)
 refine gw_exit ?_
 refine nx_then_exit (nx_then_exit ?_)
 refine nx_blk_here ?_
 refine nx_then (sr_ (mv_ rfl (mv_ rfl (mv_ rfl (mv_ rfl ?_)))))
 refine wl_callv rfl cb294 rfl rfl (fun wx hm => (ins0_md A cap wx)) ?_
 refine nn_ (gw_block ?_)
 refine gw_rounds 1 ?_
 refine gr_next ?_
 refine gw_seq (sr_ (mv_ rfl (mv_ rfl (wl_ov (ov_lss rfl rfl) rfl ?_))))
 refine wl_set 30 (v' := .bool false) rfl (congrArg Value.bool (by decide)) ?_
 refine nn_ (cf_ rfl ?_)
 refine gw_exit ?_
 refine nx_then_exit (nx_then_exit ?_)
 refine nx_blk_here ?_
 refine nx_ret0 rfl fun wx hm => ?_
 exact ⟨rfl, hm.g⟩
set_option maxRecDepth 100000 in
set_option maxHeartbeats 400000 in
theorem stable0_md (A : Option Addr) (cap : Nat) (w : World) : Calls Tryz.prog 145 #[.slice A 0 cap, .func (.func 146) #[] #[]] w (fun e w' => e = .returned (.tuple #[]) ∧ w.grownBy w' none) := by
  refine gw_enter ⟨9, w, none, []⟩ Tryz.func145 rfl Tryz.ntmps145 rfl (mem0 (X := []) allF_nil allL_nil) ?_
  refine gw_region ?_
  refine wl_ov (ov_move rfl) rfl ?_
  refine wl_ov (ov_move rfl) rfl ?_
  refine wl_ov (ov_len es76 rfl) rfl ?_
  refine wl_set 6 (v' := .int .i64 0) rfl rfl ?_
  refine wl_ov (ov_move rfl) rfl ?_
  refine wl_callv rfl cb234 rfl rfl (fun wx hm => (stb0_md A cap wx)) ?_
  refine wl_nil ?_
  refine nx_ret0 rfl fun wx hm => ?_
  exact ⟨rfl, hm.g⟩
theorem pred_prom (y0 y1 : ByteArray) (y2 y3 y4 y5 : Int) (l : List Bk) (A : Option Addr) (n c : Nat) (gk : Nat) (w : World) (hl : SlT bkEnc 6 92 w A n l) (hn : n ≤ 1000) (hk : Blk w gk 76 [.slice A n c]) :
  Calls Tryz.prog 142 #[.agg #[.string y0, .string y1, .int .i64 y2, .int .i64 y3, .int .i64 y4, .int .i64 y5], .pointer (some ⟨gk, 0, none⟩)] w (fun e w' => e = .returned (.bool (hasB l y0)) ∧ w.grownBy w' none) := by
 refine gw_enter ⟨8, w, none, []⟩ Tryz.func142 rfl Tryz.ntmps142 rfl (mem0 (X := [SlOld bkEnc 6 92 w.heap.size none A n l, BlkOld w.heap.size none gk 76 [.slice A n c]]) (allF_cons hl.old (allF_cons hk.old allF_nil)) (allL_cons SlOld.lasts (allL_cons BlkOld.lasts allL_nil))) ?_
 refine sr_ ?_
 refine wl_box rfl rfl rfl fun g1 => ?_
 refine sg_ rfl (nn_ (sr_ ?_))
 refine wl_ov (ov_load (v := .slice A n c) sc76 rfl (fun _ hm => (hm.fact 1 rfl).2) rfl) rfl ?_
 refine fd_ fo92_0 rfl rfl (lk_ sc9 0 rfl rfl rfl ?_)
 refine wl_callv rfl cb143 rfl rfl (fun wx hm => (hasKey_any l A n c y0 wx (hm.fact 0 rfl).1 hn)) ?_
 refine sg_ rfl (nn_ ?_)
 refine gw_ret ?_
 refine nx_ret1 rfl rfl fun wx hm => ?_
 exact ⟨rfl, hm.g⟩
theorem index_prom (l : List Bk) (A : Option Addr) (n c : Nat) (wl : List Bk) (W : Option Addr) (p d : Nat) (gk : Nat) (w : World) (hl : SlT bkEnc 6 92 w A n l) (hn : n ≤ 1000) (hw : SlT bkEnc 6 92 w W p wl) (hp : p ≤ 1000) (hk : Blk w gk 76 [.slice A n c]) :
  Calls Tryz.prog 151 #[.slice W p d, .func (.func 142) #[] #[.pointer (some ⟨gk, 0, none⟩)]] w (GotE w (ixP (fun b => hasB l b.key) wl 0)) := by
 refine gw_enter ⟨19, w, none, []⟩ Tryz.func151 rfl Tryz.ntmps151 rfl (mem0 (X := [SlOld bkEnc 6 92 w.heap.size none A n l, BlkOld w.heap.size none gk 76 [.slice A n c], SlOld bkEnc 6 92 w.heap.size none W p wl]) (allF_cons hl.old (allF_cons hk.old (allF_cons hw.old allF_nil))) (allL_cons SlOld.lasts (allL_cons BlkOld.lasts (allL_cons SlOld.lasts allL_nil)))) ?_
 refine sr_ ?_
 have hlen := hw.len
 refine sg_ rfl (nn_ (gw_seq (sr_ (mv_ rfl (wl_ov (ov_len es76 rfl) rfl (mv_ rfl (nn_ (gw_block ?_))))))))
 refine gw_loop (γ := Nat) (fun (i : Nat) => i ≤ p ∧ ixP (fun b => hasB l b.key) wl 0 = ixP (fun b => hasB l b.key) (wl.drop i) i) (fun (i : Nat) => [(0, .slice W p d), (1, .func (.func 142) #[] #[.pointer (some ⟨gk, 0, none⟩)]), (7, .int .i64 ((p : Nat) : Int)), (8, .int .i64 ((i : Nat) : Int))]) (fun (i : Nat) => fun _ => True) (fun (i : Nat) => []) (fun (i : Nat) => []) (fun (i : Nat) => [SlOld bkEnc 6 92 w.heap.size none A n l, BlkOld w.heap.size none gk 76 [.slice A n c], SlOld bkEnc 6 92 w.heap.size none W p wl]) (fun (i : Nat) => p - i) 0 ⟨Nat.zero_le _, rfl⟩ ⟨rfl, rfl, rfl, rfl, trivial⟩ (fun _ hm => hm.pick [] [] [0, 1, 2] rfl rfl) ?_
 intro i hinv
 replace hinv : i ≤ p ∧ ixP (fun b => hasB l b.key) wl 0 = ixP (fun b => hasB l b.key) (wl.drop i) i := hinv
 refine sr_ (wl_ov (ov_lss rfl rfl) rfl (nn_ (gw_seq ?_)))
 refine gw_cond rfl (fun hh => ?_) (fun hh => ?_)
 ·have hi : ((i : Nat) : Int) < ((p : Nat) : Int) := by simpa using hh
  clear hh
  refine gw_skip (nx_then (gw_seq (gw_block (sr_ ?_))))
  obtain ⟨b, off, hA, _, _⟩ := hw.get (by omega)
  subst hA
  obtain ⟨x, hx⟩ : ∃ x, wl[i]? = some x := ⟨_, List.getElem?_eq_getElem (by omega)⟩
  obtain ⟨y0, y1, y2, y3, y4, y5⟩ := x
  have hat := ixP_at (p := (fun b => hasB l b.key)) hx
  refine mv_ rfl (sg_ rfl (nn_ (sr_ (mv_ rfl (mv_ rfl (mv_ rfl ?_))))))
  refine wl_ov (ov_index (j := i) es76 rfl rfl (by omega)) rfl ?_
  refine wl_ov (ov_elem (vs := [.string y0, .string y1, .int .i64 y2, .int .i64 y3, .int .i64 y4, .int .i64 y5]) rz92 rfl (fun _ hm => (hm.fact 2 rfl).1) hx rfl rfl) rfl ?_
  refine wl_callv rfl cb142 rfl rfl (fun wx hm => (pred_prom y0 y1 y2 y3 y4 y5 l A n c gk wx (hm.fact 0 rfl).1 hn (hm.fact 1 rfl).2)) ?_
  refine nn_ ?_
  refine gw_cond rfl (fun hh => ?_) (fun hh => ?_)
  ·have hq : (hasB l y0) = true := by simpa using hh
   clear hh
   refine sr_ (mv_ rfl (sg_ rfl (nn_ ?_)))
   refine gw_ret ?_
   refine nx_blk_ret (nx_then_ret (nx_then_ret (nx_blk_ret (nx_then_ret ?_))))
   refine nx_ret1 rfl rfl fun wx hm => ?_
   exact ⟨ret_int (by rw [hinv.2, hat, if_pos hq]), hm.g⟩
  have hq : (hasB l y0) = false := by simpa using hh
  clear hh
  refine gw_skip (nx_blk_nrm (nx_then (gw_region (ad_ rfl rfl (mv_ rfl (wl_nil ?_))))))
  exact nx_round (i + 1) ⟨by omega, by rw [hinv.2, hat, if_neg (by dsimp only; rw [hq]; decide)]⟩ (by omega) ⟨rfl, rfl, rfl, (some_int (by omega)), trivial⟩ (fun _ hm => hm.pick [] [] [0, 1, 2] rfl rfl)
 have hi : ¬ (((i : Nat) : Int) < ((p : Nat) : Int)) := by simpa using hh
 clear hh
 refine gw_exit ?_
 refine nx_then_exit (nx_then_exit ?_)
 refine nx_blk_here ?_
 refine nx_then (sr_ (sg_ rfl ?_))
 refine wl_set 4 (v' := .int .i64 (-1)) rfl rfl ?_
 refine nn_ ?_
 refine gw_ret ?_
 refine nx_ret1 rfl rfl fun wx hm => ?_
 exact ⟨ret_int (by rw [hinv.2, List.drop_eq_nil_of_le (by omega)]; rfl), hm.g⟩
theorem hasP_any (l : List Bk) (A : Option Addr) (n c : Nat) (wl : List Bk) (W : Option Addr) (p d : Nat) (gk : Nat) (w : World) (hl : SlT bkEnc 6 92 w A n l) (hn : n ≤ 1000) (hw : SlT bkEnc 6 92 w W p wl) (hp : p ≤ 1000) (hk : Blk w gk 76 [.slice A n c]) :
  Calls Tryz.prog 52 #[.slice W p d, .func (.func 142) #[] #[.pointer (some ⟨gk, 0, none⟩)]] w (fun e w' => e = .returned (.bool (twB l wl)) ∧ w.grownBy w' none) := by
 refine gw_enter ⟨9, w, none, []⟩ Tryz.func52 rfl Tryz.ntmps52 rfl (mem0 (X := [SlOld bkEnc 6 92 w.heap.size none A n l, BlkOld w.heap.size none gk 76 [.slice A n c], SlOld bkEnc 6 92 w.heap.size none W p wl]) (allF_cons hl.old (allF_cons hk.old (allF_cons hw.old allF_nil))) (allL_cons SlOld.lasts (allL_cons BlkOld.lasts (allL_cons SlOld.lasts allL_nil)))) ?_
 refine sr_ (sg_ rfl (nn_ (sr_ (mv_ rfl (mv_ rfl ?_)))))
 refine wl_callv rfl cb151 rfl rfl (fun wx hm => (index_prom l A n c wl W p d gk wx (hm.fact 0 rfl).1 hn (hm.fact 2 rfl).1 hp (hm.fact 1 rfl).2)) ?_
 refine wl_ov (ov_geq rfl rfl) rfl ?_
 refine sg_ rfl (nn_ ?_)
 refine gw_ret ?_
 refine nx_ret1 rfl rfl fun wx hm => ?_
 exact ⟨rfl, hm.g⟩
end Go.Proofs.YtempjmpfdniecaaGreatDoor
namespace Go.Proofs.YtempjmpfdniecaaGreatDoor
open Go.RowKit
theorem bookE_move {b : Bk} {a : Int} (h : bookE none b = 0) (h1 : b.fr ≤ a) (h2 : a + (b.to_ - b.fr) ≤ 5761439) : bookE none (atB b a) = 0 := by
  unfold bookE at h
  split at h
  · cases h
  rename_i k1
  split at h
  · cases h
  rename_i k2
  split at h
  · cases h
  split at h
  · cases h
  rename_i k4
  split at h
  · cases h
  rename_i k5
  split at h
  · cases h
  split at h
  · cases h
  rename_i k7
  split at h
  · cases h
  rename_i k8
  have k7 : inB b.made 0 b.fr = true := by simpa using k7
  obtain ⟨m1, m2⟩ := inB_iff.1 k7
  unfold bookE atB
  dsimp only
  rw [if_neg k1, if_neg k2, if_neg (show ¬ leO none (⟨b.key, b.cls, a, a + (b.to_ - b.fr), b.made, b.odds⟩ : Bk) = true from Bool.false_ne_true), if_neg (by omega), if_neg (by omega), if_neg (by omega), if_neg (by rw [inB_iff.2 ⟨m1, by omega⟩]; decide), if_neg k8]
theorem formE_sing (b : Bk) : formE [b] = bookE none b := by
  unfold formE
  rw [if_neg (by simp)]
  unfold scanE
  split
  · rename_i h; rw [h]; rfl
  · rfl
theorem classed_move {cs : List Cs} {b : Bk} {a : Int} (h : classedE cs [b] = 0) (h1 : b.fr ≤ a) (h2 : a + (b.to_ - b.fr) ≤ 5761439) : classedE cs [atB b a] = 0 := by
  unfold classedE at h ⊢
  rw [formE_sing] at h ⊢
  split at h
  · exact absurd h ‹_›
  · rename_i k
    have k : bookE none b = 0 := by simpa using k
    rw [bookE_move k h1 h2, if_neg (by simp)]
    exact h
/-- A booking that can be added may be moved. -/
theorem canE_move {cs : List Cs} {sl : List Sk} {l : List Bk} {b : Bk} {a : Int} (h : canE cs sl l b = 0) (h1 : b.fr ≤ a) (h2 : a + (b.to_ - b.fr) ≤ 5761439) : canE cs sl l (atB b a) = 0 := by
  obtain ⟨h0, hn⟩ := canE_ok h
  obtain ⟨k1, k2, k3⟩ := newE_ok hn
  unfold canE
  rw [if_pos h0]
  show firstE [classedE cs [atB b a], whenE (hasB l b.key) 6, whenE (decide (7 ≤ ((l.length : Nat) : Int))) 2] = 0
  rw [classed_move k1 h1 h2, k2, decide_eq_false (by omega)]; rfl
theorem atB_self (b : Bk) : atB b b.fr = b := by
  unfold atB
  rw [show b.fr + (b.to_ - b.fr) = b.to_ by omega]
/-- What is possible comes at the earliest. -/
theorem erl_some {cs : List Cs} {sl : List Sk} {l : List Bk} {b : Bk} {a : Int} (ht : b.to_ ≤ 5761439) (h : erlO cs sl l b = some a) : canB cs sl l (atB b a) = true ∧ (b.fr ≤ a ∧ a + (b.to_ - b.fr) ≤ 5761439) ∧ (canB cs sl l b = decide (a = b.fr)) := by
  obtain ⟨h1, h2, h3⟩ := find_srt (sortI_pair _) h
  have h4 := srt_has ht h1
  refine ⟨h2, h4, ?_⟩
  cases hc : canB cs sl l b with
  | true =>
    have h5 := h3 b.fr (sortI_mem.2 (List.mem_cons_self ..)) (by rw [atB_self]; exact hc)
    exact (decide_eq_true (by omega)).symm
  | false =>
    refine (decide_eq_false fun h6 => ?_).symm
    rw [h6, atB_self, hc] at h2
    cases h2
theorem erl_none {cs : List Cs} {sl : List Sk} {l : List Bk} {b : Bk} (h : erlO cs sl l b = none) : canB cs sl l b = false := by
  have := List.find?_eq_none.1 h b.fr (sortI_mem.2 (List.mem_cons_self ..))
  rw [atB_self] at this
  simpa using this
theorem isort_one (lt : Bk → Bk → Bool) (b : Bk) : isort lt [b] = [b] := rfl
/-- The one who waits is taken if he can be added. -/
theorem prom_one {cs : List Cs} {sl : List Sk} {l : List Bk} {b : Bk} (hl : l.length ≤ 6) (h : prE cs sl l [b] = 0) : canE cs sl l b = 0 ∧ (prV cs sl l [b]).length = if canB cs sl l b = true then 1 else 0 := by
  unfold prE at h
  obtain ⟨h1, h⟩ := firstE_cons0 h
  obtain ⟨h2, _⟩ := firstE_cons0 h
  obtain ⟨h3, h4⟩ := firstE_two h1
  obtain ⟨_, h5⟩ := firstE_two h4
  have h6 := whenE_no h2 (by decide)
  have h7 : hasB l b.key = false := by
    cases hh : hasB l b.key with
    | false => rfl
    | true =>
      exfalso
      unfold twB ixP at h6
      rw [if_pos hh] at h6
      cases h6
  refine ⟨?_, ?_⟩
  · unfold canE newE
    rw [if_pos h3, h5, h7, decide_eq_false (by omega)]; rfl
  · unfold prV
    rw [isort_one]
    show (prS cs sl (l, []) b).2.length = _
    unfold prS
    dsimp only
    rw [if_neg (by omega)]
    split <;> rfl
end Go.Proofs.YtempjmpfdniecaaGreatDoor
namespace Go.Proofs.YtempjmpfdniecaaGreatDoor
open Go.RowKit
theorem promote_any (cs : List Cs) (A0 : Option Addr) (n0 c0 : Nat) (sl : List Sk) (A1 : Option Addr) (n1 c1 : Nat) (l : List Bk) (A : Option Addr) (n c : Nat) (wl : List Bk) (W : Option Addr) (p d : Nat) (w : World) (hcs : SlT csEnc 2 158 w A0 n0 cs) (hco : ∀ x ∈ cs, CsOk x) (hn0 : n0 ≤ 1000) (hs : SlT skEnc 2 211 w A1 n1 sl) (hso : ∀ x ∈ sl, SkOk x) (hn1 : n1 ≤ 1000) (hl : SlT bkEnc 6 92 w A n l) (hok : ∀ x ∈ l, BkOk x) (hn : n ≤ 1000) (hw : SlT bkEnc 6 92 w W p wl) (hwo : ∀ x ∈ wl, BkOk x) (hp : p ≤ 19) :
  Calls Tryz.prog 50 #[.slice A0 n0 c0, .slice A1 n1 c1, .slice A n c, .slice W p d] w (fun e w' => ((prE cs sl l wl ≠ 0 ∧ e = .returned (.tuple #[.slice none 0 0, .int .i64 (prE cs sl l wl)])) ∨ (prE cs sl l wl = 0 ∧ ∃ (A' : Option Addr) (k c' : Nat), e = .returned (.tuple #[.slice A' k c', .int .i64 0]) ∧ SlT sgEnc 1 9 w' A' k (prV cs sl l wl))) ∧ w.grownBy w' none) := by
 refine gw_enter ⟨71, w, none, []⟩ Tryz.func50 rfl Tryz.ntmps50 rfl (mem0 (X := [SlOld csEnc 2 158 w.heap.size none A0 n0 cs, SlOld skEnc 2 211 w.heap.size none A1 n1 sl, SlOld bkEnc 6 92 w.heap.size none A n l, SlOld bkEnc 6 92 w.heap.size none W p wl]) (allF_cons hcs.old (allF_cons hs.old (allF_cons hl.old (allF_cons hw.old allF_nil)))) (allL_cons SlOld.lasts (allL_cons SlOld.lasts (allL_cons SlOld.lasts (allL_cons SlOld.lasts allL_nil))))) ?_
 refine sr_ ?_
 have hlen := hl.len
 have hwlen := hw.len
 obtain ⟨E1, hE1⟩ : ∃ z, z = firstE [stockE cs sl, checkE cs l] := ⟨_, rfl⟩
 obtain ⟨E2, hE2⟩ : ∃ z, z = checkE cs wl := ⟨_, rfl⟩
 obtain ⟨TW, hTW⟩ : ∃ z, z = twB l wl := ⟨_, rfl⟩
 obtain ⟨AN, hAN⟩ : ∃ z, z = (asgO cs sl l).isNone := ⟨_, rfl⟩
 obtain ⟨PE, hPE⟩ : ∃ z, z = prE cs sl l wl := ⟨_, rfl⟩
 have hpe : PE = firstE [firstE [E1, E2], whenE TW 6, whenE (decide (7 < ((n : Nat) : Int))) 2, whenE AN 12] := by rw [hPE, hE1, hE2, hTW, hAN, ← hlen]; rfl
 rw [← hPE]
 refine wl_box rfl rfl rfl fun g1 => ?_
 refine sg_ rfl (sg_ rfl (nn_ (gw_seq (sr_ (mv_ rfl (mv_ rfl (lk_ sc76 0 rfl rfl rfl ?_)))))))
 refine wl_callv (v := .int .i64 E1) rfl cb124 rfl rfl (fun wx hm => (by rw [hE1]; exact checkAll_any cs A0 n0 c0 sl A1 n1 c1 l A n c wx (hm.fact 0 rfl).1 hco hn0 (hm.fact 1 rfl).1 hso hn1 (hm.fact 2 rfl).1 hok hn)) ?_
 refine mv_ rfl (mv_ rfl ?_)
 refine wl_callv (v := .int .i64 E2) rfl cb141 rfl rfl (fun wx hm => (by rw [hE2]; exact bcheck_any cs A0 n0 c0 wl W p d wx (hm.fact 0 rfl).1 hco hn0 (hm.fact 3 rfl).1 hwo (by omega))) ?_
 refine wl_buildSlice (e := 33) (cs := [.int .i64 E1, .int .i64 E2]) rfl (by kernel_rfl) rfl fun g2 => ?_
 refine wl_callw rfl cb67 rfl rfl (fun wx hm => (first_any [E1, E2] _ _ _ wx (hm.blkI 0 rfl) (by simp))) ?_
 refine sg_ rfl (nn_ (sr_ (mv_ rfl (wl_ov (ov_neq rfl rfl) rfl (nn_ ?_)))))
 refine gw_cond rfl (fun hh => ?_) (fun hh => ?_)
 ·have h1 : ¬ (firstE [E1, E2] = 0) := by simpa using hh
  clear hh
  refine sr_ (mv_ rfl (sg_ rfl (sg_ rfl (nn_ ?_))))
  refine gw_ret ?_
  refine nx_then_ret ?_
  refine nx_ret2 rfl rfl rfl fun wx hm => ?_
  have h1 : firstE [E1, E2] ≠ 0 := by simpa using h1
  have hq : PE = firstE [E1, E2] := by rw [hpe]; conv => lhs; unfold firstE; rw [if_neg h1]
  exact ⟨.inl ⟨by rw [hq]; exact h1, by rw [hq]⟩, hm.g⟩
 have h1 : firstE [E1, E2] = 0 := by simpa using hh
 clear hh
 refine gw_skip (nx_then (gw_seq (sr_ ?_)))
 have h1 : firstE [E1, E2] = 0 := by simpa using h1
 refine mv_ rfl (wl_ov (ov_makeFunc rfl rfl) rfl ?_)
 refine wl_callv (v := .bool TW) rfl cb52 rfl rfl (fun wx hm => (by rw [hTW]; exact hasP_any l A n c wl W p d _ wx (hm.fact 2 rfl).1 hn (hm.fact 3 rfl).1 (by omega) (hm.blkI 1 rfl))) ?_
 refine nn_ ?_
 refine gw_cond rfl (fun hh => ?_) (fun hh => ?_)
 ·have h2 : TW = true := by simpa using hh
  clear hh
  refine sr_ (sg_ rfl (sg_ rfl (nn_ ?_)))
  refine gw_ret ?_
  refine nx_then_ret ?_
  refine nx_ret2 rfl rfl rfl fun wx hm => ?_
  exact ⟨.inl ⟨by rw [hpe, h1, h2]; exact (by decide : (6 : Int) ≠ 0), by rw [hpe, h1, h2]; rfl⟩, hm.g⟩
 have h2 : TW = false := by simpa using hh
 clear hh
 refine gw_skip (nx_then (gw_seq (sr_ (lk_ sc76 1 rfl rfl rfl (wl_ov (ov_len es76 rfl) rfl ?_)))))
 refine wl_ov (ov_gtr rfl rfl) rfl ?_
 refine nn_ ?_
 refine gw_cond rfl (fun hh => ?_) (fun hh => ?_)
 ·have h3 : 7 < ((n : Nat) : Int) := by simpa using hh
  clear hh
  refine sr_ (sg_ rfl (sg_ rfl (nn_ ?_)))
  refine gw_ret ?_
  refine nx_then_ret ?_
  refine nx_ret2 rfl rfl rfl fun wx hm => ?_
  exact ⟨.inl ⟨by rw [hpe, h1, h2, decide_eq_true h3]; exact (by decide : (2 : Int) ≠ 0), by rw [hpe, h1, h2, decide_eq_true h3]; rfl⟩, hm.g⟩
 have h3 : ¬ (7 < ((n : Nat) : Int)) := by simpa using hh
 clear hh
 refine gw_skip (nx_then (gw_seq (sr_ ?_)))
 obtain ⟨hx1, hx2⟩ := firstE_two h1
 have hz0 : firstE [stockE cs sl, checkE cs l] = 0 := hE1.symm.trans hx1
 obtain ⟨⟨h30, hcl, hlo⟩, hmany, hkeys, htm, _⟩ := right_has hz0
 have hzw : firstE [stockE cs sl, checkE cs wl] = 0 := by
  rw [(firstE_two hz0).1, ← hE2, hx2]; rfl
 obtain ⟨_, _, hkeysw, htmw, _⟩ := right_has hzw
 refine mv_ rfl (mv_ rfl (lk_ sc76 1 rfl rfl rfl ?_))
 refine wl_callx (γ := Int) (val := (fun g => .int .i64 g)) (φ := (fun g => FwOk cs sl l g)) (Y := (fun g => fun _ => True)) rfl cb134 rfl rfl (fun wx hm => (fewest_any cs A0 n0 c0 sl A1 n1 c1 l A n c wx (hm.fact 0 rfl).1 hco hn0 (hm.fact 1 rfl).1 hso hn1 (hm.fact 2 rfl).1 (by omega) hcl hlo h30 hkeys htm).mono fun _ _ ⟨v, he, hf, hg⟩ => ⟨v, he, hf, hg, trivial⟩) (fun _ => Lasts2.true_) ?_
 rintro fv hfw
 have hcan := fw_iff hfw
 refine wl_ov (ov_lss rfl rfl) rfl (nn_ ?_)
 refine gw_cond rfl (fun hh => ?_) (fun hh => ?_)
 ·have h4 : fv < 0 := by simpa using hh
  clear hh
  refine sr_ ?_
  have hn4 : AN = true := by
   rw [hAN]
   rw [decide_eq_false (by omega)] at hcan
   cases hh : asgO cs sl l with
   | none => rfl
   | some o => rw [hh] at hcan; cases hcan
  refine sg_ rfl (sg_ rfl (nn_ ?_))
  refine gw_ret ?_
  refine nx_then_ret ?_
  refine nx_ret2 rfl rfl rfl fun wx hm => ?_
  exact ⟨.inl ⟨by rw [hpe, h1, h2, decide_eq_false h3, hn4]; exact (by decide : (12 : Int) ≠ 0), by rw [hpe, h1, h2, decide_eq_false h3, hn4]; rfl⟩, hm.g⟩
 have h4 : ¬ (fv < 0) := by simpa using hh
 clear hh
 refine gw_skip (nx_then (sr_ ?_))
 have hn4 : AN = false := by
  rw [hAN]
  rw [decide_eq_true (by omega)] at hcan
  cases hh : asgO cs sl l with
  | none => rw [hh] at hcan; cases hcan
  | some o => rfl
 have hpe0 : PE = 0 := by rw [hpe, h1, h2, decide_eq_false h3, hn4]; rfl
 obtain ⟨Q, hQ⟩ : ∃ z, z = isort mdLt wl := ⟨_, rfl⟩
 have hQl : Q.length = p := by rw [hQ, isort_len]; exact hwlen
 have hQm : ∀ x ∈ Q, x ∈ wl := fun x hx => isort_mem.1 (by rw [hQ] at hx; exact hx)
 have hpv : prV cs sl l wl = (prF cs sl l Q).2 := by rw [hQ]; rfl
 rw [hpv]
 refine mv_ rfl ?_
 refine wl_callgo (γ := Option Addr × Nat) (val := (fun g => .slice g.1 p g.2)) (φ := (fun g => True)) (fun g => ⟨.slice g.1 p g.2, 92, 6, p, wl.flatMap bkEnc⟩) rfl cb144 rfl rfl (fun wx hm => (cloneBks_any wl W p d wx (hm.fact 4 rfl).1 (by omega)).mono fun _ _ ⟨A, c, he, ho, hg⟩ => ⟨(A, c), he, trivial, ho, hg⟩) ?_
 rintro ⟨A5, c5⟩ hphi
 dsimp only at hphi ⊢
 refine sg_ rfl (nn_ ?_)
 refine gw_cut (γ := Option Addr) (I := (fun (A3 : Option Addr) => True)) (S' := (fun (A3 : Option Addr) => [(0, .slice A0 n0 c0), (1, .slice A1 n1 c1), (6, .pointer (some ⟨g1, 0, none⟩)), (8, .slice none 0 0), (9, .int .i64 0), (11, .slice A3 p c5)])) (K' := (fun (A3 : Option Addr) => fun _ => True)) (L' := (fun (A3 : Option Addr) => [(g2, 33, [.int .i64 E1, .int .i64 E2]), (g1, 76, [.slice A n c])])) (O' := (fun (A3 : Option Addr) => [⟨.slice A3 p c5, 92, 6, p, Q.flatMap bkEnc⟩])) (X' := (fun (A3 : Option Addr) => [fun _ => True, SlOld csEnc 2 158 w.heap.size none A0 n0 cs, SlOld skEnc 2 211 w.heap.size none A1 n1 sl, SlOld bkEnc 6 92 w.heap.size none A n l, SlOld bkEnc 6 92 w.heap.size none W p wl])) ?_ ?_
 ·refine gw_region (mv_ rfl ?_)
  by_cases hp0 : p = 0
  ·refine wl_callv (v := .tuple #[]) rfl cb145 rfl rfl (fun wx hm => (by subst hp0; exact stable0_md A5 c5 wx)) ?_
   have hw0 : wl = [] := List.length_eq_zero_iff.1 (by omega)
   rw [show wl.flatMap bkEnc = Q.flatMap bkEnc from by rw [hQ, hw0]; rfl]
   refine wl_nil ?_
   exact nx_meet A5 trivial ⟨rfl, rfl, rfl, rfl, rfl, rfl, trivial⟩ (fun _ hm => hm.pick [0, 1] [0] [0, 1, 2, 3, 4] rfl rfl)
  refine wl_look (R := ∃ g, A5 = some ⟨g, 0, none⟩) (fun wx hm => own_addr (hm.ownI 0 rfl) (by omega)) ?_
  rintro ⟨g5, rfl⟩
  refine wl_callr (v := .tuple #[]) (xs' := Q.flatMap bkEnc) 0 rfl rfl rfl cb145 rfl rfl (fun wx hm => (by have h := stable_md wl g5 p c5 _ wx (hm.ownI 0 rfl) hwlen (by omega); rw [← hQ] at h; exact h)) ?_
  refine wl_nil ?_
  exact nx_meet (some ⟨g5, 0, none⟩) trivial ⟨rfl, rfl, rfl, rfl, rfl, rfl, trivial⟩ (fun _ hm => hm.pick [0, 1] [0] [0, 1, 2, 3, 4] rfl rfl)
 intro A3 hinv
 replace hinv : True := hinv
 refine sr_ (lk_ sc76 1 rfl rfl rfl ?_)
 refine wl_callgo (γ := Option Addr × Nat) (val := (fun g => .slice g.1 n g.2)) (φ := (fun g => True)) (fun g => ⟨.slice g.1 n g.2, 92, 6, n, l.flatMap bkEnc⟩) rfl cb144 rfl rfl (fun wx hm => (cloneBks_any l A n c wx (hm.fact 3 rfl).1 (by omega)).mono fun _ _ ⟨A, c, he, ho, hg⟩ => ⟨(A, c), he, trivial, ho, hg⟩) ?_
 rintro ⟨A7, c7⟩ hphi
 dsimp only at hphi ⊢
 refine wl_nilOwn 9 1 ?_
 refine sg_ rfl (nn_ (sr_ (sg_ rfl (nn_ (gw_seq (sr_ (mv_ rfl (wl_ov (ov_len es76 rfl) rfl (mv_ rfl ?_)))))))))
 refine nn_ (gw_block ?_)
 refine gw_loop (γ := Nat × List Bk × List ByteArray × Nat × Nat × Option Addr × Nat × Value) (fun g => g.1 ≤ p ∧ prF cs sl l (Q.take g.1) = (g.2.1, g.2.2.1) ∧ g.2.1.length = g.2.2.2.1 ∧ g.2.2.1.length = g.2.2.2.2.1 ∧ g.2.2.2.1 ≤ 7 ∧ g.2.2.2.2.1 ≤ g.1 ∧ (∀ x ∈ g.2.1, keysE cs [x.cls] = 0) ∧ BkTim g.2.1) (fun g => [(0, .slice A0 n0 c0), (1, .slice A1 n1 c1), (8, .slice none 0 0), (9, .int .i64 0), (12, .slice g.2.2.2.2.2.1 g.2.2.2.1 g.2.2.2.2.2.2.1), (13, g.2.2.2.2.2.2.2), (46, .slice A3 p c5), (47, .int .i64 ((p : Nat) : Int)), (48, .int .i64 ((g.1 : Nat) : Int))]) (fun g => fun _ => True) (fun g => [(g2, 33, [.int .i64 E1, .int .i64 E2]), (g1, 76, [.slice A n c])]) (fun g => [⟨g.2.2.2.2.2.2.2, 9, 1, g.2.2.2.2.1, g.2.2.1.flatMap sgEnc⟩, ⟨.slice g.2.2.2.2.2.1 g.2.2.2.1 g.2.2.2.2.2.2.1, 92, 6, g.2.2.2.1, g.2.1.flatMap bkEnc⟩, ⟨.slice A3 p c5, 92, 6, p, Q.flatMap bkEnc⟩]) (fun g => [fun _ => True, SlOld csEnc 2 158 w.heap.size none A0 n0 cs, SlOld skEnc 2 211 w.heap.size none A1 n1 sl, SlOld bkEnc 6 92 w.heap.size none A n l, SlOld bkEnc 6 92 w.heap.size none W p wl]) (fun g => p - g.1) (0, l, [], n, 0, A7, c7, .slice none 0 0) ⟨Nat.zero_le _, rfl, hlen, rfl, by dsimp only; omega, Nat.le_refl _, hkeys, htm⟩ ⟨rfl, rfl, rfl, rfl, rfl, rfl, rfl, rfl, rfl, trivial⟩ (fun _ hm => hm.pick [0, 1] [0, 1, 2] [0, 1, 2, 3, 4] rfl rfl) ?_
 rintro ⟨i, N, R, mm, rr, A6, c6, v⟩ hinv
 replace hinv : i ≤ p ∧ prF cs sl l (Q.take i) = (N, R) ∧ N.length = mm ∧ R.length = rr ∧ mm ≤ 7 ∧ rr ≤ i ∧ (∀ x ∈ N, keysE cs [x.cls] = 0) ∧ BkTim N := hinv
 dsimp only
 refine sr_ ?_
 obtain ⟨hi0, hpr, hNl, hRl, hm7, hri, hNk, hNt⟩ := hinv
 refine wl_ov (ov_lss rfl rfl) rfl (nn_ (gw_seq ?_))
 refine gw_cond rfl (fun hh => ?_) (fun hh => ?_)
 ·have hi : ((i : Nat) : Int) < ((p : Nat) : Int) := by simpa using hh
  clear hh
  refine gw_skip (nx_then (gw_seq (gw_block (sr_ ?_))))
  refine wl_look (R := ∃ g, A3 = some ⟨g, 0, none⟩) (fun wx hm => own_addr (hm.ownI 2 rfl) (by omega)) ?_
  rintro ⟨g6, rfl⟩
  obtain ⟨x, hx⟩ : ∃ x, Q[i]? = some x := ⟨_, List.getElem?_eq_getElem (by omega)⟩
  obtain ⟨x0, x1, x2, x3, x4, x5⟩ := x
  have hxl := hQm _ (List.mem_of_getElem? hx)
  have hat := prF_at (cs := cs) (sl := sl) (l := l) hx
  rw [hpr] at hat
  obtain ⟨hkw, htw⟩ := with_has2 (b := (⟨x0, x1, x2, x3, x4, x5⟩ : Bk)) hNk hNt (hkeysw _ hxl) (htmw _ hxl)
  refine wl_ov (ov_index (j := i) es76 rfl rfl (by omega)) rfl ?_
  refine wl_ov (ov_elem (vs := [.string x0, .string x1, .int .i64 x2, .int .i64 x3, .int .i64 x4, .int .i64 x5]) rz92 rfl (fun _ hm => (SlT.ofOwn bk_len (hm.ownI 2 rfl) hQl)) hx rfl rfl) rfl ?_
  refine wl_alloc zc92 rfl fun g4 => ?_
  refine wl_stores (cs' := [.string x0, .string x1, .int .i64 x2, .int .i64 x3, .int .i64 x4, .int .i64 x5]) 0 rz92 rfl rfl rfl rfl rfl rfl rfl rfl ?_
  refine nn_ (gw_seq (sr_ (mv_ rfl (wl_ov (ov_len es76 rfl) rfl ?_))))
  refine wl_ov (ov_geq rfl rfl) rfl ?_
  refine nn_ ?_
  refine gw_cond rfl (fun hh => ?_) (fun hh => ?_)
  ·have h7 : 7 ≤ ((mm : Nat) : Int) := by simpa using hh
   clear hh
   refine gw_exit ?_
   refine nx_then_exit ?_
   refine nx_blk_on rfl ?_
   refine nx_then_exit (nx_then_exit ?_)
   refine nx_blk_here ?_
   refine nx_then (sr_ ?_)
   have hfin : (prF cs sl l Q).2 = R := by rw [prF_full (i := i) (by rw [hpr]; dsimp only; omega), hpr]
   refine wl_look (R := ∃ A cc, v = .slice A rr cc) (fun wx hm => own_slice (hm.ownI 0 rfl)) ?_
   rintro ⟨Ao, co, rfl⟩
   refine mv_ rfl (sg_ rfl (sg_ rfl (nn_ ?_)))
   refine gw_ret ?_
   refine nx_ret2 rfl rfl rfl fun wx hm => ?_
   exact ⟨.inr ⟨hpe0, Ao, rr, co, rfl, by rw [hfin]; exact SlT.ofOwn sg_len (hm.ownI 0 rfl) hRl⟩, hm.g⟩
  have h7 : ¬ (7 ≤ ((mm : Nat) : Int)) := by simpa using hh
  clear hh
  refine gw_skip (nx_then (sr_ (mv_ rfl ?_)))
  refine wl_ov (ov_loads rz92 rfl (fun _ hm => hm.blkI 0 rfl) rfl rfl) rfl ?_
  refine wl_callgo (γ := Option Addr × Nat) (val := (fun g => .slice g.1 (mm + 1) g.2)) (φ := (fun g => True)) (fun g => ⟨.slice g.1 (mm + 1) g.2, 92, 6, mm + 1, (withB N (⟨x0, x1, x2, x3, x4, x5⟩ : Bk)).flatMap bkEnc⟩) rfl cb135 rfl rfl (fun wx hm => (with_kyO N A6 mm c6 x0 x1 x2 x3 x4 x5 wx (SlT.ofOwn bk_len (hm.ownI 1 rfl) hNl) (by omega)).mono fun _ _ ⟨A2, c2, he, ho, hg⟩ => ⟨(A2, c2), he, trivial, ho, hg⟩) ?_
  rintro ⟨A2, c2⟩ hphi
  dsimp only at hphi ⊢
  have hWl : (withB N (⟨x0, x1, x2, x3, x4, x5⟩ : Bk)).length = mm + 1 := by rw [withB_len, hNl]
  refine sg_ rfl (nn_ (sr_ (mv_ rfl (mv_ rfl (mv_ rfl ?_)))))
  refine wl_callx (γ := Int) (val := (fun g => .int .i64 g)) (φ := (fun g => FwOk cs sl (withB N (⟨x0, x1, x2, x3, x4, x5⟩ : Bk)) g)) (Y := (fun g => fun _ => True)) rfl cb134 rfl rfl (fun wx hm => (fewest_any cs A0 n0 c0 sl A1 n1 c1 (withB N (⟨x0, x1, x2, x3, x4, x5⟩ : Bk)) A2 (mm + 1) c2 wx (hm.fact 1 rfl).1 hco hn0 (hm.fact 2 rfl).1 hso hn1 (SlT.ofOwn bk_len (hm.ownI 0 rfl) hWl) (by omega) hcl hlo h30 hkw htw).mono fun _ _ ⟨v, he, hf, hg⟩ => ⟨v, he, hf, hg, trivial⟩) (fun _ => Lasts2.true_) ?_
  rintro fw hfw2
  have hcan2 : canB cs sl N (⟨x0, x1, x2, x3, x4, x5⟩ : Bk) = decide (0 ≤ fw) := (fw_iff hfw2).symm
  refine wl_ov (ov_geq rfl rfl) rfl ?_
  refine nn_ ?_
  refine gw_cond rfl (fun hh => ?_) (fun hh => ?_)
  ·have hv0 : 0 ≤ fw := by simpa using hh
   clear hh
   refine sr_ ?_
   have hst : prF cs sl l (Q.take (i + 1)) = ((withB N (⟨x0, x1, x2, x3, x4, x5⟩ : Bk)), R ++ [x0]) := by
    rw [hat]; unfold prS; dsimp only
    rw [if_neg (by omega), if_pos (by rw [hcan2]; exact decide_eq_true hv0)]
   refine mv_ rfl (sg_ rfl (nn_ (gw_region (mv_ rfl (fd_ fo92_0 rfl rfl (lk_ sc9 0 rfl rfl rfl ?_))))))
   refine wl_buildSlice (e := 9) (cs := [.string x0]) rfl (by kernel_rfl) rfl fun g6 => ?_
   refine wl_append (news := [.string x0]) 1 0 ap103 rfl rfl rfl rfl rfl rfl rfl (by omega) (by unfold maxLen; omega) rfl rfl fun u1 hu1 => ?_
   rw [show R.flatMap sgEnc ++ ([.string x0] : List Value) = (R ++ [x0]).flatMap sgEnc from by simp [sgEnc]]
   refine sg_ rfl (wl_nil (nx_blk_nrm (nx_then (gw_region (ad_ rfl rfl (mv_ rfl (wl_nil ?_)))))))
   exact nx_round (i + 1, (withB N (⟨x0, x1, x2, x3, x4, x5⟩ : Bk)), R ++ [x0], mm + 1, rr + 1, A2, c2, u1) ⟨by dsimp only; omega, hst, hWl, by simp [hRl], by dsimp only; omega, by dsimp only; omega, hkw, htw⟩ (by dsimp only; omega) ⟨rfl, rfl, rfl, rfl, rfl, rfl, rfl, rfl, (some_int (by omega)), trivial⟩ (fun _ hm => hm.pick [2, 3] [1, 0, 3] [1, 2, 3, 4, 5] rfl rfl)
  have hv0 : ¬ (0 ≤ fw) := by simpa using hh
  clear hh
  refine gw_skip (nx_blk_nrm (nx_then (gw_region ?_)))
  have hst : prF cs sl l (Q.take (i + 1)) = (N, R) := by
   rw [hat]; unfold prS; dsimp only
   rw [if_neg (by omega), if_neg (by rw [hcan2, decide_eq_false hv0]; decide)]
  refine ad_ rfl rfl (mv_ rfl (wl_nil ?_))
  exact nx_round (i + 1, N, R, mm, rr, A6, c6, v) ⟨by dsimp only; omega, hst, hNl, hRl, hm7, by dsimp only; omega, hNk, hNt⟩ (by dsimp only; omega) ⟨rfl, rfl, rfl, rfl, rfl, rfl, rfl, rfl, (some_int (by omega)), trivial⟩ (fun _ hm => hm.pick [1, 2] [1, 2, 3] [1, 2, 3, 4, 5] rfl rfl)
 have hi : ¬ (((i : Nat) : Int) < ((p : Nat) : Int)) := by simpa using hh
 clear hh
 refine gw_exit ?_
 refine nx_then_exit (nx_then_exit ?_)
 refine nx_blk_here ?_
 refine nx_then (sr_ ?_)
 have hfin : (prF cs sl l Q).2 = R := by rw [show Q.take i = Q from List.take_of_length_le (by omega)] at hpr; rw [hpr]
 refine wl_look (R := ∃ A cc, v = .slice A rr cc) (fun wx hm => own_slice (hm.ownI 0 rfl)) ?_
 rintro ⟨Ao, co, rfl⟩
 refine mv_ rfl (sg_ rfl (sg_ rfl (nn_ ?_)))
 refine gw_ret ?_
 refine nx_ret2 rfl rfl rfl fun wx hm => ?_
 exact ⟨.inr ⟨hpe0, Ao, rr, co, rfl, by rw [hfin]; exact SlT.ofOwn sg_len (hm.ownI 0 rfl) hRl⟩, hm.g⟩
end Go.Proofs.YtempjmpfdniecaaGreatDoor
namespace Go.Proofs.YtempjmpfdniecaaGreatDoor
open Go.RowKit
theorem legs_at {fr : Int} {l : List Lg} {k : Nat} {g : Lg} (h : l[k]? = some g) :
    legsE fr l (l.length - k) = if legE fr (prevOf l k) (decide (k + 1 = l.length)) g = 0 then legsE fr l (l.length - (k + 1)) else legE fr (prevOf l k) (decide (k + 1 = l.length)) g := by
  have hk := (List.getElem?_eq_some_iff.1 h).1
  obtain ⟨m, hm⟩ : ∃ m, l.length - k = m + 1 := ⟨l.length - k - 1, by omega⟩
  have hm2 : l.length - (k + 1) = m := by omega
  have hm3 : l.length - (m + 1) = k := by omega
  rw [hm, hm2]
  simp only [legsE, hm3, h]
  have : decide (m = 0) = decide (k + 1 = l.length) := by
    by_cases h : k + 1 = l.length <;> simp [h] <;> omega
  rw [this]
def HrOk (key driver : ByteArray) (l : List Lg) : Prop := key.size ≤ 1000000 ∧ driver.size ≤ 1000000 ∧ ∀ g ∈ l, LgOk g
theorem hireE_stop {key driver : ByteArray} {fr to_ : Int} {l : List Lg} {e : Int} (h : e = firstE [whenE (!keyB key || !keyB driver) 5, timeE fr to_]) (hne : e ≠ 0) : hireE ⟨key, driver, fr, to_, l⟩ = e := by
  unfold hireE
  simp only [firstE] at h ⊢
  split
  · rename_i h1
    rw [if_pos h1] at h
    split
    · rename_i h2
      rw [if_pos h2] at h
      exact absurd h hne
    · rename_i h2
      rw [if_neg h2] at h
      exact h.symm
  · rename_i h1
    rw [if_neg h1] at h
    exact h.symm
theorem firstE_pad (X : Int) : firstE [0, 0, X] = X := by
  show firstE [X] = X
  by_cases h : X = 0
  · rw [h]; rfl
  · simp [firstE, h]
theorem hireE_pass {key driver : ByteArray} {fr to_ : Int} {l : List Lg} (h : 0 = firstE [whenE (!keyB key || !keyB driver) 5, timeE fr to_]) : hireE ⟨key, driver, fr, to_, l⟩ = if l.length = 0 then 3 else if 20 < l.length then 2 else legsE fr l l.length := by
  have := firstE_two h.symm
  unfold hireE
  simp only [this.1, this.2]
  exact firstE_pad _
set_option maxRecDepth 100000 in
set_option maxHeartbeats 4000000 in
theorem hcheck_any (key driver : ByteArray) (fr to_ : Int) (l : List Lg) (A : Option Addr) (n c : Nat) (w : World) (hl : SlT lgEnc 9 135 w A n l) (hok : HrOk key driver l) (hn : n ≤ 1000000) :
    Calls Tryz.prog 12 #[.agg #[.string key, .string driver, .int .i64 fr, .int .i64 to_, .slice A n c]] w (GotE w (hireE ⟨key, driver, fr, to_, l⟩)) := by
  obtain ⟨E1, hE1⟩ : ∃ E, E = firstE [whenE (!keyB key || !keyB driver) 5, timeE fr to_] := ⟨_, rfl⟩
  have Hstop := Lib.hid (fun (h : E1 ≠ 0) => hireE_stop (l := l) hE1 h)
  have Hpass := Lib.hid (fun (h : E1 = 0) => hireE_pass (l := l) (h.symm.trans hE1))
  have Hl := Lib.hid hl.len
  have cK : ∀ w, Calls Tryz.prog 69 #[.string key] w fun e w' => e = .returned (.bool (keyB key)) ∧ w' = w := fun w => flipw (isKey_any _ _ (by have := hok.1; omega))
  have cD : ∀ w, Calls Tryz.prog 69 #[.string driver] w fun e w' => e = .returned (.bool (keyB driver)) ∧ w' = w := fun w => flipw (isKey_any _ _ (by have := hok.2.1; omega))
  have Hok := Lib.hid hok.2.2
  generalize keyB key = K at cK hE1
  generalize keyB driver = D at cD hE1
  obtain ⟨R, hR⟩ : ∃ R, R = hireE ⟨key, driver, fr, to_, l⟩ := ⟨_, rfl⟩
  rw [← hR] at Hstop Hpass ⊢
  have CK := Lib.hid cK
  have CD := Lib.hid cD
  have HE1 := Lib.hid hE1
  clear cK cD hE1 hR hok
  obtain ⟨T, hT⟩ : ∃ T, T = timeE fr to_ := ⟨_, rfl⟩
  have cT : ∀ w, Calls Tryz.prog 70 #[.agg #[.int .i64 fr, .int .i64 to_]] w (GotE w T) := fun w => by rw [hT]; exact time_any _ _ _
  have CT := Lib.hid cT
  rw [← hT] at HE1
  clear cT hT
  go_enter Tryz.func12, Tryz.ntmps12
  go_wp2_with fail
  have hB : Blk (w.alloc (.cells #[.string key, .string driver, .int .i64 fr, .int .i64 to_, .slice A n c] 30)) w.heap.size 30 [.string key, .string driver, .int .i64 fr, .int .i64 to_, .slice A n c] := Blk.at_ w rfl _ _
  have k0 := hB.cell_of (i := 0) (v := .string key) rfl
  have k1 := hB.cell_of (i := 1) (v := .string driver) rfl
  have k2 := hB.cell_of (i := 2) (v := .int .i64 fr) rfl
  have k3 := hB.cell_of (i := 3) (v := .int .i64 to_) rfl
  go_upto_region 1 with fail
  go_cut [3] (fun v wx => v = .int .i64 E1 ∧ (w.alloc (.cells #[.string key, .string driver, .int .i64 fr, .int .i64 to_, .slice A n c] 30)).grownBy wx none)
  case first =>
    cases K
    · first | go_region_with (first
        | (go_at_call 70; refine (CT.out _).mono ?_; rintro e w4 ⟨rfl, hg4⟩)
        | (go_at_call 69; with_reducible refine (CK.out _).mono ?_; rintro e w3 ⟨rfl, rfl⟩)
        | (go_at_call 69; with_reducible refine (CD.out _).mono ?_; rintro e w3 ⟨rfl, rfl⟩)
        | (go_at_call 68; refine (when_any _ _ _).mono ?_; rintro e w5 ⟨rfl, rfl⟩)
        | (go_at_call 67; refine (first_any [whenE true 5, T] _ _ _ _ (Blk.at_ _ rfl _ _) (by simp)).mono ?_; rintro e w6 ⟨rfl, rfl⟩)) | fail
      all_goals
        go_wp2_with fail
        go_meet
        exact ⟨ret_val (by rw [HE1.out]; rfl), grow_alloc (grow_trans (grow_drew (World.grownBy.refl _ _)) hg4) _⟩
    · go_region_held3 (fun wx => wx.cell? ⟨w.heap.size, 0, none⟩ = some (.string key) ∧ wx.cell? ⟨w.heap.size, 1, none⟩ = some (.string driver) ∧ wx.cell? ⟨w.heap.size, 2, none⟩ = some (.int .i64 fr) ∧ wx.cell? ⟨w.heap.size, 3, none⟩ = some (.int .i64 to_))
        (first
          | exact ⟨k0, k1, k2, k3⟩
          | exact q4
          | exact q5 _)
        (first
          | (go_at_call 70; refine (CT.out _).mono ?_; rintro e w4 ⟨rfl, hg4⟩; have hb2 := (hB.drewN 1).grown hg4 (by simp); have q5 := fun o => And.intro ((hb2.alloc o).cell_of (i := 0) (v := .string key) rfl) (And.intro ((hb2.alloc o).cell_of (i := 1) (v := .string driver) rfl) (And.intro ((hb2.alloc o).cell_of (i := 2) (v := .int .i64 fr) rfl) ((hb2.alloc o).cell_of (i := 3) (v := .int .i64 to_) rfl))); have q4 := And.intro (hb2.cell_of (i := 0) (v := .string key) rfl) (And.intro (hb2.cell_of (i := 1) (v := .string driver) rfl) (And.intro (hb2.cell_of (i := 2) (v := .int .i64 fr) rfl) (hb2.cell_of (i := 3) (v := .int .i64 to_) rfl))))
          | (go_at_call 69; with_reducible refine (CK.out _).mono ?_; rintro e w3 ⟨rfl, rfl⟩)
          | (go_at_call 69; with_reducible refine (CD.out _).mono ?_; rintro e w3 ⟨rfl, rfl⟩)
          | (go_at_call 68; refine (when_any _ _ _).mono ?_; rintro e w5 ⟨rfl, rfl⟩)
          | (go_at_call 67; refine (first_any [whenE (!D) 5, T] _ _ _ _ (Blk.at_ _ rfl _ _) (by simp)).mono ?_; rintro e w6 ⟨rfl, rfl⟩))
      all_goals
        go_wp2_with fail
        go_meet
        exact ⟨ret_val (by rw [HE1.out]; rfl), grow_alloc (grow_trans (grow_drew (World.grownBy.refl _ _)) hg4) _⟩
  case rest =>
    obtain ⟨rfl, hg1⟩ := hcut
    obtain ⟨w1, hw1⟩ : ∃ w1 : World, w1 = wc := ⟨_, rfl⟩
    rw [← hw1] at hg1 ⊢
    clear hw1 k0 k1 k2 k3
    have hb := hB.grown hg1 (by simp)
    have hgw : w.grownBy w1 none := grow_trans (grow_alloc (World.grownBy.refl _ _) _) hg1
    clear hg1 hB
    by_cases h0 : E1 = 0
    · have HP := Lib.hid (Hpass.out h0)
      subst h0
      have k4 := hb.cell_of (i := 4) (v := .slice A n c) rfl
      by_cases hn0 : n = 0
      · have hq : ((n : Int) == 0) = true := by simpa using hn0
        have HF := Lib.hid (show R = 3 by rw [HP.out, if_pos (by rw [Hl.out]; exact hn0)])
        clear hn0
        go_wp2_with fail
        go_ret
        exact ⟨ret_int HF.out.symm, hgw⟩
      · have hq : ((n : Int) == 0) = false := by simpa using hn0
        by_cases h20 : 20 < n
        · have hq2 : decide ((20 : Int) < (n : Int)) = true := by simp; omega
          have hq3 : decide (20 < n) = true := by simpa using h20
          have HF := Lib.hid (show R = 2 by rw [HP.out, if_neg (by rw [Hl.out]; exact hn0), if_pos (by rw [Hl.out]; exact h20)])
          clear hn0
          go_wp2_with fail
          go_ret
          exact ⟨ret_int HF.out.symm, hgw⟩
        · have hq2 : decide ((20 : Int) < (n : Int)) = false := by simp; omega
          have hq3 : decide (20 < n) = false := by simpa using h20
          have HF := Lib.hid (show R = legsE fr l (l.length - 0) by rw [HP.out, if_neg (by rw [Hl.out]; exact hn0), if_neg (by rw [Hl.out]; exact h20)]; rfl)
          clear hn0 HP
          have hn20 : n ≤ 20 := by omega
          go_wp2_with fail
          go_loopw [38] (fun i wr => ∃ k : Nat, k ≤ n ∧ i = .int .i64 k ∧ R = legsE fr l (l.length - k) ∧ w1.grownBy wr none) (fun i _ => n - (intOf i).toNat)
          case atStart => exact ⟨0, Nat.zero_le _, rfl, HF.out, World.grownBy.refl _ _⟩
          case round =>
            obtain ⟨k, hk, rfl, hE, hgr⟩ := hrel
            have HE := Lib.hid hE; clear hE
            by_cases hlt : k < n
            · have hlr := hl.grow0 (grow_trans hgw hgr)
              obtain ⟨g, hg⟩ : ∃ g, l[k]? = some g := ⟨_, List.getElem?_eq_getElem (by have := Hl.out; omega)⟩
              have hat := legs_at (fr := fr) hg
              obtain ⟨E, hEE⟩ : ∃ E, E = legE fr (prevOf l k) (decide (k + 1 = n)) g := ⟨_, rfl⟩
              rw [Hl.out, ← hEE] at hat
              rw [Hl.out] at HE
              have Hat := Lib.hid hat; clear hat
              have HEE := Lib.hid hEE; clear hEE
              have hbr := hb.grown hgr (by simp)
              have c0 := hbr.cell_of (i := 0) (v := .string key) rfl
              have c1 := hbr.cell_of (i := 1) (v := .string driver) rfl
              have c2 := hbr.cell_of (i := 2) (v := .int .i64 fr) rfl
              have c3 := hbr.cell_of (i := 3) (v := .int .i64 to_) rfl
              have c4 := hbr.cell_of (i := 4) (v := .slice A n c) rfl
              have Hg := Lib.hid hg
              clear hg
              go_wp2_with fail
              refine (checkLeg_any key driver fr to_ l A n c k g wr hlr Hg.out Hok.out hn).mono ?_
              rintro e w2 ⟨rfl, hg2⟩
              rw [← HEE.out]
              by_cases hE0 : E = 0
              · have HN := Lib.hid (show R = legsE fr l (n - (k + 1)) by rw [HE.out, Hat.out, if_pos hE0])
                subst hE0
                go_wp2_with fail
                go_roundw
                case rel => exact ⟨k + 1, by omega, by go_num, by rw [HN.out, Hl.out], grow_trans hgr hg2⟩
                case measure => simp [intOf]; omega
              · have hne : (E != 0) = true := by simpa using hE0
                have HN := Lib.hid (show R = E by rw [HE.out, Hat.out, if_neg hE0])
                clear hE0
                go_wp2_with fail
                go_ret
                exact ⟨ret_int HN.out.symm, grow_trans hgw (grow_trans hgr hg2)⟩
            · have HN := Lib.hid (show R = 0 by rw [HE.out, Hl.out, show n - k = 0 by omega]; rfl)
              go_wp2_with fail
              go_ret
              exact ⟨ret_int HN.out.symm, grow_trans hgw hgr⟩
    · have hne : (E1 != 0) = true := by simpa using h0
      have HR := Lib.hid (Hstop.out h0)
      clear h0
      go_wp2_with fail
      go_ret
      exact ⟨ret_int HR.out.symm, hgw⟩
end Go.Proofs.YtempjmpfdniecaaGreatDoor
namespace Go.Proofs.YtempjmpfdniecaaGreatDoor
open Go.RowKit
/-- What hire.made gives: the hire if it is right, else nothing. -/
def madeV (key driver : ByteArray) (fr to_ : Int) (A : Option Addr) (n c : Nat) (e : Int) : Value :=
  if e = 0 then .agg #[.string key, .string driver, .int .i64 fr, .int .i64 to_, .slice A n c] else .agg #[.string ⟨#[]⟩, .string ⟨#[]⟩, .int .i64 0, .int .i64 0, .slice none 0 0]
def GotVE (w : World) (v : Value) (e : Int) (d : Ending) (w' : World) : Prop := d = .returned (.tuple #[v, .int .i64 e]) ∧ w.grownBy w' none
theorem info_hr : (Tryz.prog.info? 30).map (·.size) = some 5 := by kernel_rfl
/-- Two results: a struct in a known block, and a number. -/
theorem ret_blk_tmp {P : Program} {fn : Func} {R : Ending → World → Prop} {a : Act} {w : World} {p u : Tmp} {ty : TypeId} (h : fn.results = #[.cell p ty, .tmp u]) (g : Nat) (t : TypeId) (cs : List Value) (d : TypeDesc) (hb : Blk w g t cs)
    (hp : a.tmps.getD p undef = .pointer (some ⟨g, 0, none⟩)) (v : Value) (hv : a.tmps.getD u undef = v) (hu : P.underlying ty = some d) (hd : d.isRow = true) (n : Nat) (hi : (P.info? ty).map (·.size) = some n) (hn : cs.length = n) (hdf : a.defers = [])
    (hR : R (.returned (.tuple #[.agg cs.toArray, v])) w) : bodyPost P fn R .ret a w := by
  refine bodyPost_ret (?_ : (results fn a.tmps).run P w = .ok (.tuple #[.agg cs.toArray, v]) w) hdf hR
  have hl := run_loadVar_row (P := P) w g t ty cs.toArray (0, 0) d hb hu (by cases d <;> simp_all [TypeDesc.isRow]) (by simpa [hn] using hi)
  rw [results_cell_tmp h]
  simp only [hp, hv]
  simp only [asAddr, Sem.run_pure, Result.andThen_ok]
  rw [hl]
  rfl
set_option maxRecDepth 100000 in
set_option maxHeartbeats 1000000 in
theorem made_any (key driver : ByteArray) (fr to_ : Int) (l : List Lg) (A : Option Addr) (n c : Nat) (w : World) (hl : SlT lgEnc 9 135 w A n l) (hok : HrOk key driver l) (hn : n ≤ 1000000) :
    Calls Tryz.prog 90 #[.agg #[.string key, .string driver, .int .i64 fr, .int .i64 to_, .slice A n c]] w (GotVE w (madeV key driver fr to_ A n c (hireE ⟨key, driver, fr, to_, l⟩)) (hireE ⟨key, driver, fr, to_, l⟩)) := by
  obtain ⟨E, hE⟩ : ∃ E, E = hireE ⟨key, driver, fr, to_, l⟩ := ⟨_, rfl⟩
  rw [← hE]
  have HE := Lib.hid hE
  clear hE
  go_enter Tryz.func90, Tryz.ntmps90
  go_wp2_with fail
  refine (hcheck_any key driver fr to_ l A n c _ ((hl.alloc _).alloc _) hok hn).mono ?_
  rintro e w1 ⟨rfl, hg1⟩
  rw [← HE.out]
  have hb1 : Blk w1 (w.heap.size + 1) 30 [.string ⟨#[]⟩, .string ⟨#[]⟩, .int .i64 0, .int .i64 0, .slice none 0 0] := (Blk.at_ (w.alloc _) (by simp) _ _).grown hg1 (by simp)
  have hb0 : Blk w1 w.heap.size 30 [.string key, .string driver, .int .i64 fr, .int .i64 to_, .slice A n c] := ((Blk.at_ w rfl _ _).alloc _).grown hg1 (by simp)
  have hgw : w.grownBy w1 none := grow_trans (grow_alloc (grow_alloc (World.grownBy.refl _ _) _) _) hg1
  have hz : ∀ k, some (w.heap.size + 1) = some k → w.heap.size ≤ k := fun k h => by cases h; omega
  clear hg1
  by_cases h0 : E = 0
  · have HV := Lib.hid (show madeV key driver fr to_ A n c E = .agg #[.string key, .string driver, .int .i64 fr, .int .i64 to_, .slice A n c] by rw [h0]; rfl)
    subst h0
    go_wp2_with (first
      | (with_reducible refine wpList_load_all rfl 30 (.tmp 1) rfl w.heap.size _ _ _ hb0 rfl Tryz.underlying30 rfl 5 info_hr rfl ?_)
      | (with_reducible refine wpList_store_all rfl 30 (.tmp 2) (.tmp 11) rfl (w.heap.size + 1) _ _ [.string key, .string driver, .int .i64 fr, .int .i64 to_, .slice A n c] hb1 rfl rfl 5 info_hr rfl rfl (by simp [Value.oneCell']) ?_
         intro w2 hb2 hg2))
    refine ret_blk_tmp (p := 2) (u := 3) (ty := 30) rfl (w.heap.size + 1) _ _ _ hb2 rfl (.int .i64 0) rfl Tryz.underlying30 rfl 5 info_hr rfl rfl ?_
    exact ⟨by rw [HV.out], grow_own hgw hg2 hz⟩
  · have hne : (E != 0) = true := by simpa using h0
    have HV := Lib.hid (show madeV key driver fr to_ A n c E = .agg #[.string ⟨#[]⟩, .string ⟨#[]⟩, .int .i64 0, .int .i64 0, .slice none 0 0] by unfold madeV; rw [if_neg h0])
    clear h0
    go_wp2_with (first
      | (with_reducible refine wpList_store_all rfl 30 (.tmp 2) (.tmp 9) rfl (w.heap.size + 1) _ _ [.string ⟨#[]⟩, .string ⟨#[]⟩, .int .i64 0, .int .i64 0, .slice none 0 0] hb1 rfl rfl 5 info_hr rfl rfl (by simp [Value.oneCell']) ?_
         intro w2 hb2 hg2))
    refine ret_blk_tmp (p := 2) (u := 3) (ty := 30) rfl (w.heap.size + 1) _ _ _ hb2 rfl (.int .i64 E) rfl Tryz.underlying30 rfl 5 info_hr rfl rfl ?_
    exact ⟨by rw [HV.out], grow_own hgw hg2 hz⟩
def startLeg (veh : ByteArray) (r : Rd) : Lg := ⟨veh, r, ⟨-1, ⟨#[]⟩, 0, 0⟩⟩
set_option maxRecDepth 100000 in
set_option maxHeartbeats 1000000 in
theorem start_any (key driver : ByteArray) (fr to_ : Int) (veh : ByteArray) (r : Rd) (w : World) (hk : key.size ≤ 1000000) (hd : driver.size ≤ 1000000) (hv : veh.size ≤ 1000000) (hr : RdOk r) :
    Calls Tryz.prog 96 #[.string key, .string driver, .agg #[.int .i64 fr, .int .i64 to_], .string veh, .agg (rdCells r).toArray] w (fun e w' => ∃ A,
      e = .returned (.tuple #[madeV key driver fr to_ A 1 1 (hireE ⟨key, driver, fr, to_, [startLeg veh r]⟩), .int .i64 (hireE ⟨key, driver, fr, to_, [startLeg veh r]⟩)]) ∧ SlT lgEnc 9 135 w' A 1 [startLeg veh r] ∧ w.grownBy w' none) := by
  obtain ⟨a1, s1, m1, f1⟩ := r
  have hok : HrOk key driver [startLeg veh ⟨a1, s1, m1, f1⟩] := ⟨hk, hd, fun g hg => by
    simp only [List.mem_singleton] at hg
    subst hg
    exact ⟨hv, hr, (by decide : (⟨#[]⟩ : ByteArray).size ≤ 1000000)⟩⟩
  show Calls Tryz.prog 96 #[.string key, .string driver, .agg #[.int .i64 fr, .int .i64 to_], .string veh, .agg #[.int .i64 a1, .string s1, .int .i64 m1, .int .i64 f1]] w _
  have Hok := Lib.hid hok
  clear hok
  obtain ⟨E, hE⟩ : ∃ E, E = hireE ⟨key, driver, fr, to_, [startLeg veh ⟨a1, s1, m1, f1⟩]⟩ := ⟨_, rfl⟩
  rw [← hE]
  have HE := Lib.hid hE
  clear hE
  go_enter Tryz.func96, Tryz.ntmps96
  go_wp2_with fail
  refine (made_any key driver fr to_ [startLeg veh ⟨a1, s1, m1, f1⟩] (some ⟨w.heap.size + 3, 0, none⟩) 1 1 _ (SlT.ofBlk (l := [startLeg veh ⟨a1, s1, m1, f1⟩]) lg_len (Blk.at_ _ (by simp) _ _)) Hok.out (by omega)).mono ?_
  rintro e w1 ⟨rfl, hg1⟩
  rw [← HE.out]
  clear HE Hok
  have hb1 : Blk w1 (w.heap.size + 2) 30 [.string ⟨#[]⟩, .string ⟨#[]⟩, .int .i64 0, .int .i64 0, .slice none 0 0] := ((Blk.at_ ((w.alloc _).alloc _) (by simp) _ _).alloc _).grown hg1 (by simp)
  have hl1 : SlT lgEnc 9 135 w1 (some ⟨w.heap.size + 3, 0, none⟩) 1 [startLeg veh ⟨a1, s1, m1, f1⟩] := (SlT.ofBlk (l := [startLeg veh ⟨a1, s1, m1, f1⟩]) lg_len (Blk.at_ (((w.alloc _).alloc _).alloc _) (by simp) _ _)).grow0 hg1
  have hgw : w.grownBy w1 none := grow_trans (grow_alloc (grow_alloc (grow_alloc (grow_alloc (World.grownBy.refl _ _) _) _) _) _) hg1
  have hz : ∀ k, some (w.heap.size + 2) = some k → w.heap.size ≤ k := fun k h => by cases h; omega
  clear hg1
  by_cases h0 : E = 0
  · have hV : madeV key driver fr to_ (some ⟨w.heap.size + 3, 0, none⟩) 1 1 E = .agg #[.string key, .string driver, .int .i64 fr, .int .i64 to_, .slice (some ⟨w.heap.size + 3, 0, none⟩) 1 1] := by rw [h0]; rfl
    rw [hV]
    have HV := Lib.hid hV
    clear h0 hV
    go_wp2_with (first
      | (with_reducible refine wpList_store_all rfl 30 (.tmp 10) (.tmp 22) rfl (w.heap.size + 2) _ _ [.string key, .string driver, .int .i64 fr, .int .i64 to_, .slice (some ⟨w.heap.size + 3, 0, none⟩) 1 1] hb1 rfl rfl 5 info_hr rfl rfl (by simp [Value.oneCell']) ?_
         intro w2 hb2 hg2))
    refine ret_blk_tmp (p := 10) (u := 11) (ty := 30) rfl (w.heap.size + 2) _ _ _ hb2 rfl (.int .i64 E) rfl Tryz.underlying30 rfl 5 info_hr rfl rfl ?_
    exact ⟨some ⟨w.heap.size + 3, 0, none⟩, by rw [HV.out], hl1.grown hg2 hb1 (by decide), grow_own hgw hg2 hz⟩
  · have hV : madeV key driver fr to_ (some ⟨w.heap.size + 3, 0, none⟩) 1 1 E = .agg #[.string ⟨#[]⟩, .string ⟨#[]⟩, .int .i64 0, .int .i64 0, .slice none 0 0] := by unfold madeV; rw [if_neg h0]
    rw [hV]
    have HV := Lib.hid hV
    clear h0 hV
    go_wp2_with (first
      | (with_reducible refine wpList_store_all rfl 30 (.tmp 10) (.tmp 22) rfl (w.heap.size + 2) _ _ [.string ⟨#[]⟩, .string ⟨#[]⟩, .int .i64 0, .int .i64 0, .slice none 0 0] hb1 rfl rfl 5 info_hr rfl rfl (by simp [Value.oneCell']) ?_
         intro w2 hb2 hg2))
    refine ret_blk_tmp (p := 10) (u := 11) (ty := 30) rfl (w.heap.size + 2) _ _ _ hb2 rfl (.int .i64 E) rfl Tryz.underlying30 rfl 5 info_hr rfl rfl ?_
    exact ⟨some ⟨w.heap.size + 3, 0, none⟩, by rw [HV.out], hl1.grown hg2 hb1 (by decide), grow_own hgw hg2 hz⟩
end Go.Proofs.YtempjmpfdniecaaGreatDoor
namespace Go.Proofs.YtempjmpfdniecaaGreatDoor
open Go.RowKit
set_option maxHeartbeats 400000 in
theorem formed_nil (w : World) : Calls Tryz.prog 253 #[.slice none 0 0] w (GotE w 0) := by
  go_enter Tryz.func253, Tryz.ntmps253
  go_wp2_with fail
  go_loopw [10] (fun i wr => i = .int .i64 0 ∧ wr = w) (fun _ _ => 0)
  case atStart => exact ⟨rfl, rfl⟩
  case round =>
    obtain ⟨rfl, rfl⟩ := hrel
    go_wp2_with fail
    go_ret
    exact ⟨rfl, World.grownBy.refl _ _⟩
set_option maxHeartbeats 400000 in
theorem checkOdds_nil (w : World) : Calls Tryz.prog 191 #[.slice none 0 0] w (GotE w 0) := by
  go_enter Tryz.func191, Tryz.ntmps191
  go_wp2_with fail
  refine (formed_nil _).mono ?_
  rintro e w1 ⟨rfl, hg1⟩
  go_wp2_with fail
  refine (when_any _ _ _).mono ?_
  rintro e w2 ⟨rfl, rfl⟩
  go_wp2_with fail
  refine (first_any [0, whenE false 2] _ _ _ _ (Blk.at_ _ rfl _ _) (by simp)).mono ?_
  rintro e w6 ⟨rfl, rfl⟩
  go_wp2_with fail
  go_ret
  exact ⟨rfl, grow_alloc hg1 _⟩
set_option maxHeartbeats 400000 in
theorem spread_nil (w : World) : Calls Tryz.prog 192 #[.slice none 0 0] w (fun e w' => ∃ g c, e = .returned (.tuple #[.slice (some ⟨g, 0, none⟩) 1 c, .int .i64 1]) ∧ g < w'.heap.size ∧ w'.cell? ⟨g, 0, none⟩ = some (.int .i64 1) ∧ w.grownBy w' none) := by
  go_enter Tryz.func192, Tryz.ntmps192
  go_wp2_with fail
  go_loopw [4, 5, 14] (fun s n i wr => s = .slice (some ⟨w.heap.size, 0, none⟩) 1 1 ∧ n = .int .i64 1 ∧ i = .int .i64 0 ∧ wr = w.alloc (.cells #[.int .i64 1] 3)) (fun _ _ _ _ => 0)
  case atStart => exact ⟨rfl, rfl, rfl, rfl⟩
  case round =>
    obtain ⟨rfl, rfl, rfl, rfl⟩ := hrel
    go_wp2_with fail
    go_ret2
    exact ⟨_, _, rfl, by simp, (Blk.at_ w rfl 3 [.int .i64 1]).cell_of rfl, grow_alloc (World.grownBy.refl _ _) _⟩
theorem info_fr : (Tryz.prog.info? 196).map (·.size) = some 2 := by kernel_rfl
set_option maxRecDepth 100000 in
set_option maxHeartbeats 400000 in
theorem lowest_one (w : World) : Calls Tryz.prog 193 #[.int .i64 1, .int .i64 1] w (fun e w' => e = .returned (.agg #[.int .i64 1, .int .i64 1]) ∧ w.grownBy w' none) := by
  go_enter Tryz.func193, Tryz.ntmps193
  go_wp2_with fail
  go_loopw [5, 6] (fun a b wr => a = .int .i64 1 ∧ (b = .int .i64 0 ∨ b = .int .i64 1) ∧ w.grownBy wr none ∧ Blk wr w.heap.size 196 [.int .i64 0, .int .i64 0]) (fun _ b _ => (intOf b).toNat)
  case atStart => exact ⟨rfl, .inr rfl, grow_alloc (World.grownBy.refl _ _) _, Blk.at_ w rfl _ _⟩
  case round =>
    obtain ⟨rfl, hk, hgr, hb⟩ := hrel
    rcases hk with rfl | rfl
    · go_wp2_with fail
      refine wp_region_still_tail 7 (by kernel_rfl) (by kernel_rfl) ?_
      change wpStill _ _ (World.drew _) _ _ _
      simp only [List.take_succ_cons, List.take_zero, List.drop_succ_cons, List.drop_zero]
      repeat still_step
      refine wpStill_nil ?_
      change wpList _ _ _ _ _ (World.drew _)
      go_wp2_with (with_reducible refine wpList_store_all rfl 196 (.tmp 4) (.tmp 24) rfl w.heap.size _ _ [.int .i64 1, .int .i64 1] hb.drew rfl rfl 2 info_fr rfl rfl (by simp [Value.oneCell']) ?_
                   intro w2 hb2 hg2)
      refine ret_blk (p := 4) (ty := 196) rfl w.heap.size _ _ _ hb2 rfl Tryz.underlying196 rfl 2 info_fr rfl rfl ?_
      exact ⟨rfl, grow_own (grow_drew hgr) hg2 (fun k h => by cases h; exact Nat.le_refl _)⟩
    · go_wp2_with fail
      go_quiet (fail)
      go_wp2_with fail
      go_roundw
      case rel => exact ⟨rfl, .inl rfl, grow_drewN hgr _, hb.drewN _⟩
      case measure => simp [intOf]
set_option maxRecDepth 100000 in
set_option maxHeartbeats 1000000 in
theorem bspread_nil (w : World) : Calls Tryz.prog 95 #[.slice none 0 0] w (fun e w' => ∃ A c, e = .returned (.tuple #[.slice A 1 c, .int .i64 0]) ∧ w.grownBy w' none) := by
  go_enter Tryz.func95, Tryz.ntmps95
  go_wp2_with fail
  refine (checkOdds_nil _).mono ?_
  rintro e w1 ⟨rfl, hg1⟩
  go_wp2_with fail
  refine (spread_nil _).mono ?_
  rintro e w2 ⟨g, c, rfl, hlt, hc, hg2⟩
  have hgw : w.grownBy w2 none := grow_trans hg1 hg2
  clear hg1 hg2
  go_wp2_with fail
  go_loopw [7, 22] (fun s i wr => w2.grownBy wr none ∧ ((i = .int .i64 0 ∧ s = .slice none 0 0) ∨ (i = .int .i64 1 ∧ ∃ A c, s = .slice A 1 c))) (fun _ i _ => 1 - (intOf i).toNat)
  case atStart => exact ⟨World.grownBy.refl _ _, .inl ⟨rfl, rfl⟩⟩
  case round =>
    obtain ⟨hgr, hs⟩ := hrel
    rcases hs with ⟨rfl, rfl⟩ | ⟨rfl, A, c', rfl⟩
    · have hc1 : wr.cell? ⟨g, 0, none⟩ = some (.int .i64 1) := (World.cell?_of_block (hgr.block g hlt (by simp))).trans hc
      go_wp2_with fail
      refine (lowest_one _).mono ?_
      rintro e w3 ⟨rfl, hg3⟩
      go_wp2_with fail
      go_roundw
      case rel => exact ⟨grow_drew (grow_alloc (grow_alloc (grow_trans hgr hg3) _) _), .inr ⟨rfl, _, _, rfl⟩⟩
      case measure => simp [intOf]
    · go_wp2_with fail
      go_ret2
      exact ⟨_, _, rfl, grow_trans hgw hgr⟩
end Go.Proofs.YtempjmpfdniecaaGreatDoor
namespace Go.Proofs.YtempjmpfdniecaaGreatDoor
open Go.RowKit
theorem timeE_okT {a b : Int} (h : timeE a b = 0) : 0 ≤ a ∧ a < b ∧ b ≤ 5761439 := by
  unfold timeE at h
  split at h
  · cases h
  · omega
theorem tdays_any (fr tt : Int) (w : World) :
  Calls Tryz.prog 93 #[.agg #[.int .i64 fr, .int .i64 tt]] w (fun e w' => e = .returned (.tuple #[.int .i64 (if timeE fr tt = 0 then daysV fr tt else 0), .int .i64 (timeE fr tt)]) ∧ w.grownBy w' none) := by
 refine gw_enter ⟨12, w, none, []⟩ Tryz.func93 rfl Tryz.ntmps93 rfl (mem0 (X := []) allF_nil allL_nil) ?_
 refine sr_ ?_
 refine wl_box rfl rfl rfl fun g1 => ?_
 refine sg_ rfl (sg_ rfl (nn_ (gw_seq (sr_ ?_))))
 refine wl_ov (ov_loads rz27 rfl (fun _ hm => hm.blkI 0 rfl) rfl rfl) rfl ?_
 refine wl_callv rfl cb70 rfl rfl (fun wx hm => (time_any _ _ wx)) ?_
 refine sg_ rfl (nn_ (sr_ (mv_ rfl (wl_ov (ov_neq rfl rfl) rfl (nn_ ?_)))))
 refine gw_cond rfl (fun hh => ?_) (fun hh => ?_)
 ·have h1 : ¬ (timeE fr tt = 0) := by simpa using hh
  clear hh
  refine sr_ (mv_ rfl (sg_ rfl (sg_ rfl (nn_ ?_))))
  refine gw_ret ?_
  refine nx_then_ret ?_
  refine nx_ret2 rfl rfl rfl fun wx hm => ?_
  exact ⟨by rw [if_neg h1], hm.g⟩
 have h1 : timeE fr tt = 0 := by simpa using hh
 clear hh
 refine gw_skip (nx_then (sr_ ?_))
 obtain ⟨h2, h3, h4⟩ := timeE_okT h1
 refine wl_ov (ov_loads rz27 rfl (fun _ hm => hm.blkI 0 rfl) rfl rfl) rfl ?_
 refine wl_callv rfl cb173 rfl rfl (fun wx hm => (days_any _ _ wx (by omega) (by omega) (by omega))) ?_
 refine sg_ rfl (sg_ rfl (nn_ ?_))
 refine gw_ret ?_
 refine nx_ret2 rfl rfl rfl fun wx hm => ?_
 exact ⟨by rw [if_pos h1, h1], hm.g⟩
end Go.Proofs.YtempjmpfdniecaaGreatDoor
namespace Go.Proofs.YtempjmpfdniecaaGreatDoor
open Go.RowKit
theorem ready_open : isOpenV ⟨⟨#[115]⟩, [0, 9, 0, 0, 0, 0, 0, 0, 0, 0, 0, 0, 0, 0]⟩ 8 = true ∧ isOpenE ⟨⟨#[115]⟩, [0, 9, 0, 0, 0, 0, 0, 0, 0, 0, 0, 0, 0, 0]⟩ 8 = 0 := ⟨by kernel_rfl, by kernel_rfl⟩
theorem ready_days : (if timeE 0 1441 = 0 then daysV 0 1441 else 0) = 2 ∧ timeE 0 1441 = 0 := ⟨by decide +kernel, by decide +kernel⟩
theorem ready_hire : hireE ⟨⟨#[104]⟩, ⟨#[100]⟩, 5, 9, [startLeg ⟨#[118]⟩ ⟨5, ⟨#[115]⟩, 0, 0⟩]⟩ = 0 := by kernel_rfl
set_option maxRecDepth 100000 in
set_option maxHeartbeats 1000000 in
theorem ready_any (w : World) : Calls Tryz.prog 23 #[] w (fun e w' => e = .returned (.bool true) ∧ w.grownBy w' none) := by
  have cD : ∀ w, Calls Tryz.prog 93 #[.agg #[.int .i64 0, .int .i64 1441]] w (fun e w' => e = .returned (.tuple #[.int .i64 2, .int .i64 0]) ∧ w.grownBy w' none) := fun w => by
    have h := tdays_any 0 1441 w
    rw [ready_days.1, ready_days.2] at h
    exact h
  have cO : ∀ w, Calls Tryz.prog 94 #[.agg #[.string ⟨#[115]⟩, .int .i64 0, .int .i64 9, .int .i64 0, .int .i64 0, .int .i64 0, .int .i64 0, .int .i64 0, .int .i64 0, .int .i64 0, .int .i64 0, .int .i64 0, .int .i64 0, .int .i64 0, .int .i64 0], .int .i64 8] w (RetBE w true 0) := fun w => by
    have hs : ∀ h ∈ [0, 9, 0, 0, 0, 0, 0, 0, 0, 0, 0, 0, 0, (0 : Int)], 0 ≤ h ∧ h ≤ 9 := by decide
    have h := lotOpen_any ⟨#[115]⟩ [0, 9, 0, 0, 0, 0, 0, 0, 0, 0, 0, 0, 0, 0] 8 w ⟨rfl, (by decide : (⟨#[115]⟩ : ByteArray).size ≤ 1000000), fun h hh => by have := hs h hh; omega⟩ (fun h hh => by have := hs h hh; omega)
    rw [ready_open.1, ready_open.2] at h
    exact h
  have cH : ∀ w, Calls Tryz.prog 96 #[.string ⟨#[104]⟩, .string ⟨#[100]⟩, .agg #[.int .i64 5, .int .i64 9], .string ⟨#[118]⟩, .agg #[.int .i64 5, .string ⟨#[115]⟩, .int .i64 0, .int .i64 0]] w (fun e w' => ∃ A, e = .returned (.tuple #[.agg #[.string ⟨#[104]⟩, .string ⟨#[100]⟩, .int .i64 5, .int .i64 9, .slice A 1 1], .int .i64 0]) ∧ w.grownBy w' none) := fun w => by
    have h := start_any ⟨#[104]⟩ ⟨#[100]⟩ 5 9 ⟨#[118]⟩ ⟨5, ⟨#[115]⟩, 0, 0⟩ w (by decide) (by decide) (by decide) (by decide : (⟨#[115]⟩ : ByteArray).size ≤ 1000000)
    rw [ready_hire] at h
    exact h.mono fun e w' ⟨A, h1, _, h3⟩ => ⟨A, h1, h3⟩
  have CD := Lib.hid cD
  have CO := Lib.hid cO
  have CH := Lib.hid cH
  clear cD cO cH
  go_enter Tryz.func23, Tryz.ntmps23
  go_wp2_with fail
  refine (CD.out _).mono ?_
  rintro e w1 ⟨rfl, hg1⟩
  go_wp2_with fail
  refine (CO.out _).mono ?_
  rintro e w2 ⟨rfl, hg2⟩
  go_wp2_with fail
  refine (bspread_nil _).mono ?_
  rintro e w3 ⟨A3, c3, rfl, hg3⟩
  go_wp2_with fail
  refine (CH.out _).mono ?_
  rintro e w4 ⟨A4, rfl, hg4⟩
  go_wp2_with fail
  go_ret
  exact ⟨rfl, grow_alloc (grow_trans (grow_trans (grow_trans hg1 hg2) hg3) hg4) _⟩
end Go.Proofs.YtempjmpfdniecaaGreatDoor
namespace Go.Proofs.YtempjmpfdniecaaGreatDoor
open Go.RowKit
theorem waitersCan_walk (a0 : Option Addr) (len0 cap0 : Nat) (z0 : List Int) (w : World) (hR : RowIn w a0 len0 cap0 z0) :
  Calls Tryz.prog 8 #[.slice a0 len0 cap0] w fun e w' => e = .returned (.bool true) ∧ Below w.heap.size w w' := by
 refine gw_enter ⟨130, w, none, []⟩ Tryz.func8 rfl Tryz.ntmps8 rfl (mem0 (X := []) allF_nil allL_nil) ?_
 refine sr_ (sg_ rfl (nn_ (sr_ (mv_ rfl ?_))))
 refine wl_ov (ov_build (cs := [.slice a0 len0 cap0, .int .i64 0]) rfl (by kernel_rfl)) rfl ?_
 refine wl_box rfl rfl rfl fun sb => ?_
 refine sg_ rfl (nn_ (sr_ (mv_ rfl ?_)))
 refine wl_law [158, 211, 92] hR 0 rfl fun w1 B hg1 hsb => ?_
 refine wl_calls (γ := Option Addr × Nat × List Cs) (val := (fun g => .slice g.1 4 g.2.1)) (φ := (fun g => g.2.2.length = 4 ∧ ∀ x ∈ g.2.2, CsOk x)) (Y := (fun g => fun wy => SlT csEnc 2 158 wy g.1 4 g.2.2)) (m' := 0 + 20) rfl cb56 rfl rfl rfl rfl (fun wx hm => (gclasses_any wx B sb _ hm.k (by omega)).mono fun _ _ ⟨A, c, l, he, ho, hl, hok, hS, hg⟩ => ⟨(A, c, l), he, ⟨hl, hok⟩, hS, hg, SlT.ofOwn cs_len ho hl⟩) (fun _ => SlT.lasts2 rfl) ?_
 rintro ⟨A0, c0, cs⟩ hcs
 dsimp only at hcs ⊢
 obtain ⟨hc4, hco⟩ := hcs
 refine mv_ rfl ?_
 refine wl_calls (γ := Option Addr × Nat × Nat × List Sk) (val := (fun g => .slice g.1 g.2.1 g.2.2.1)) (φ := (fun g => g.2.2.2.length = g.2.1 ∧ (∀ x ∈ g.2.2.2, SkOk x) ∧ g.2.1 ≤ 5)) (Y := (fun g => fun wy => SlT skEnc 2 211 wy g.1 g.2.1 g.2.2.2)) (m' := 0 + 20 + 100) rfl cb57 rfl rfl rfl rfl (fun wx hm => (gstock_any wx B sb _ hm.k (by omega)).mono fun _ _ ⟨A, n, c, l, he, ho, hl, hok, hn, hS, hg⟩ => ⟨(A, n, c, l), he, ⟨hl, hok, hn⟩, hS, hg, SlT.ofOwn sk_len ho hl⟩) (fun _ => SlT.lasts2 rfl) ?_
 rintro ⟨A1, n1, c1, sl⟩ hss
 dsimp only at hss ⊢
 obtain ⟨hs1, hso, hn5⟩ := hss
 refine mv_ rfl (mv_ rfl ?_)
 refine wl_buildSlice (e := 3) (cs := [.int .i64 0, .int .i64 1, .int .i64 2, .int .i64 3]) rfl (by kernel_rfl) rfl fun g1 => ?_
 refine wl_got (γ := Int) (val := fun v => .int .i64 v) (φ := fun v => v ∈ ([0, 1, 2, 3] : List Int)) rfl cb11 rfl rfl rfl rfl (fun wx hm => (pick_any [0, 1, 2, 3] _ _ _ wx B sb _ hm.k (by omega) (by simp) (by simp) (hm.blkI 0 rfl) (hm.neRow 0 rfl rfl))) fun pk hpk => ?_
 have bpk : 0 ≤ pk ∧ pk ≤ 3 := mem_rng hpk (by decide)
 have bpk0 := bpk.1
 have bpk1 := bpk.2
 clear bpk
 obtain ⟨q, rfl⟩ := Int.eq_ofNat_of_zero_le (show 0 ≤ pk by omega)
 have hq3 : q ≤ 3 := by omega
 refine wl_calls (γ := Option Addr × Nat × Nat × List Bk) (val := (fun g => .slice g.1 g.2.1 g.2.2.1)) (φ := (fun g => (∀ b ∈ g.2.2.2, BkOk b) ∧ g.2.1 ≤ q ∧ g.2.2.2.length = g.2.1)) (Y := (fun g => fun wy => SlT bkEnc 6 92 wy g.1 g.2.1 g.2.2.2)) (m' := 0 + 20 + 100 + 1 + 1000) rfl cb48 rfl rfl rfl rfl (fun wx hm => (gbookings_anyQ q wx B sb _ hm.k (by omega) (by omega)).mono fun _ _ ⟨A, n, c, l, he, hsl, hok, hn, hnc, hS, hg⟩ => ⟨(A, n, c, l), he, ⟨hok, hn, hsl.len⟩, hS, hg, hsl⟩) (fun _ => SlT.lasts2 rfl) ?_
 rintro ⟨A, n, c, l⟩ hH
 dsimp only at hH ⊢
 obtain ⟨hok, hnq, hlen⟩ := hH
 have hn3 : n ≤ 3 := by omega
 obtain ⟨SE, hSE⟩ : ∃ E, E = stockE cs sl := ⟨_, rfl⟩
 obtain ⟨KE, hKE⟩ : ∃ E, E = checkE cs l := ⟨_, rfl⟩
 refine sg_ rfl (sg_ rfl (sg_ rfl (nn_ (sr_ (mv_ rfl ?_)))))
 refine wl_buildSlice (e := 9) (cs := [.string ⟨#[109, 105, 110, 105]⟩, .string ⟨#[109, 105, 100, 105]⟩]) rfl (by kernel_rfl) rfl fun g2 => ?_
 refine wl_got (γ := ByteArray) (val := fun v => .string v) (φ := fun v => v ∈ ([⟨#[109, 105, 110, 105]⟩, ⟨#[109, 105, 100, 105]⟩] : List ByteArray)) rfl cb49 rfl rfl rfl rfl (fun wx hm => (some_any [⟨#[109, 105, 110, 105]⟩, ⟨#[109, 105, 100, 105]⟩] _ _ _ wx B sb _ hm.k (by omega) (by simp) (by simp) (hm.blkI 0 rfl) (hm.neRow 0 rfl rfl))) fun x1 hx1 => ?_
 have zx1 : x1.size ≤ 100 := mem_sz hx1 (by decide)
 refine mv_ rfl ?_
 refine wl_got (γ := Int) (val := fun v => .int .i64 v) (φ := fun v => 0 ≤ v ∧ (v ≤ 20 ∨ v = 0)) rfl cb26 rfl rfl rfl rfl (fun wx hm => (range_any _ _ wx B sb _ hm.k (by omega) (by omega) (by omega) (by omega) (by omega))) fun fr hfr => ?_
 have hfr : 0 ≤ fr ∧ fr ≤ 20 := by omega
 obtain ⟨hfr0, hfr20⟩ := hfr
 have hx1s : x1.size ≤ 100 := mem_sz hx1 (by decide)
 refine wl_nest none [] fun w2 hm_w2 => ⟨_, _, _, _, mem0 (X := [BlkOld w2.heap.size none g2 9 [.string ⟨#[109, 105, 110, 105]⟩, .string ⟨#[109, 105, 100, 105]⟩], BlkOld w2.heap.size none g1 3 [.int .i64 0, .int .i64 1, .int .i64 2, .int .i64 3], SlOld csEnc 2 158 w2.heap.size none A0 4 cs, SlOld skEnc 2 211 w2.heap.size none A1 n1 sl, SlOld bkEnc 6 92 w2.heap.size none A n l]) (allF_cons (hm_w2.blkI 0 rfl).old (allF_cons (hm_w2.blkI 1 rfl).old (allF_cons (SlT.old (hm_w2.fact 2 rfl)) (allF_cons (SlT.old (hm_w2.fact 1 rfl)) (allF_cons (SlT.old (hm_w2.fact 0 rfl)) allF_nil))))) (allL_cons BlkOld.lasts (allL_cons BlkOld.lasts (allL_cons SlOld.lasts (allL_cons SlOld.lasts (allL_cons SlOld.lasts allL_nil))))), ?_⟩
 refine wl_ov (ov_build (cs := [.int .i64 fr, .int .i64 30]) rfl (by kernel_rfl)) rfl ?_
 refine wl_ov (ov_build (cs := [.string ⟨#[98, 122]⟩, .string x1, .int .i64 fr, .int .i64 30, .int .i64 0, .int .i64 100]) rfl (by kernel_rfl)) rfl ?_
 refine wl_alloc zc92 rfl fun g3 => ?_
 refine wl_stores (cs' := [.string ⟨#[98, 122]⟩, .string x1, .int .i64 fr, .int .i64 30, .int .i64 0, .int .i64 100]) 0 rz92 rfl rfl rfl rfl rfl rfl rfl rfl ?_
 refine nn_ (gw_seq (sr_ (mv_ rfl (mv_ rfl ?_))))
 refine wl_callv (v := .int .i64 SE) rfl cb58 rfl rfl (fun wx hm => (by rw [hSE]; exact stockFault_any cs A0 4 c0 sl A1 n1 c1 wx (hm.fact 2 rfl).1 hco (by omega) (hm.fact 3 rfl).1 hso (by omega))) ?_
 by_cases hs0 : SE = 0
 ·subst hs0
  refine wl_ov (ov_neq rfl rfl) rfl ?_
  refine wl_set 39 (v' := .bool false) rfl (congrArg Value.bool (by decide)) ?_
  refine mv_ rfl (wl_guard_on rfl rfl rfl (mv_ rfl (wl_guard_on rfl rfl rfl (mv_ rfl (wl_guard_on rfl rfl rfl ?_)))))
  refine wl_callv (v := .int .i64 KE) rfl cb51 rfl rfl (fun wx hm => (by rw [hKE]; exact bookingsFault_any cs A0 4 c0 l A n c wx (hm.fact 2 rfl).1 hco (by omega) (hm.fact 4 rfl).1 hok (by omega))) ?_
  by_cases hk0 : KE = 0
  ·subst hk0
   have h0 : firstE [stockE cs sl, checkE cs l] = 0 := by rw [← hSE, ← hKE]; rfl
   obtain ⟨⟨h30, hcl, hlo⟩, hmany, hkeys, htm, _⟩ := right_has h0
   have hbo : BkOk (⟨⟨#[98, 122]⟩, x1, fr, 30, 0, 100⟩ : Bk) := ⟨by dsimp only; decide, by dsimp only; omega⟩
   obtain ⟨CE, hCE⟩ : ∃ z, z = canE cs sl l (⟨⟨#[98, 122]⟩, x1, fr, 30, 0, 100⟩ : Bk) := ⟨_, rfl⟩
   obtain ⟨CB, hCB⟩ : ∃ z, z = canB cs sl l (⟨⟨#[98, 122]⟩, x1, fr, 30, 0, 100⟩ : Bk) := ⟨_, rfl⟩
   obtain ⟨PE, hPE⟩ : ∃ z, z = prE cs sl l [(⟨⟨#[98, 122]⟩, x1, fr, 30, 0, 100⟩ : Bk)] := ⟨_, rfl⟩
   refine wl_guard_on rfl rfl rfl (wl_ov (ov_neq rfl rfl) rfl ?_)
   refine wl_set 44 (v' := .bool false) rfl (congrArg Value.bool (by decide)) ?_
   refine pf_ rfl rfl (nn_ (cf_ rfl (gw_skip (nx_then (sr_ (mv_ rfl (mv_ rfl (mv_ rfl ?_))))))))
   refine wl_ov (ov_loads rz92 rfl (fun _ hm => hm.blkI 0 rfl) rfl rfl) rfl ?_
   by_cases hce : CE = 0
   ·rcases hEO : erlO cs sl l (⟨⟨#[98, 122]⟩, x1, fr, 30, 0, 100⟩ : Bk) with _ | aa
    ·have hcbf : CB = false := hCB.trans (erl_none hEO)
     refine wl_callv (v := .tuple #[.int .i64 0, .int .i64 12]) rfl cb44 rfl rfl (fun wx hm => (by have h := earliest_any cs A0 4 c0 sl A1 n1 c1 l A n c ⟨#[98, 122]⟩ x1 fr 30 0 100 wx (hm.fact 2 rfl).1 hco (by omega) (hm.fact 3 rfl).1 hso (by omega) (hm.fact 4 rfl).1 hok (by omega) hbo; rw [← hCE, if_pos hce, if_pos hce, hEO] at h; exact h)) ?_
     refine mv_ rfl (wl_ov (ov_extract rfl rfl) rfl (wl_ov (ov_extract rfl rfl) rfl (sg_ rfl (sg_ rfl (nn_ (sr_ (mv_ rfl (mv_ rfl (mv_ rfl ?_)))))))))
     refine wl_ov (ov_loads rz92 rfl (fun _ hm => hm.blkI 0 rfl) rfl rfl) rfl ?_
     refine wl_callv (v := .tuple #[.bool false, .int .i64 0]) rfl cb43 rfl rfl (fun wx hm => (by have h := can_any cs A0 4 c0 sl A1 n1 c1 l A n c ⟨#[98, 122]⟩ x1 fr 30 0 100 wx (hm.fact 2 rfl).1 hco (by omega) (hm.fact 3 rfl).1 hso (by omega) (hm.fact 4 rfl).1 hok (by omega) hbo; rw [← hCE, if_pos hce, ← hCB, hcbf, hce] at h; exact h)) ?_
     refine mv_ rfl (wl_ov (ov_extract rfl rfl) rfl (wl_ov (ov_extract rfl rfl) rfl (sg_ rfl (sg_ rfl (nn_ (gw_seq (sr_ (mv_ rfl (wl_ov (ov_eql rfl rfl) rfl ?_)))))))))
     refine wl_set 64 (v' := .bool false) rfl (congrArg Value.bool (by decide)) ?_
     refine nn_ (cf_ rfl (sr_ (mv_ rfl (wl_ov (ov_eql rfl rfl) rfl ?_))))
     refine wl_set 105 (v' := .bool true) rfl (congrArg Value.bool (by decide)) ?_
     refine mv_ rfl (wl_guard_on rfl rfl rfl (mv_ rfl (pt_ rfl rfl (nn_ (cf_ rfl (gw_skip (nx_then (sr_ (mv_ rfl (mv_ rfl (mv_ rfl ?_)))))))))))
     refine wl_ov (ov_loads rz92 rfl (fun _ hm => hm.blkI 0 rfl) rfl rfl) rfl ?_
     refine wl_buildSlice (e := 92) (cs := [.string ⟨#[98, 122]⟩, .string x1, .int .i64 fr, .int .i64 30, .int .i64 0, .int .i64 100]) rfl (by kernel_rfl) rfl fun g5 => ?_
     by_cases hpz : PE = 0
     ·refine wl_callx (γ := Option Addr × Nat × Nat) (val := (fun g => .tuple #[.slice g.1 g.2.1 g.2.2, .int .i64 0])) (φ := (fun g => (prV cs sl l [(⟨⟨#[98, 122]⟩, x1, fr, 30, 0, 100⟩ : Bk)]).length = g.2.1)) (Y := (fun g => fun _ => True)) rfl cb50 rfl rfl (fun wx hm => (promote_any cs A0 4 c0 sl A1 n1 c1 l A n c [(⟨⟨#[98, 122]⟩, x1, fr, 30, 0, 100⟩ : Bk)] _ 1 1 wx (hm.fact 2 rfl).1 hco (by omega) (hm.fact 3 rfl).1 hso (by omega) (hm.fact 4 rfl).1 hok (by omega) (SlT.ofBlk (l := [(⟨⟨#[98, 122]⟩, x1, fr, 30, 0, 100⟩ : Bk)]) bk_len (hm.blkI 0 rfl)) (oneB_ok hbo) (by omega)).mono fun _ _ ⟨h, hg⟩ => by
       rcases h with ⟨h2, _⟩ | ⟨_, A2, k2, c2, he, hs⟩
       ·exact absurd (hPE.symm.trans hpz) h2
       exact ⟨(A2, k2, c2), he, hs.len, hg, trivial⟩) (fun _ => Lasts2.true_) ?_
      rintro ⟨A2, k2, c2⟩ hk2
      dsimp only at hk2 ⊢
      have hpo := (prom_one (by omega) (hPE.symm.trans hpz)).2
      rw [hk2, ← hCB] at hpo
      refine mv_ rfl (wl_ov (ov_extract rfl rfl) rfl (wl_ov (ov_extract rfl rfl) rfl (sg_ rfl (sg_ rfl (nn_ (sr_ (mv_ rfl (wl_ov (ov_neq rfl rfl) rfl ?_))))))))
      refine wl_set 119 (v' := .bool false) rfl (congrArg Value.bool (by decide)) ?_
      refine mv_ rfl (wl_guard_on rfl rfl rfl (mv_ rfl (wl_guard_on rfl rfl rfl (wl_ov (ov_len es103 rfl) rfl (wl_guard_on rfl rfl rfl (wl_ov (ov_eql rfl rfl) rfl (wl_guard_on rfl rfl rfl (mv_ rfl (wl_guard_on rfl rfl rfl ?_)))))))))
      refine wl_ov (ov_beql (by kernel_rfl) rfl rfl) rfl ?_
      refine pf_ rfl rfl (mv_ rfl ?_)
      refine wl_set 127 (v' := .bool true) rfl (congrArg Value.bool (by rw [hcbf] at hpo; simp at hpo; simp [hpo])) ?_
      refine wl_guard_on rfl rfl rfl ?_
      refine wl_callv rfl cb23 rfl rfl (fun wx hm => (ready_any wx)) ?_
      refine pt_ rfl rfl (sg_ rfl (nn_ ?_))
      refine gw_ret ?_
      refine nx_ret1 rfl rfl fun wx hm => ?_
      exact ⟨rfl, law_end hg1 hsb (grow_trans hm_w2.g (grow_weak hm.g))⟩
     refine wl_callv rfl cb50 rfl rfl (fun wx hm => ((promote_any cs A0 4 c0 sl A1 n1 c1 l A n c [(⟨⟨#[98, 122]⟩, x1, fr, 30, 0, 100⟩ : Bk)] _ 1 1 wx (hm.fact 2 rfl).1 hco (by omega) (hm.fact 3 rfl).1 hso (by omega) (hm.fact 4 rfl).1 hok (by omega) (SlT.ofBlk (l := [(⟨⟨#[98, 122]⟩, x1, fr, 30, 0, 100⟩ : Bk)]) bk_len (hm.blkI 0 rfl)) (oneB_ok hbo) (by omega)).mono fun _ _ ⟨h, hg⟩ => by
      rw [← hPE] at h
      rcases h with ⟨_, he⟩ | ⟨h2, _⟩
      ·exact ⟨he, hg⟩
      exact absurd h2 hpz)) ?_
     refine mv_ rfl (wl_ov (ov_extract rfl rfl) rfl (wl_ov (ov_extract rfl rfl) rfl (sg_ rfl (sg_ rfl (nn_ (sr_ (mv_ rfl (wl_ov (ov_neq rfl rfl) rfl (mv_ rfl ?_)))))))))
     refine wl_set 120 (v' := .bool true) rfl (congrArg Value.bool (by rw [decide_eq_false hpz]; rfl)) ?_
     refine goff rfl rfl rfl (goff rfl rfl rfl (goff rfl rfl rfl (goff rfl rfl rfl (goff rfl rfl rfl (pt_ rfl rfl (mv_ rfl (wl_guard_on rfl rfl rfl ?_)))))))
     refine wl_callv rfl cb23 rfl rfl (fun wx hm => (ready_any wx)) ?_
     refine pt_ rfl rfl (sg_ rfl (nn_ ?_))
     refine gw_ret ?_
     refine nx_ret1 rfl rfl fun wx hm => ?_
     exact ⟨rfl, law_end hg1 hsb (grow_trans hm_w2.g (grow_weak hm.g))⟩
    obtain ⟨hs1_, ⟨hs2_, hs3_⟩, hs4_⟩ := erl_some (by dsimp only; omega) hEO
    dsimp only at hs2_ hs3_ hs4_
    rw [← hCB] at hs4_
    have hcm := canE_move (a := aa) (hCE.symm.trans hce) hs2_ hs3_
    rw [show atB (⟨⟨#[98, 122]⟩, x1, fr, 30, 0, 100⟩ : Bk) aa = (⟨⟨#[98, 122]⟩, x1, aa, aa + 30 - fr, 0, 100⟩ : Bk) from by unfold atB; rw [show aa + (30 - fr) = aa + 30 - fr by omega]] at hs1_ hcm
    refine wl_callv (v := .tuple #[.int .i64 aa, .int .i64 0]) rfl cb44 rfl rfl (fun wx hm => (by have h := earliest_any cs A0 4 c0 sl A1 n1 c1 l A n c ⟨#[98, 122]⟩ x1 fr 30 0 100 wx (hm.fact 2 rfl).1 hco (by omega) (hm.fact 3 rfl).1 hso (by omega) (hm.fact 4 rfl).1 hok (by omega) hbo; rw [← hCE, if_pos hce, if_pos hce, hEO] at h; exact h)) ?_
    refine mv_ rfl (wl_ov (ov_extract rfl rfl) rfl (wl_ov (ov_extract rfl rfl) rfl (sg_ rfl (sg_ rfl (nn_ (sr_ (mv_ rfl (mv_ rfl (mv_ rfl ?_)))))))))
    refine wl_ov (ov_loads rz92 rfl (fun _ hm => hm.blkI 0 rfl) rfl rfl) rfl ?_
    refine wl_callv (v := .tuple #[.bool CB, .int .i64 0]) rfl cb43 rfl rfl (fun wx hm => (by have h := can_any cs A0 4 c0 sl A1 n1 c1 l A n c ⟨#[98, 122]⟩ x1 fr 30 0 100 wx (hm.fact 2 rfl).1 hco (by omega) (hm.fact 3 rfl).1 hso (by omega) (hm.fact 4 rfl).1 hok (by omega) hbo; rw [← hCE, if_pos hce, ← hCB, hce] at h; exact h)) ?_
    refine mv_ rfl (wl_ov (ov_extract rfl rfl) rfl (wl_ov (ov_extract rfl rfl) rfl (sg_ rfl (sg_ rfl (nn_ (gw_seq (sr_ (mv_ rfl (wl_ov (ov_eql rfl rfl) rfl ?_)))))))))
    refine wl_set 64 (v' := .bool true) rfl (congrArg Value.bool (by decide)) ?_
    refine nn_ (ct_ rfl (sr_ ?_))
    refine wl_ov (ov_loads rz92 rfl (fun _ hm => hm.blkI 0 rfl) rfl rfl) rfl ?_
    refine wl_alloc zc92 rfl fun g7 => ?_
    refine wl_stores (cs' := [.string ⟨#[98, 122]⟩, .string x1, .int .i64 fr, .int .i64 30, .int .i64 0, .int .i64 100]) 0 rz92 rfl rfl rfl rfl rfl rfl rfl rfl ?_
    refine nn_ (sr_ (mv_ rfl (mv_ rfl (fd_ fo92_2 rfl rfl (fd_ fo27_1 rfl rfl (lk_ sc3 1 rfl rfl rfl (ad_ rfl rfl (fd_ fo92_2 rfl rfl (fd_ fo27_0 rfl rfl (lk_ sc3 1 rfl rfl rfl ?_))))))))))
    refine wl_ov (ov_sub rfl rfl (by omega) (by omega)) rfl ?_
    refine wl_ov (ov_build (cs := [.int .i64 aa, .int .i64 ((aa + 30) - fr)]) rfl (by kernel_rfl)) rfl ?_
    refine fd_ fo92_2 rfl rfl ?_
    refine wl_stores (cs' := [.string ⟨#[98, 122]⟩, .string x1, .int .i64 aa, .int .i64 ((aa + 30) - fr), .int .i64 0, .int .i64 100]) 0 rz27 rfl rfl rfl rfl rfl rfl rfl rfl ?_
    refine nn_ (sr_ (mv_ rfl (mv_ rfl (mv_ rfl ?_))))
    refine wl_ov (ov_loads rz92 rfl (fun _ hm => hm.blkI 0 rfl) rfl rfl) rfl ?_
    refine wl_callv (v := .tuple #[.bool true, .int .i64 0]) rfl cb43 rfl rfl (fun wx hm => (by have h := can_any cs A0 4 c0 sl A1 n1 c1 l A n c ⟨#[98, 122]⟩ x1 aa (aa + 30 - fr) 0 100 wx (hm.fact 2 rfl).1 hco (by omega) (hm.fact 3 rfl).1 hso (by omega) (hm.fact 4 rfl).1 hok (by omega) hbo; rw [hcm, if_pos rfl, hs1_] at h; exact h)) ?_
    refine mv_ rfl (wl_ov (ov_extract rfl rfl) rfl (wl_ov (ov_extract rfl rfl) rfl (sg_ rfl (sg_ rfl (nn_ (sr_ (mv_ rfl (wl_ov (ov_un_not rfl) rfl ?_))))))))
    refine wl_set 87 (v' := .bool false) rfl (congrArg Value.bool (by decide)) ?_
    refine mv_ rfl (wl_guard_on rfl rfl rfl (mv_ rfl (wl_guard_on rfl rfl rfl (fd_ fo92_2 rfl rfl (wl_guard_on rfl rfl rfl (fd_ fo27_0 rfl rfl (wl_guard_on rfl rfl rfl (lk_ sc3 1 rfl rfl rfl (wl_guard_on rfl rfl rfl (wl_ov (ov_lss rfl rfl) rfl (pf_ rfl rfl (mv_ rfl ?_))))))))))))
    refine wl_set 95 (v' := .bool false) rfl (congrArg Value.bool (decide_eq_false (by omega))) ?_
    refine wl_guard_on rfl rfl rfl (mv_ rfl (wl_guard_on rfl rfl rfl (mv_ rfl (wl_guard_on rfl rfl rfl (fd_ fo92_2 rfl rfl (wl_guard_on rfl rfl rfl (fd_ fo27_0 rfl rfl (wl_guard_on rfl rfl rfl (lk_ sc3 1 rfl rfl rfl (wl_guard_on rfl rfl rfl (wl_ov (ov_eql rfl rfl) rfl (wl_guard_on rfl rfl rfl ?_))))))))))))
    refine wl_ov (ov_bneq (by kernel_rfl) rfl rfl) rfl ?_
    refine pf_ rfl rfl (nn_ ?_)
    refine gw_set 103 (v' := .bool false) rfl (congrArg Value.bool (by rw [hs4_]; simp)) ?_
    refine cf_ rfl (gw_skip (nx_then (sr_ (mv_ rfl (mv_ rfl (mv_ rfl ?_))))))
    refine wl_ov (ov_loads rz92 rfl (fun _ hm => hm.blkI 1 rfl) rfl rfl) rfl ?_
    refine wl_buildSlice (e := 92) (cs := [.string ⟨#[98, 122]⟩, .string x1, .int .i64 fr, .int .i64 30, .int .i64 0, .int .i64 100]) rfl (by kernel_rfl) rfl fun g8 => ?_
    by_cases hpz : PE = 0
    ·refine wl_callx (γ := Option Addr × Nat × Nat) (val := (fun g => .tuple #[.slice g.1 g.2.1 g.2.2, .int .i64 0])) (φ := (fun g => (prV cs sl l [(⟨⟨#[98, 122]⟩, x1, fr, 30, 0, 100⟩ : Bk)]).length = g.2.1)) (Y := (fun g => fun _ => True)) rfl cb50 rfl rfl (fun wx hm => (promote_any cs A0 4 c0 sl A1 n1 c1 l A n c [(⟨⟨#[98, 122]⟩, x1, fr, 30, 0, 100⟩ : Bk)] _ 1 1 wx (hm.fact 2 rfl).1 hco (by omega) (hm.fact 3 rfl).1 hso (by omega) (hm.fact 4 rfl).1 hok (by omega) (SlT.ofBlk (l := [(⟨⟨#[98, 122]⟩, x1, fr, 30, 0, 100⟩ : Bk)]) bk_len (hm.blkI 0 rfl)) (oneB_ok hbo) (by omega)).mono fun _ _ ⟨h, hg⟩ => by
      rcases h with ⟨h2, _⟩ | ⟨_, A2, k2, c2, he, hs⟩
      ·exact absurd (hPE.symm.trans hpz) h2
      exact ⟨(A2, k2, c2), he, hs.len, hg, trivial⟩) (fun _ => Lasts2.true_) ?_
     rintro ⟨A2, k2, c2⟩ hk2
     dsimp only at hk2 ⊢
     have hpo := (prom_one (by omega) (hPE.symm.trans hpz)).2
     rw [hk2, ← hCB] at hpo
     refine mv_ rfl (wl_ov (ov_extract rfl rfl) rfl (wl_ov (ov_extract rfl rfl) rfl (sg_ rfl (sg_ rfl (nn_ (sr_ (mv_ rfl (wl_ov (ov_neq rfl rfl) rfl ?_))))))))
     refine wl_set 119 (v' := .bool false) rfl (congrArg Value.bool (by decide)) ?_
     refine mv_ rfl (wl_guard_on rfl rfl rfl (mv_ rfl (wl_guard_on rfl rfl rfl (wl_ov (ov_len es103 rfl) rfl (wl_guard_on rfl rfl rfl (wl_ov (ov_eql rfl rfl) rfl (wl_guard_on rfl rfl rfl (mv_ rfl (wl_guard_on rfl rfl rfl ?_)))))))))
     refine wl_ov (ov_beql (by kernel_rfl) rfl rfl) rfl ?_
     refine pf_ rfl rfl (mv_ rfl ?_)
     refine wl_set 127 (v' := .bool true) rfl (congrArg Value.bool (by cases CB <;> simp at hpo <;> simp [hpo])) ?_
     refine wl_guard_on rfl rfl rfl ?_
     refine wl_callv rfl cb23 rfl rfl (fun wx hm => (ready_any wx)) ?_
     refine pt_ rfl rfl (sg_ rfl (nn_ ?_))
     refine gw_ret ?_
     refine nx_ret1 rfl rfl fun wx hm => ?_
     exact ⟨rfl, law_end hg1 hsb (grow_trans hm_w2.g (grow_weak hm.g))⟩
    refine wl_callv rfl cb50 rfl rfl (fun wx hm => ((promote_any cs A0 4 c0 sl A1 n1 c1 l A n c [(⟨⟨#[98, 122]⟩, x1, fr, 30, 0, 100⟩ : Bk)] _ 1 1 wx (hm.fact 2 rfl).1 hco (by omega) (hm.fact 3 rfl).1 hso (by omega) (hm.fact 4 rfl).1 hok (by omega) (SlT.ofBlk (l := [(⟨⟨#[98, 122]⟩, x1, fr, 30, 0, 100⟩ : Bk)]) bk_len (hm.blkI 0 rfl)) (oneB_ok hbo) (by omega)).mono fun _ _ ⟨h, hg⟩ => by
     rw [← hPE] at h
     rcases h with ⟨_, he⟩ | ⟨h2, _⟩
     ·exact ⟨he, hg⟩
     exact absurd h2 hpz)) ?_
    refine mv_ rfl (wl_ov (ov_extract rfl rfl) rfl (wl_ov (ov_extract rfl rfl) rfl (sg_ rfl (sg_ rfl (nn_ (sr_ (mv_ rfl (wl_ov (ov_neq rfl rfl) rfl (mv_ rfl ?_)))))))))
    refine wl_set 120 (v' := .bool true) rfl (congrArg Value.bool (by rw [decide_eq_false hpz]; rfl)) ?_
    refine goff rfl rfl rfl (goff rfl rfl rfl (goff rfl rfl rfl (goff rfl rfl rfl (goff rfl rfl rfl (pt_ rfl rfl (mv_ rfl (wl_guard_on rfl rfl rfl ?_)))))))
    refine wl_callv rfl cb23 rfl rfl (fun wx hm => (ready_any wx)) ?_
    refine pt_ rfl rfl (sg_ rfl (nn_ ?_))
    refine gw_ret ?_
    refine nx_ret1 rfl rfl fun wx hm => ?_
    exact ⟨rfl, law_end hg1 hsb (grow_trans hm_w2.g (grow_weak hm.g))⟩
   refine wl_callv (v := .tuple #[.int .i64 0, .int .i64 CE]) rfl cb44 rfl rfl (fun wx hm => (by have h := earliest_any cs A0 4 c0 sl A1 n1 c1 l A n c ⟨#[98, 122]⟩ x1 fr 30 0 100 wx (hm.fact 2 rfl).1 hco (by omega) (hm.fact 3 rfl).1 hso (by omega) (hm.fact 4 rfl).1 hok (by omega) hbo; rw [← hCE, if_neg hce, if_neg hce] at h; exact h)) ?_
   refine mv_ rfl (wl_ov (ov_extract rfl rfl) rfl (wl_ov (ov_extract rfl rfl) rfl (sg_ rfl (sg_ rfl (nn_ (sr_ (mv_ rfl (mv_ rfl (mv_ rfl ?_)))))))))
   refine wl_ov (ov_loads rz92 rfl (fun _ hm => hm.blkI 0 rfl) rfl rfl) rfl ?_
   refine wl_callv (v := .tuple #[.bool false, .int .i64 CE]) rfl cb43 rfl rfl (fun wx hm => (by have h := can_any cs A0 4 c0 sl A1 n1 c1 l A n c ⟨#[98, 122]⟩ x1 fr 30 0 100 wx (hm.fact 2 rfl).1 hco (by omega) (hm.fact 3 rfl).1 hso (by omega) (hm.fact 4 rfl).1 hok (by omega) hbo; rw [← hCE, if_neg hce] at h; exact h)) ?_
   refine mv_ rfl (wl_ov (ov_extract rfl rfl) rfl (wl_ov (ov_extract rfl rfl) rfl (sg_ rfl (sg_ rfl (nn_ (gw_seq (sr_ (mv_ rfl (wl_ov (ov_eql rfl rfl) rfl (nn_ ?_))))))))))
   refine gw_set 64 (v' := .bool false) rfl (congrArg Value.bool (decide_eq_false hce)) ?_
   refine cf_ rfl (sr_ (mv_ rfl (wl_ov (ov_eql rfl rfl) rfl (mv_ rfl ?_))))
   refine wl_set 106 (v' := .bool false) rfl (congrArg Value.bool (decide_eq_false hce)) ?_
   refine goff rfl rfl rfl (pf_ rfl rfl (nn_ (cf_ rfl (gw_skip (nx_then (sr_ (mv_ rfl (mv_ rfl (mv_ rfl ?_)))))))))
   refine wl_ov (ov_loads rz92 rfl (fun _ hm => hm.blkI 0 rfl) rfl rfl) rfl ?_
   refine wl_buildSlice (e := 92) (cs := [.string ⟨#[98, 122]⟩, .string x1, .int .i64 fr, .int .i64 30, .int .i64 0, .int .i64 100]) rfl (by kernel_rfl) rfl fun g4 => ?_
   by_cases hpz : PE = 0
   ·exact absurd (hCE.trans (prom_one (by omega) (hPE.symm.trans hpz)).1) hce
   refine wl_callv rfl cb50 rfl rfl (fun wx hm => ((promote_any cs A0 4 c0 sl A1 n1 c1 l A n c [(⟨⟨#[98, 122]⟩, x1, fr, 30, 0, 100⟩ : Bk)] _ 1 1 wx (hm.fact 2 rfl).1 hco (by omega) (hm.fact 3 rfl).1 hso (by omega) (hm.fact 4 rfl).1 hok (by omega) (SlT.ofBlk (l := [(⟨⟨#[98, 122]⟩, x1, fr, 30, 0, 100⟩ : Bk)]) bk_len (hm.blkI 0 rfl)) (oneB_ok hbo) (by omega)).mono fun _ _ ⟨h, hg⟩ => by
    rw [← hPE] at h
    rcases h with ⟨_, he⟩ | ⟨h2, _⟩
    ·exact ⟨he, hg⟩
    exact absurd h2 hpz)) ?_
   refine mv_ rfl (wl_ov (ov_extract rfl rfl) rfl (wl_ov (ov_extract rfl rfl) rfl (sg_ rfl (sg_ rfl (nn_ (sr_ (mv_ rfl (wl_ov (ov_neq rfl rfl) rfl (mv_ rfl ?_)))))))))
   refine wl_set 120 (v' := .bool true) rfl (congrArg Value.bool (by rw [decide_eq_false hpz]; rfl)) ?_
   refine goff rfl rfl rfl (goff rfl rfl rfl (goff rfl rfl rfl (goff rfl rfl rfl (goff rfl rfl rfl (pt_ rfl rfl (mv_ rfl (wl_guard_on rfl rfl rfl ?_)))))))
   refine wl_callv rfl cb23 rfl rfl (fun wx hm => (ready_any wx)) ?_
   refine pt_ rfl rfl (sg_ rfl (nn_ ?_))
   refine gw_ret ?_
   refine nx_ret1 rfl rfl fun wx hm => ?_
   exact ⟨rfl, law_end hg1 hsb (grow_trans hm_w2.g (grow_weak hm.g))⟩
  refine wl_guard_on rfl rfl rfl (wl_ov (ov_neq rfl rfl) rfl (pf_ rfl rfl (nn_ ?_)))
  refine gw_set 45 (v' := .bool true) rfl (congrArg Value.bool (by rw [decide_eq_false hk0]; rfl)) ?_
  refine ct_ rfl (sr_ ?_)
  refine wl_callv rfl cb23 rfl rfl (fun wx hm => (ready_any wx)) ?_
  refine sg_ rfl (nn_ ?_)
  refine gw_ret ?_
  refine nx_then_ret ?_
  refine nx_ret1 rfl rfl fun wx hm => ?_
  exact ⟨rfl, law_end hg1 hsb (grow_trans hm_w2.g (grow_weak hm.g))⟩
 refine wl_ov (ov_neq rfl rfl) rfl (mv_ rfl ?_)
 refine wl_set 40 (v' := .bool true) rfl (congrArg Value.bool (by rw [decide_eq_false hs0]; rfl)) ?_
 refine goff rfl rfl rfl (goff rfl rfl rfl (goff rfl rfl rfl (goff rfl rfl rfl (pt_ rfl rfl (nn_ (ct_ rfl (sr_ ?_)))))))
 refine wl_callv rfl cb23 rfl rfl (fun wx hm => (ready_any wx)) ?_
 refine sg_ rfl (nn_ ?_)
 refine gw_ret ?_
 refine nx_then_ret ?_
 refine nx_ret1 rfl rfl fun wx hm => ?_
 exact ⟨rfl, law_end hg1 hsb (grow_trans hm_w2.g (grow_weak hm.g))⟩
end Go.Proofs.YtempjmpfdniecaaGreatDoor
