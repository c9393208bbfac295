/- The generators' small contracts, over what a walk keeps. -/
import Derived.Test.YtmpomocahgcebaaDoorKp
import Derived.Test.YtmpomocahgcebaaDoorGr
namespace Go.Proofs.YtmpomocahgcebaaDoor
open Go.RowKit

section
variable {Tt : List TypeId} {w0 w : World} {B sb m : Nat} {L : List (Nat × TypeId × List Value)} {X : World → Prop}
/-- A value is handed back, and all is kept. -/
def KInt (Tt : List TypeId) (w0 : World) (B sb m : Nat) (L : List (Nat × TypeId × List Value)) (X : World → Prop) (P : Int → Prop) (e : Ending) (w' : World) : Prop := ∃ v : Int, P v ∧ e = .returned (.int .i64 v) ∧ Kept 25 Tt w0 B sb m L X w'
def KStr (Tt : List TypeId) (w0 : World) (B sb m : Nat) (L : List (Nat × TypeId × List Value)) (X : World → Prop) (P : ByteArray → Prop) (e : Ending) (w' : World) : Prop := ∃ v : ByteArray, P v ∧ e = .returned (.string v) ∧ Kept 25 Tt w0 B sb m L X w'
def KBool (Tt : List TypeId) (w0 : World) (B sb m : Nat) (L : List (Nat × TypeId × List Value)) (X : World → Prop) (e : Ending) (w' : World) : Prop := ∃ v : Bool, e = .returned (.bool v) ∧ Kept 25 Tt w0 B sb m L X w'
theorem pick_kept (I : Kept 25 Tt w0 B sb m L X w) (xs : List Int) {g n c : Nat} {T : TypeId} {cs : List Value} (hmem : (g, T, cs) ∈ L) (hm : m ≤ 1000000000000) (hcs : xs.map (Value.int .i64) = cs) (hn : xs.length = n) (hx : 0 < n) (hx2 : n ≤ 1000000) :
    Calls Tryd.prog 23 #[.pointer (some ⟨sb, 0, none⟩), .slice (some ⟨g, 0, none⟩) n c] w (KInt Tt w0 B sb (m + 1) L X (· ∈ xs)) :=
  by
  subst hcs; subst hn
  exact (pick_any xs g c T w B sb m I.s hm hx hx2 (I.blk hmem) (I.ne hmem)).mono fun _ _ ⟨v, hv, he, hS, hg⟩ => ⟨v, hv, he, I.strm hS hg⟩
theorem some_kept (I : Kept 25 Tt w0 B sb m L X w) (xs : List ByteArray) {g n c : Nat} {T : TypeId} {cs : List Value} (hmem : (g, T, cs) ∈ L) (hm : m ≤ 1000000000000) (hcs : xs.map Value.string = cs) (hn : xs.length = n) (hx : 0 < n) (hx2 : n ≤ 1000000) :
    Calls Tryd.prog 66 #[.pointer (some ⟨sb, 0, none⟩), .slice (some ⟨g, 0, none⟩) n c] w (KStr Tt w0 B sb (m + 1) L X (· ∈ xs)) :=
  by
  subst hcs; subst hn
  exact (some_any xs g c T w B sb m I.s hm hx hx2 (I.blk hmem) (I.ne hmem)).mono fun _ _ ⟨v, hv, he, hS, hg⟩ => ⟨v, hv, he, I.strm hS hg⟩
theorem flip_kept (I : Kept 25 Tt w0 B sb m L X w) (n : Int) (hm : m ≤ 1000000000000) (h1 : -9223372036854775808 ≤ n) (h2 : n ≤ 9223372036854775807) :
    Calls Tryd.prog 87 #[.pointer (some ⟨sb, 0, none⟩), .int .i64 n] w (KBool Tt w0 B sb (m + 1) L X) :=
  (flip_any n w B sb m I.s hm h1 h2).mono fun _ _ ⟨v, he, hS, hg⟩ => ⟨v, he, I.strm hS hg⟩
theorem next_kept (I : Kept 25 Tt w0 B sb m L X w) (n : Int) (hm : m ≤ 1000000000000) (h1 : -9223372036854775808 ≤ n) (h2 : n ≤ 9223372036854775807) :
    Calls Tryd.prog 88 #[.pointer (some ⟨sb, 0, none⟩), .int .i64 n] w (KInt Tt w0 B sb (m + 1) L X (IsBelow n)) :=
  (next_any n w B sb m I.s hm h1 h2).mono fun _ _ ⟨v, hv, he, hS, hg⟩ => ⟨v, hv, he, I.strm hS hg⟩
theorem range_kept (I : Kept 25 Tt w0 B sb m L X w) (lo hi : Int) (hm : m ≤ 1000000000000) (h1 : -4611686018427387904 ≤ lo) (h2 : hi ≤ 4611686018427387902) (h3 : lo ≤ 4611686018427387902) (h4 : -4611686018427387904 ≤ hi) :
    Calls Tryd.prog 15 #[.pointer (some ⟨sb, 0, none⟩), .int .i64 lo, .int .i64 hi] w (KInt Tt w0 B sb (m + 1) L X (fun v => lo ≤ v ∧ (v ≤ hi ∨ v = lo))) :=
  (range_any lo hi w B sb m I.s hm h1 h2 h3 h4).mono fun _ _ ⟨v, hv, he, hS, hg⟩ => ⟨v, hv, he, I.strm hS hg⟩
theorem odd_kept (I : Kept 25 Tt w0 B sb m L X w) (lo hi : Int) (hm : m ≤ 900000000000) (h1 : -1000000000000000 ≤ lo) (h2 : hi ≤ 1000000000000000) (h3 : lo ≤ hi) :
    Calls Tryd.prog 89 #[.pointer (some ⟨sb, 0, none⟩), .int .i64 lo, .int .i64 hi] w (KInt Tt w0 B sb (m + 2) L X (fun v => -2000000000000000 ≤ v ∧ v ≤ 2000000000000000)) :=
  (odd_any lo hi w B sb m I.s hm h1 h2 h3).mono fun _ _ ⟨v, hv, he, hS, hg⟩ => ⟨v, hv, he, I.strm hS hg⟩
theorem reading_kept (I : Kept 25 Tt w0 B sb m L X w) (at_ : Int) (hm : m ≤ 100000000000) (h0 : -4000000000000000 ≤ at_) (h1 : at_ ≤ 4000000000000000) :
    Calls Tryd.prog 164 #[.pointer (some ⟨sb, 0, none⟩), .int .i64 at_] w (fun e w' => ∃ r : Rd, RdOk r ∧ e = .returned (.agg (rdCells r).toArray) ∧ Kept 25 Tt w0 B sb (m + 10) L X w') :=
  (greading_any at_ w B sb m I.s hm h0 h1).mono fun _ _ ⟨r, hr, he, hS, hg⟩ => ⟨r, hr, he, I.strm hS hg⟩
theorem time_kept (I : Kept 25 Tt w0 B sb m L X w) (hm : m ≤ 100000000000) :
    Calls Tryd.prog 29 #[.pointer (some ⟨sb, 0, none⟩)] w (fun e w' => ∃ fr to_ : Int, Far fr ∧ Far to_ ∧ e = .returned (.agg #[.int .i64 fr, .int .i64 to_]) ∧ Kept 25 Tt w0 B sb (m + 10) L X w') :=
  (gtime_any w B sb m I.s hm).mono fun _ _ ⟨fr, to_, h1, h2, he, hS, hg⟩ => ⟨fr, to_, h1, h2, he, I.strm hS hg⟩
end

end Go.Proofs.YtmpomocahgcebaaDoor
