/- What the small functions of the program compute, in plain terms. -/
import GoSem.Op.String
namespace Go.Proofs.YtmpomocahgcebaaDoor

def inB (n lo hi : Int) : Bool := decide (lo ≤ n) && decide (n ≤ hi)
def whenE (b : Bool) (e : Int) : Int := bif b then e else 0
def firstE : List Int → Int
  | [] => 0
  | e :: r => if e = 0 then firstE r else e
theorem whenE_true (e : Int) : whenE true e = e := rfl
theorem whenE_false (e : Int) : whenE false e = 0 := rfl
theorem inB_iff {n lo hi : Int} : inB n lo hi = true ↔ lo ≤ n ∧ n ≤ hi := by simp [inB]
theorem inB_false {n lo hi : Int} : inB n lo hi = false ↔ ¬ (lo ≤ n ∧ n ≤ hi) := by rw [← inB_iff]; simp

/-- The letters of a key: a small letter; the others also digits, - and _. -/
def smallB (c : UInt8) : Bool := decide (97 ≤ c.toNat) && decide (c.toNat ≤ 122)
def keyCharB (c : UInt8) : Bool := smallB c || (decide (48 ≤ c.toNat) && decide (c.toNat ≤ 57)) || decide (c.toNat = 45) || decide (c.toNat = 95)
def keyRestB (l : List UInt8) : Bool := l.all keyCharB
def keyLB : List UInt8 → Bool
  | [] => false
  | c :: r => smallB c && keyRestB r && decide (r.length < 40)
def keyB (s : ByteArray) : Bool := keyLB s.data.toList

/-- A check over a list, with the element before: the first error. -/
def scanE {α : Type} (f : Option α → α → Int) : Option α → List α → Int
  | _, [] => 0
  | p, x :: r => if f p x = 0 then scanE f (some x) r else f p x
def prevOf {α : Type} (l : List α) (k : Nat) : Option α := if k = 0 then none else l[k - 1]?
theorem scanE_at {α : Type} (f : Option α → α → Int) (l : List α) (k : Nat) (x : α) (h : l[k]? = some x) :
    scanE f (prevOf l k) (l.drop k) = if f (prevOf l k) x = 0 then scanE f (prevOf l (k + 1)) (l.drop (k + 1)) else f (prevOf l k) x := by
  obtain ⟨hk, rfl⟩ := List.getElem?_eq_some_iff.1 h
  rw [List.drop_eq_getElem_cons hk]
  simp [scanE, prevOf, hk]
  rfl
theorem scanE_end {α : Type} (f : Option α → α → Int) (p : Option α) (l : List α) (k : Nat) (h : l.length ≤ k) : scanE f p (l.drop k) = 0 := by
  rw [List.drop_eq_nil_of_le h]; rfl

/-- a <= b on strings, as the model says it. -/
def leB (a b : ByteArray) : Bool := Go.Op.bytesLess a.toList b.toList || a.toList == b.toList

/-- A station: its key, and from and to of seven days. -/
structure St where
  key : ByteArray
  hs : List Int
def frAt (hs : List Int) (i : Nat) : Int := hs.getD (i * 2) 0
def toAt (hs : List Int) (i : Nat) : Int := hs.getD (i * 2 + 1) 0
def winBad (f t : Int) : Bool := !inB f 0 t || decide (1440 < t)
def hoursBad (hs : List Int) : Bool := (List.range 7).any fun i => winBad (frAt hs i) (toAt hs i)
def prevB {α : Type} (p : Option α) (f : α → Bool) : Bool :=
  match p with
  | none => false
  | some q => f q
def stationE (p : Option St) (s : St) : Int :=
  if keyB s.key = false then 5 else
  if prevB p (fun q => leB s.key q.key) then 7 else
  if hoursBad s.hs then 1 else 0
def stationsE (l : List St) : Int := if 50 < l.length then 2 else scanE stationE none l

/-- Readings, legs and hires. -/
structure Rd where
  at_ : Int
  st : ByteArray
  meter : Int
  fuel : Int
structure Lg where
  veh : ByteArray
  out : Rd
  inn : Rd
structure Hr where
  key : ByteArray
  driver : ByteArray
  fr : Int
  to_ : Int
  legs : List Lg

def eqS (a b : ByteArray) : Bool := a.toList == b.toList
def momentE (n : Int) : Int := whenE (!inB n 0 5761439) 1
def daysV (a b : Int) : Int := (b - a + 1439) / 1440
def timeE (a b : Int) : Int := if a < 0 ∨ b ≤ a ∨ 5761439 < b then 1 else whenE (decide (120 < daysV a b)) 2
def readingE (r : Rd) : Int := firstE [momentE r.at_, whenE (!keyB r.st) 5, whenE (!inB r.meter 0 999999 || !inB r.fuel 0 8) 1]
def rdOut (r : Rd) : Bool := !(r.at_ == -1 && r.st.toList == [] && r.meter == 0 && r.fuel == 0)
def legPrevE (fr : Int) (p : Option Lg) (g : Lg) : Int :=
  match p with
  | none => if g.out.at_ = fr then 0 else 7
  | some q => if g.out.at_ = q.inn.at_ then (if eqS g.veh q.veh then 16 else if eqS g.out.st q.inn.st then 0 else 8) else 7
def legInE (last : Bool) (g : Lg) : Int :=
  if g.inn.at_ = -1 then firstE [whenE (rdOut g.inn) 3, whenE (!last) 11] else firstE [readingE g.inn, whenE (decide (g.inn.at_ ≤ g.out.at_)) 7]
def legE (fr : Int) (p : Option Lg) (last : Bool) (g : Lg) : Int :=
  firstE [whenE (!keyB g.veh) 5, readingE g.out, legPrevE fr p g, legInE last g]
def legsE (fr : Int) (l : List Lg) : Nat → Int
  | 0 => 0
  | n + 1 => match l[l.length - (n + 1)]? with
    | none => 0
    | some g => if legE fr (prevOf l (l.length - (n + 1))) (decide (n = 0)) g = 0 then legsE fr l n else legE fr (prevOf l (l.length - (n + 1))) (decide (n = 0)) g
def hireE (h : Hr) : Int :=
  firstE [whenE (!keyB h.key || !keyB h.driver) 5, timeE h.fr h.to_, if h.legs.length = 0 then 3 else if 20 < h.legs.length then 2 else legsE h.fr h.legs h.legs.length]

theorem momentE_ok {n : Int} (h : momentE n = 0) : 0 ≤ n ∧ n ≤ 5761439 := by
  unfold momentE whenE at h
  cases hb : inB n 0 5761439
  · simp [hb] at h
  · exact inB_iff.1 hb
theorem firstE_two {a b : Int} (h : firstE [a, b] = 0) : a = 0 ∧ b = 0 := by
  simp only [firstE] at h
  split at h
  · split at h
    · exact ⟨‹_›, ‹_›⟩
    · exact absurd h ‹_›
  · exact absurd h ‹_›

end Go.Proofs.YtmpomocahgcebaaDoor
