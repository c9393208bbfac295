/- Several texts as one: Spec Dp Tp Base Ga Wa Wkey Tl Cp Sh Dl Hc Rk Fl Fv Cells Lst Sx So Sc Sd Own Se Run Sg Si Zk Sj Su Sw Mp Md Ev -/
import GoSem.Op.String
import Derived.WalkKit
import Derived.WalkSpells
import Derived.WalkLawsBesides
import Derived.Deep.Draws
import Derived.Lib.Hide
import Derived.Deep.MidRow
import Derived.Laws.CopyRow
import Derived.Deep.QuietTactic
import Derived.BigQuiet
import Derived.Deep.RegionWith
import Derived.Deep.RegionLaw
import Derived.Deep.AppendLies
import Derived.Deep.RegionHeld3
import Derived.Deep.LoopGhost
import Derived.Deep.DeepCutAuto
import Derived.StillTailTactics
import Derived.Deep.DeepMust
import Derived.Deep.DeepFit
import Derived.Deep.Light
import Derived.Lib.Strings
import Derived.Maps.AppendAt
import Derived.Test.YtapdhfjfgpbnnaaGreatDoorChecked
import Derived.Test.YtapdhfjfgpbnnaaGreatDoorProg
import Derived.Ground.NamesProg
import Derived.Shelf.Strings.SlTrimAscii
import Derived.Lib.SlTrimSet
import Derived.Laws.Tables
import Derived.IntWalk
import Derived.Laws.Small
import Derived.Laws.ResultCell
import Derived.Laws.Rows
import Derived.OwnWalk
import Derived.LoopN
import Derived.Laws.StructEq
import Derived.Deep.OwnRows
import Derived.Maps.Own
import Derived.MapKept
set_option maxRecDepth 100000
set_option maxHeartbeats 4000000
namespace Go.Proofs.YtapdhfjfgpbnnaaGreatDoor
theorem D {α:Sort _} {a:α}:a=a:=rfl
theorem fW9 {a b:Bool} (h:a=b):Value.bool a=.bool b:=congrArg _ h
theorem fX9 {a b:Int} (h:a=b):Value.int .i64 a=.int .i64 b:=congrArg _ h
theorem fY9 {α:Type _} {l:List α} {i:Nat} (h:i<l.length):l[i]? =some l[i]:=List.getElem?_eq_getElem h
theorem fZ9 {α:Type _} {l:List α} {i:Nat} {a:α} (h:l[i]? =some a):a∈l:=List.mem_of_getElem? h
theorem G {p:Prop} (h:p:=by omega):p:=h
theorem bE {p:Prop} (h:p:=by dsimp only;omega):p:=h
theorem bD {p:Prop} (h:p:=by decide):p:=h
theorem bC {p:Prop} (h:p:=by kernel_rfl):p:=h
theorem bB:True:=True.intro
abbrev J (n:Int):Value:= .int .i64 n
abbrev I (n:Nat):Value:= .int .i64 (n:Int)
abbrev M:=ByteArray
abbrev U (x:ByteArray):Value:= .string x
abbrev H (A:Option Addr) (n c:Nat):Value:= .slice A n c
open Tryz
open Go.RowKit
def inB(n lo hi:Int):Bool:=decide (lo<=n)&&decide (n<=hi)
def dO(b:Bool)(e:Int):Int:=bif b then e else 0
def dK:List Int->Int
 | []=>0
 |e::r=>if e=0 then dK r else e
theorem nK{n lo hi:Int}:inB n lo hi=true↔lo<=n/\n<=hi:=by simp [inB]
theorem cH4{n lo hi:Int}:inB n lo hi=false↔¬(lo<=n/\n<=hi):=by rw [<-nK];simp
def rS(c:UInt8):Bool:=decide (97<=c.toNat)&&decide (c.toNat<=122)
def pE(c:UInt8):Bool:=rS c||(decide (48<=c.toNat)&&decide (c.toNat<=57))||decide (c.toNat=45)||decide (c.toNat=95)
def bN5(l:List UInt8):Bool:=l.all pE
def cM4:List UInt8->Bool
 | []=>false
 |c::r=>rS c&&bN5 r&&decide (r.length < 40)
def keyB(s:M):Bool:=cM4 s.data.toList
def scanE{α:Type}(f:Option α->α->Int):Option α->List α->Int
 |_, []=>0
 |p,x::r=>if f p x=0 then scanE f (some x) r else f p x
def prevOf{α:Type}(l:List α)(k:Nat):Option α:=if k=0 then none else l[k - 1]?
theorem scanE_at{α:Type}(f:Option α->α->Int)(l:List α)(k:Nat)(x:α)(h:l[k]?=some x):
 scanE f (prevOf l k) (l.drop k)=if f (prevOf l k) x=0 then scanE f (prevOf l (k+1)) (l.drop (k+1)) else f (prevOf l k) x:=by
 obtain ⟨hk,rfl⟩:=List.getElem?_eq_some_iff.1 h
 rw [List.drop_eq_getElem_cons hk]
 simp [scanE,prevOf,hk]
 rfl
theorem scanE_end{α:Type}(f:Option α->α->Int)(p:Option α)(l:List α)(k:Nat)(h:l.length<=k):scanE f p (l.drop k)=0:=by
 rw [List.drop_eq_nil_of_le h];rfl
def leB(a b:M):Bool:=Go.Op.bytesLess a.toList b.toList||a.toList==b.toList
structure St where
 key:M
 hs:List Int
def frAt(hs:List Int)(i:Nat):Int:=hs.getD (i *2) 0
def toAt(hs:List Int)(i:Nat):Int:=hs.getD (i *2+1) 0
def winBad(f t:Int):Bool:= !inB f 0 t||decide (1440 < t)
def hoursBad(hs:List Int):Bool:=(List.range 7).any fun i=>winBad (frAt hs i) (toAt hs i)
def prevB{α:Type}(p:Option α)(f:α->Bool):Bool:=
 match p with
 |none=>false
 |some q=>f q
def stationE(p:Option St)(s:St):Int:=
 if keyB s.key=false then 5 else
 if prevB p (fun q=>leB s.key q.key) then 7 else
 if hoursBad s.hs then 1 else 0
def stationsE(l:List St):Int:=if 50 < l.length then 2 else scanE stationE none l
structure Rd where
 at_:Int
 st:M
 meter:Int
 fuel:Int
structure Lg where
 veh:M
 out:Rd
 inn:Rd
structure Hr where
 key:M
 driver:M
 fr:Int
 to_:Int
 legs:List Lg
def eqS(a b:M):Bool:=a.toList==b.toList
def zS(n:Int):Int:=dO (!inB n 0 5761439) 1
def cY8(a b:Int):Int:=(b - a+1439) / 1440
def bO0(a b:Int):Int:=if a < 0∨b<=a∨5761439 < b then 1 else dO (decide (120 < cY8 a b)) 2
def qO(r:Rd):Int:=dK [zS r.at_,dO (!keyB r.st) 5,dO (!inB r.meter 0 999999|| !inB r.fuel 0 8) 1]
def dT5(r:Rd):Bool:= !(r.at_== -1&&r.st.toList== []&&r.meter==0&&r.fuel==0)
def wW(fr:Int)(p:Option Lg)(g:Lg):Int:=
 match p with
 |none=>if g.out.at_=fr then 0 else 7
 |some q=>if g.out.at_=q.inn.at_ then (if eqS g.veh q.veh then 16 else if eqS g.out.st q.inn.st then 0 else 8) else 7
def cH1(last:Bool)(g:Lg):Int:=
 if g.inn.at_= -1 then dK [dO (dT5 g.inn) 3,dO (!last) 11] else dK [qO g.inn,dO (decide (g.inn.at_<=g.out.at_)) 7]
def cG1(fr:Int)(p:Option Lg)(last:Bool)(g:Lg):Int:=
 dK [dO (!keyB g.veh) 5,qO g.out,wW fr p g,cH1 last g]
def bR5(fr:Int)(l:List Lg):Nat->Int
 |0=>0
 |n+1=>match l[l.length - (n+1)]? with
  |none=>0
  |some g=>if cG1 fr (prevOf l (l.length - (n+1))) (decide (n=0)) g=0 then bR5 fr l n else cG1 fr (prevOf l (l.length - (n+1))) (decide (n=0)) g
def hireE(h:Hr):Int:=
 dK [dO (!keyB h.key|| !keyB h.driver) 5,bO0 h.fr h.to_,if h.legs.length=0 then 3 else if 20 < h.legs.length then 2 else bR5 h.fr h.legs h.legs.length]
theorem dF3{n:Int}(h:zS n=0):0<=n/\n<=5761439:=by
 unfold zS dO at h
 cases hb:inB n 0 5761439
 ·simp [hb] at h
 ·exact nK.1 hb
theorem uZ{a b:Int}(h:dK [a,b]=0):a=0/\b=0:=by
 simp only [dK] at h
 split at h
 ·split at h
  ·exact ⟨‹_›,‹_›⟩
  ·exact absurd h ‹_›
 ·exact absurd h ‹_›
theorem uT:∀(x:List UInt8),Go.Op.bytesLess x x=false
 | []=>rfl
 |a::x=>by
  unfold Go.Op.bytesLess
  rw [uT x]
  have h:¬a < a:=fun h=>absurd (UInt8.lt_iff_toNat_lt.1 h) G
  simp [h]
theorem cP5{a b:UInt8}{x y:List UInt8}:Go.Op.bytesLess (a::x) (b::y)=true↔a.toNat < b.toNat∨(a=b/\Go.Op.bytesLess x y=true):=by
 rw [Go.Op.bytesLess]
 simp [UInt8.lt_iff_toNat_lt]
theorem bQ4:∀{x y z:List UInt8},Go.Op.bytesLess x y=true->Go.Op.bytesLess y z=true->Go.Op.bytesLess x z=true
 |_, [],_,h,_=>by cases ‹List UInt8› <;> simp [Go.Op.bytesLess] at h
 |_,_::_, [],_,h=>by simp [Go.Op.bytesLess] at h
 | [],_::_,_::_,_,_=>rfl
 |a::x,b::y,c::z,h,g=>by
  rw [cP5] at h g ⊢
  rcases h with h|⟨rfl,h⟩ <;> rcases g with g|⟨rfl,g⟩
  ·left;omega
  ·left;exact h
  ·left;exact g
  ·right;exact ⟨rfl,bQ4 h g⟩
theorem bV6:∀{x y:List UInt8},Go.Op.bytesLess x y=false->Go.Op.bytesLess y x=false->x=y
 | [], [],_,_=>rfl
 | [],_::_,h,_=>by simp [Go.Op.bytesLess] at h
 |_::_, [],_,h=>by simp [Go.Op.bytesLess] at h
 |a::x,b::y,h,g=>by
  have h1:¬(a.toNat < b.toNat∨(a=b/\Go.Op.bytesLess x y=true)):=fun e=>by rw [cP5.2 e] at h;cases h
  have g1:¬(b.toNat < a.toNat∨(b=a/\Go.Op.bytesLess y x=true)):=fun e=>by rw [cP5.2 e] at g;cases g
  have e:a=b:=by
   have:¬a.toNat < b.toNat:=fun e=>h1 (.inl e)
   have:¬b.toNat < a.toNat:=fun e=>g1 (.inl e)
   exact UInt8.toNat_inj.1 G
  subst e
  have h2:Go.Op.bytesLess x y=false:=by
   cases hb:Go.Op.bytesLess x y
   ·rfl
   ·exact absurd (.inr ⟨D,hb⟩) h1
  have g2:Go.Op.bytesLess y x=false:=by
   cases hb:Go.Op.bytesLess y x
   ·rfl
   ·exact absurd (.inr ⟨D,hb⟩) g1
  rw [bV6 h2 g2]
theorem cD0{x y:List UInt8}(h:Go.Op.bytesLess x y=true):Go.Op.bytesLess y x=false:=by
 cases hb:Go.Op.bytesLess y x
 ·rfl
 ·have:=bQ4 h hb
  rw [uT] at this;cases this
theorem cD8{x y:List UInt8}(h:Go.Op.bytesLess x y=true):x≠y:=fun e=>by subst e;rw [uT] at h;cases h
structure Rt where
 cls:M
 fr:Int
 to_:Int
 hr:Int
 dy:Int
 we:Int
 wk:Int
def cV2(r:Rt):Prop:=r.cls.size<=1000000
def ltS(a b:M):Bool:=Go.Op.bytesLess a.toList b.toList
def bE3(q r:Rt):Bool:=ltS q.cls r.cls||(eqS q.cls r.cls&&decide (q.fr < r.fr))
def gD(p:Option Rt)(r:Rt):Int:=
 if keyB r.cls=false then 5 else if r.fr < 0∨r.to_<=r.fr∨4001 < r.to_ then 1 else
 if inB r.hr (-1) 1000000=false∨inB r.dy (-1) 1000000=false∨inB r.we (-1) 1000000=false∨inB r.wk (-1) 1000000=false then 1 else
 match p with
 |none=>0
 |some q=>if bE3 q r=false then 7 else if (eqS q.cls r.cls&&decide (r.fr < q.to_))=true then 13 else 0
def qE(l:List Rt):Int:=if 200 < l.length then 2 else scanE gD none l
def kL{α:Type}(p:α->Bool):List α->Nat->Int
 | [],_=> -1
 |x::r,k=>if p x=true then (k:Int) else kL p r (k+1)
theorem bS1{α:Type}{p:α->Bool}{l:List α}{k:Nat}{x:α}(h:l[k]?=some x):kL p (l.drop k) k=if p x=true then (k:Int) else kL p (l.drop (k+1)) (k+1):=by
 obtain ⟨hk,rfl⟩:=List.getElem?_eq_some_iff.1 h
 rw [List.drop_eq_getElem_cons hk];rfl
theorem vR{α:Type}{p:α->Bool}:∀(l:List α) (k:Nat),(kL p l k= -1/\∀x∈l,p x=false)∨∃j x,kL p l k=((k+j:Nat):Int)/\l[j]?=some x/\p x=true/\∀i,i < j->∀y,l[i]?=some y->p y=false
 | [],k=> .inl ⟨rfl,fun _ h=>by cases h⟩
 |x::r,k=>by
  unfold kL
  cases hp:p x
  ·rw [if_neg (by simp)]
   rcases vR (p:=p) r (k+1) with ⟨h1,h2⟩|⟨j,y,h1,h2,h3,h4⟩
   ·refine .inl ⟨h1,fun y hy=>?_⟩
    rcases List.mem_cons.1 hy with rfl|hy
    ·exact hp
    ·exact h2 y hy
   ·refine .inr ⟨j+1,y,by rw [h1];omega,by simpa using h2,h3,fun i hi z hz=>?_⟩
    cases i with
    |zero=>simp at hz;rw [<-hz];exact hp
    |succ i=>exact h4 i (by omega) z (by simpa using hz)
  ·rw [if_pos rfl]
   exact .inr ⟨0,x,G,rfl,hp,fun i hi=>G⟩
theorem bL7{α:Type}{p:α->Bool}(l:List α): -1<=kL p l 0/\kL p l 0 < (l.length:Int):=by
 rcases vR (p:=p) l 0 with ⟨h,_⟩|⟨j,x,h,hj,_⟩
 ·rw [h];omega
 ·obtain ⟨hk,_⟩:=List.getElem?_eq_some_iff.1 hj
  rw [h];omega
theorem dJ5{α:Type}{p:α->Bool}{l:List α}(h:0<=kL p l 0):∃x,l[(kL p l 0).toNat]?=some x/\p x=true:=by
 rcases vR (p:=p) l 0 with ⟨h1,_⟩|⟨j,x,h1,hj,hp,_⟩
 ·omega
 ·rw [h1];exact ⟨x,by simpa using hj,hp⟩
theorem bP2{α:Type}{l:List α}{k:Nat}(h:k=0):prevOf l k=none:=by unfold prevOf;rw [if_pos h]
theorem cK7{α:Type}{l:List α}{k:Nat}{y:α}(h:¬k=0)(hy:l[k - 1]?=some y):prevOf l k=some y:=by unfold prevOf;rw [if_neg h,hy]
def qC(a b:M):Int:=if Go.Op.bytesLess a.toList b.toList=true then -1 else if (Go.Op.bytesLess a.toList b.toList||a.toList==b.toList)=false then 1 else 0
def pT(a b:Int):Int:=if a < b then -1 else if b < a then 1 else 0
theorem uW{a b:M}:qC a b=0↔(Go.Op.bytesLess a.toList b.toList=false/\a.toList=b.toList):=by
 unfold qC
 cases h:Go.Op.bytesLess a.toList b.toList
 ·by_cases e:a.toList=b.toList
  ·simp [e]
  ·have:(a.toList==b.toList)=false:=by simpa using e
   simp [this,e]
 ·simp
theorem vQ(a b:Int):dK [a,b]=if a=0 then b else a:=by
 simp only [dK]
 by_cases h:a=0
 ·rw [if_pos h,if_pos h]
  by_cases h2:b=0
  ·rw [if_pos h2,h2]
  ·rw [if_neg h2]
 ·rw [if_neg h,if_neg h]
theorem eU2(q r:Rt):0<=dK [qC q.cls r.cls,pT q.fr r.fr]↔bE3 q r=false:=by
 unfold bE3 ltS eqS
 rw [vQ]
 by_cases h:qC q.cls r.cls=0
 ·rw [if_pos h]
  obtain ⟨h1,h2⟩:=uW.1 h
  rw [h1,h2]
  unfold pT
  by_cases h3:q.fr < r.fr
  ·simp [h3]
  ·by_cases h4:r.fr < q.fr <;> simp [h3,h4]
 ·rw [if_neg h]
  unfold qC at h ⊢
  cases h1:Go.Op.bytesLess q.cls.toList r.cls.toList
  ·cases h2:(q.cls.toList==r.cls.toList)
   ·simp
   ·rw [h1,h2] at h;simp at h
  ·simp
theorem dM5(q r:Rt):(Go.Op.bytesLess r.cls.toList q.cls.toList||(r.cls.toList==q.cls.toList&&decide (r.fr<=q.fr)))= !bE3 q r:=by
 unfold bE3 ltS eqS
 cases h1:Go.Op.bytesLess r.cls.toList q.cls.toList
 ·cases h2:Go.Op.bytesLess q.cls.toList r.cls.toList
  ·have e:=bV6 h1 h2
   rw [e];simp
   by_cases h3:q.fr < r.fr
   ·simp [h3]
   ·simp [h3];omega
  ·have e:=cD8 h2
   have e2:(r.cls.toList==q.cls.toList)=false:=by simpa using fun h=>e h.symm
   rw [e2];simp
 ·have e:=cD8 h1
  have e2:(q.cls.toList==r.cls.toList)=false:=by simpa using fun h=>e h.symm
  rw [cD0 h1,e2];simp
structure fQ (TS:TypeId) (w:World) (B sb m:Nat):Prop where
 base:B<=sb
 pos:∃(A:Option Addr) (n c:Nat) (k:Int),w.heap[sb]?=some (.cells #[H A n c,J k] TS (0,0))/\0<=k/\k<=m/\n<=9223372036854775807/\
  (0 < n->∃b off,A=some ⟨b,off,none⟩/\b < B/\∀i,i < n->∃z:Int, -9223372036854775808<=z/\z<=9223372036854775807/\w.cell? ⟨b,off+i,none⟩=some (J z))
theorem fQ.lt{TS:TypeId}{w:World}{B sb m:Nat}(h:fQ TS w B sb m):sb < w.heap.size:=by
 obtain ⟨_,_,_,_,hh,_⟩:=h.pos
 rcases Nat.lt_or_ge sb w.heap.size with hl|hg
 ·exact hl
 ·rw [Array.getElem?_eq_none hg] at hh;cases hh
theorem fQ.kept{TS:TypeId}{w w':World}{B sb m:Nat}(h:fQ TS w B sb m)(hb:∀k,k < B->w'.heap[k]?=w.heap[k]?)(hs:w'.heap[sb]?=w.heap[sb]?):fQ TS w' B sb m:=by
 refine ⟨h.base,?_⟩
 obtain ⟨A,n,c,k,hh,h0,h1,h2,h3⟩:=h.pos
 refine ⟨A,n,c,k,hs.trans hh,h0,h1,h2,fun hn=>?_⟩
 obtain ⟨b,off,e,hbB,hc⟩:=h3 hn
 refine ⟨b,off,e,hbB,fun i hi=>?_⟩
 obtain ⟨z,z1,z2,hz⟩:=hc i hi
 exact ⟨z,z1,z2,(World.cell?_of_block (hb b hbB)).trans hz⟩
theorem fQ.more{TS:TypeId}{w:World}{B sb m m':Nat}(h:fQ TS w B sb m)(hm:m<=m'):fQ TS w B sb m':=by
 refine ⟨h.base,?_⟩
 obtain ⟨A,n,c,k,hh,h0,h1,h2,h3⟩:=h.pos
 exact ⟨A,n,c,k,hh,h0,G,h2,h3⟩
theorem grow_trans{a b c:World}{row:Option Nat}(h:a.grownBy b row)(k:b.grownBy c row):a.grownBy c row:=
 ⟨k.os.trans h.os,k.tape.trans h.tape,k.output.trans h.output,Nat.le_trans h.size k.size,fun i hi hne=>(k.block i (Nat.lt_of_lt_of_le hi h.size) hne).trans (h.block i hi hne)⟩
theorem bG7{a b:World}{row:Option Nat}(h:a.grownBy b none):a.grownBy b row:=⟨h.os,h.tape,h.output,h.size,fun i hi _=>h.block i hi (by simp)⟩
theorem xV{a b:World}{row:Option Nat}(h:Below a.heap.size a b):a.grownBy b row:=⟨h.os,h.tape,h.output,h.size,fun i hi _=>h.block i hi⟩
theorem cZ2{a b:World}(h:a.grownBy b none):Below a.heap.size a b:=⟨h.os,h.tape,h.output,h.size,fun i hi=>h.block i hi (by simp)⟩
theorem pY{a w:World}{row:Option Nat}(h:a.grownBy w row):a.grownBy w.drew row:=⟨h.os,h.tape,h.output,h.size,h.block⟩
theorem grow_drewN{a w:World}{row:Option Nat}(h:a.grownBy w row)(n:Nat):a.grownBy (w.drewN n) row:=⟨h.os,h.tape,h.output,h.size,h.block⟩
theorem grow_alloc{a w:World}{row:Option Nat}(h:a.grownBy w row)(o:Obj):a.grownBy (w.alloc o) row:=
 ⟨h.os,h.tape,h.output,Nat.le_trans h.size (by simp),fun i hi hne=>(Below.heap_alloc w o i (Nat.lt_of_lt_of_le hi h.size)).trans (h.block i hi hne)⟩
theorem grow_setCell{a w:World}{row:Option Nat}(h:a.grownBy w row){p:Addr}(hp:row=some p.block∨a.heap.size<=p.block)(u:Value):a.grownBy (w.setCell p u) row:=
 ⟨h.os,h.tape,h.output,by simpa [World.setCell] using h.size,fun i hi hne=>(Below.heap_setCell w p u i (by
  rintro rfl
  rcases hp with hp|hp
  ·exact hne hp.symm
  ·omega)).trans (h.block i hi hne)⟩
theorem grow_own{a w w':World}{row r:Option Nat}(h:a.grownBy w row)(hg:w.grownBy w' r)(hr:∀k,r=some k->a.heap.size<=k):a.grownBy w' row:=
 ⟨hg.os.trans h.os,hg.tape.trans h.tape,hg.output.trans h.output,Nat.le_trans h.size hg.size,fun i hi hne=>(hg.block i (Nat.lt_of_lt_of_le hi h.size) (fun e=>by have:=hr i e.symm;omega)).trans (h.block i hi hne)⟩
theorem fQ.drewN{TS:TypeId}{w:World}{B sb m:Nat}(h:fQ TS w B sb m)(n:Nat):fQ TS (w.drewN n) B sb m:=h.kept (fun _ _=>rfl) rfl
theorem fQ.alloc{TS:TypeId}{w:World}{B sb m:Nat}(h:fQ TS w B sb m)(o:Obj):fQ TS (w.alloc o) B sb m:=
 h.kept (fun k hk=>Below.heap_alloc w o k (by have:=h.lt;have:=h.base;omega)) (Below.heap_alloc w o sb h.lt)
theorem fQ.setCell{TS:TypeId}{w:World}{B sb m:Nat}(h:fQ TS w B sb m){p:Addr}(hp:sb < p.block)(u:Value):fQ TS (w.setCell p u) B sb m:=
 h.kept (fun k hk=>Below.heap_setCell w p u k (by have:=h.base;omega)) (Below.heap_setCell w p u sb G)
theorem fQ.grown{TS:TypeId}{w w':World}{B sb m:Nat}(h:fQ TS w B sb m){r:Option Nat}(hg:w.grownBy w' r)(hr:∀k,r=some k->sb < k):fQ TS w' B sb m:=
 h.kept (fun k hk=>hg.block k (by have:=h.lt;have:=h.base;omega) (fun e=>by have:=hr k e.symm;have:=h.base;omega)) (hg.block sb h.lt (fun e=>by have:=hr sb e.symm;omega))
theorem fQ.step{TS:TypeId}{w:World}{B sb m:Nat}{A:Option Addr}{n c:Nat}{k:Int}(h:fQ TS w B sb m)(hh:w.heap[sb]?=some (.cells #[H A n c,J k] TS (0,0)))(h0:0<=k)(h1:k<=m):
 fQ TS (w.setCell ⟨sb,1,none⟩ (J (k+1))) B sb (m+1):=by
 refine ⟨h.base,?_⟩
 obtain ⟨A',n',c',k',hh',_,_,h2,h3⟩:=h.pos
 rw [hh] at hh'
 simp only [Option.some.injEq,Obj.cells.injEq,Array.mk.injEq,List.cons.injEq,Value.slice.injEq] at hh'
 obtain ⟨⟨⟨rfl,rfl,rfl⟩,_⟩,_⟩:=hh'
 refine ⟨A,n,c,k+1,?_,G,G,h2,fun hn=>?_⟩
 ·simp [World.setCell,Array.getElem?_modify,hh]
 ·obtain ⟨b,off,e,hbB,hc⟩:=h3 hn
  refine ⟨b,off,e,hbB,fun i hi=>?_⟩
  obtain ⟨z,z1,z2,hz⟩:=hc i hi
  exact ⟨z,z1,z2,(World.cell?_of_block (Below.heap_setCell w _ _ b (by have:=h.base;simp;omega))).trans hz⟩
def cK5(TS:TypeId)(w:World)(B sb m:Nat)(P:Int->Prop)(e:Ending)(w':World):Prop:=
 ∃v:Int,P v/\e=.returned (J v)/\fQ TS w' B sb m/\w.grownBy w' (some sb)
def eR4(TS:TypeId)(w:World)(B sb m:Nat)(e:Ending)(w':World):Prop:=
 ∃v:Bool,e=.returned (.bool v)/\fQ TS w' B sb m/\w.grownBy w' (some sb)
def eP9(TS:TypeId)(w:World)(B sb m:Nat)(P:M->Prop)(e:Ending)(w':World):Prop:=
 ∃v:M,P v/\e=.returned (U v)/\fQ TS w' B sb m/\w.grownBy w' (some sb)
theorem cL{k:IntKind}{a b:Int}(h:a=b):Ending.returned (.int k a)= .returned (.int k b):=by rw [h]
theorem pG{a b:Bool}(h:a=b):Ending.returned (.bool a)= .returned (.bool b):=by rw [h]
theorem eY2{b b':Bool}{x x':Int}(h:b=b')(k:x=x'):Ending.returned (.tuple #[.bool b,J x])= .returned (.tuple #[.bool b',J x']):=by rw [h,k]
def Blk(w:World)(g:Nat)(t:TypeId)(cs:List Value):Prop:=w.heap[g]?=some (.cells cs.toArray t (0,0))
section
variable {w w':World} {g:Nat} {t:TypeId} {cs:List Value}
theorem Blk.lt(h:Blk w g t cs):g < w.heap.size:=by
 rcases Nat.lt_or_ge g w.heap.size with hlt|hge
 ·exact hlt
 ·unfold Blk at h;rw [Array.getElem?_eq_none hge] at h;cases h
theorem Blk.cell(h:Blk w g t cs)(i:Nat):w.cell? ⟨g,i,none⟩=cs[i]?:=by rw [cell_of_row w g i _ t (0,0) h];simp
theorem Blk.cell_of(h:Blk w g t cs){i:Nat}{v:Value}(hv:cs[i]?=some v):w.cell? ⟨g,i,none⟩=some v:=(h.cell i).trans hv
theorem Blk.frozen(h:Blk w g t cs)(i:Nat):w.frozen? ⟨g,i,none⟩=false:=by
 unfold Blk at h
 simp [World.frozen?,h]
theorem Blk.new(w:World)(t:TypeId)(cs:List Value):Blk (w.alloc (.cells cs.toArray t)) w.heap.size t cs:=heap_alloc_new w _
theorem Blk.at_(w:World){g:Nat}(hg:w.heap.size=g)(t:TypeId)(cs:List Value):Blk (w.alloc (.cells cs.toArray t)) g t cs:=by subst hg;exact heap_alloc_new w _
theorem Blk.drew(h:Blk w g t cs):Blk w.drew g t cs:=h
theorem Blk.drewN(h:Blk w g t cs)(n:Nat):Blk (w.drewN n) g t cs:=h
theorem Blk.alloc(h:Blk w g t cs)(o:Obj):Blk (w.alloc o) g t cs:=(Below.heap_alloc w o g h.lt).trans h
theorem Blk.set_(h:Blk w g t cs)(i:Nat)(u:Value):Blk (w.setCell ⟨g,i,none⟩ u) g t (cs.set i u):=by
 unfold Blk at h ⊢
 simp [World.setCell,Array.getElem?_modify,h]
theorem Blk.far(h:Blk w g t cs){p:Addr}(hp:g≠p.block)(u:Value):Blk (w.setCell p u) g t cs:=(Below.heap_setCell w p u g hp).trans h
theorem Blk.grown{row:Option Nat}(h:Blk w g t cs)(hb:w.grownBy w' row)(hg:some g≠row):Blk w' g t cs:=(hb.block g h.lt hg).trans h
end
def kI{α:Type}(cs:List α)(o:Nat)(vs:List α):List α:=cs.take o++vs++cs.drop (o+vs.length)
theorem yA{α:Type}(cs:List α)(o:Nat)(vs:List α)(h:o+vs.length<=cs.length):(kI cs o vs).length=cs.length:=by
 simp [kI];omega
theorem cR9(l:List Int):∀v∈l.map (Value.int .i64),v.oneCell'=true:=by
 intro v hv
 simp at hv
 obtain ⟨_,_,rfl⟩:=hv
 rfl
section
variable {P:Program}
theorem wpList_store_blk{fL:Array Oper}{rest:List Oper}{op:Oper}{a:Act}{w:World}{Q:Exit->Act->World->Prop}(hgd:op.guard=none)(ty:TypeId)(x y:Operand)(ho:op.op= .store ty x y)
 (g off:Nat) (t:TypeId) (cs vs:List Value) (hb:Blk w g t cs) (hx:a.eval x= .pointer (some ⟨g,off,none⟩)) (hy:a.eval y= .agg vs.toArray)
 (n:Nat) (hi:(P.info? ty).map (·.size)=some n) (hn:vs.length=n) (hfit:off+n<=cs.length) (h1:∀v∈vs,v.oneCell'=true)
 (h:∀w',Blk w' g t (kI cs off vs)->w.grownBy w' (some g)->wpList P fL Q rest (a.put op.dst undef) w'):wpList P fL Q (op::rest) a w:=by
 subst hn
 refine wpList_plain hgd fun K hK=>?_
 have hr:=run_storeCells_at (P:=P) g off t vs 0 cs.toArray w hb (by simpa using hfit) h1
 unfold Oper.wp execOp
 cases hq:P.info? ty with
 |none=>simp [hq] at hi
 |some i=>
  have hs:i.size=vs.length:=by simpa [hq] using hi
  simp only [ho,hx,hy,Instr.storeAt,Instr.sureAddr,Sem.run_bind,Sem.run_pure,Result.andThen_ok,storeVar,sizeOf,typeInfo,Value.cells,List.size_toArray]
  simp only [Nat.add_zero] at hr
  simp [hr,hq,hs]
  refine hK _ _ (h _ ?_ ?_)
  ·unfold Blk
   rw [setRow_heap w g cs.toArray _ t (0,0) hb]
   simp [kI]
  ·refine ⟨D,D,D,by simp [World.setRow],fun k _ hne=>?_⟩
   simp only [World.setRow,Array.getElem?_modify]
   rw [if_neg (fun e=>hne (by rw [e]))]
theorem wpList_load_blk{fL:Array Oper}{rest:List Oper}{op:Oper}{a:Act}{w:World}{Q:Exit->Act->World->Prop}(hgd:op.guard=none)(ty:TypeId)(x:Operand)(ho:op.op= .load ty x)
 (g off:Nat) (t:TypeId) (cs vs:List Value) (d:TypeDesc) (hb:Blk w g t cs) (hx:a.eval x= .pointer (some ⟨g,off,none⟩))
 (hu:P.underlying ty=some d) (hd:d.isRow=true) (n:Nat) (hi:(P.info? ty).map (·.size)=some n) (hn:vs.length=n) (hv:∀j v,vs[j]?=some v->cs[off+j]?=some v)
 (h:wpList P fL Q rest (a.put op.dst (.agg vs.toArray)) w):wpList P fL Q (op::rest) a w:=
 wpList_load_mid hgd ty x ho g off hx vs d (fun j v hj=>(hb.cell _).trans (hv j v hj)) hu hd (by rw [hn];exact hi) h
end
theorem wpList_load_all{P:Program}{fL:Array Oper}{rest:List Oper}{op:Oper}{a:Act}{w:World}{Q:Exit->Act->World->Prop}(hgd:op.guard=none)(ty:TypeId)(x:Operand)(ho:op.op= .load ty x)
 (g:Nat) (t:TypeId) (cs:List Value) (d:TypeDesc) (hb:Blk w g t cs) (hx:a.eval x= .pointer (some ⟨g,0,none⟩))
 (hu:P.underlying ty=some d) (hd:d.isRow=true) (n:Nat) (hi:(P.info? ty).map (·.size)=some n) (hn:cs.length=n)
 (h:wpList P fL Q rest (a.put op.dst (.agg cs.toArray)) w):wpList P fL Q (op::rest) a w:=
 wpList_load_blk hgd ty x ho g 0 t cs cs d hb hx hu hd n hi hn (fun j v hv=>by simpa using hv) h
theorem wpList_store_all{P:Program}{fL:Array Oper}{rest:List Oper}{op:Oper}{a:Act}{w:World}{Q:Exit->Act->World->Prop}(hgd:op.guard=none)(ty:TypeId)(x y:Operand)(ho:op.op= .store ty x y)
 (g:Nat) (t:TypeId) (cs vs:List Value) (hb:Blk w g t cs) (hx:a.eval x= .pointer (some ⟨g,0,none⟩)) (hy:a.eval y= .agg vs.toArray)
 (n:Nat) (hi:(P.info? ty).map (·.size)=some n) (hn:vs.length=n) (hfit:cs.length=n) (h1:∀v∈vs,v.oneCell'=true)
 (h:∀w',Blk w' g t vs->w.grownBy w' (some g)->wpList P fL Q rest (a.put op.dst undef) w'):wpList P fL Q (op::rest) a w:=
 wpList_store_blk hgd ty x y ho g 0 t cs vs hb hx hy n hi hn G h1 (fun w' hb' hg=>h w' (by
  have:kI cs 0 vs=vs:=by simp [kI,hfit,hn]
  rwa [this] at hb') hg)
theorem bB6{P:Program}{fn:Func}{R:Ending->World->Prop}{a:Act}{w:World}{p:Tmp}{ty:TypeId}(h:fn.results=#[.cell p ty])(g:Nat)(t:TypeId)(cs:List Value)(d:TypeDesc)(hb:Blk w g t cs)
 (hp:a.tmps.getD p undef= .pointer (some ⟨g,0,none⟩)) (hu:P.underlying ty=some d) (hd:d.isRow=true) (n:Nat) (hi:(P.info? ty).map (·.size)=some n) (hn:cs.length=n) (hdf:a.defers= [])
 (hR:R (.returned (.agg cs.toArray)) w):bodyPost P fn R .ret a w:=
 bodyPost_ret (results_cell_row h a.tmps w g t cs.toArray (0,0) d hp hb hu (by cases d <;> simp_all [TypeDesc.isRow]) (by simpa [hn] using hi)) hdf hR
structure SlT {α:Type} (enc:α->List Value) (k:Nat) (T:TypeId) (w:World) (A:Option Addr) (n:Nat) (l:List α):Prop where
 len:l.length=n
 at_:0 < n->∃b off cells fz,A=some ⟨b,off,none⟩/\w.heap[b]?=some (.cells cells T fz)/\∀i x,l[i]?=some x->∀j v,(enc x)[j]?=some v->cells[off+i *k+j]?=some v
section
variable {α:Type} {enc:α->List Value} {k:Nat} {T:TypeId} {w w':World} {A:Option Addr} {n:Nat} {l:List α}
theorem SlT.nil_(w:World)(A:Option Addr):SlT enc k T w A 0 ([]:List α):=⟨rfl,fun h=>absurd h G⟩
theorem SlT.get(h:SlT enc k T w A n l)(hn:0 < n):∃b off,A=some ⟨b,off,none⟩/\b < w.heap.size/\∀i x,l[i]?=some x->w.rangeAt b (off+i *k) (enc x):=by
 obtain ⟨b,off,cells,fz,e,hh,hc⟩:=h.at_ hn
 refine ⟨b,off,e,lt_of_block hh,fun i x hx j v hv=>?_⟩
 rw [cell_of_row w b _ cells T fz hh]
 exact hc i x hx j v hv
theorem SlT.kept(h:SlT enc k T w A n l)(hb:∀b,b < w.heap.size->(∃c fz,w.heap[b]?=some (.cells c T fz))->w'.heap[b]?=w.heap[b]?):SlT enc k T w' A n l:=by
 refine ⟨h.len,fun hn=>?_⟩
 obtain ⟨b,off,cells,fz,e,hh,hc⟩:=h.at_ hn
 exact ⟨b,off,cells,fz,e,(hb b (lt_of_block hh) ⟨cells,fz,hh⟩).trans hh,hc⟩
theorem SlT.grow0(h:SlT enc k T w A n l)(hg:w.grownBy w' none):SlT enc k T w' A n l:=h.kept fun b hb _=>hg.block b hb (by simp)
theorem SlT.alloc(h:SlT enc k T w A n l)(o:Obj):SlT enc k T (w.alloc o) A n l:=h.kept fun b hb _=>Below.heap_alloc w o b hb
theorem SlT.grown(h:SlT enc k T w A n l){r:Nat}(hg:w.grownBy w' (some r)){T':TypeId}{c:Array Value}{fz:Nat×Nat}(hr:w.heap[r]?=some (.cells c T' fz))(hT:T≠T'):SlT enc k T w' A n l:=
 h.kept fun b hb ⟨c',fz',hh⟩=>hg.block b hb (by
  rintro e
  injection e with e
  subst e
  rw [hr] at hh
  injection hh with hh
  injection hh with _ ht _
  exact hT ht.symm)
theorem bB5(enc:α->List Value)(k:Nat)(hk:∀x,(enc x).length=k):∀(l:List α) (i:Nat) (x:α),l[i]?=some x->∀j v,(enc x)[j]?=some v->(l.flatMap enc)[i *k+j]?=some v
 | [],i,x,h,_,_,_=>by simp at h
 |y::r,0,x,h,j,v,hv=>by
  simp at h;subst h
  have hj:j < (enc y).length:=(List.getElem?_eq_some_iff.1 hv).1
  rw [Nat.zero_mul,Nat.zero_add,List.flatMap_cons,List.getElem?_append_left hj];exact hv
 |y::r,i+1,x,h,j,v,hv=>by
  have ih:=bB5 enc k hk r i x (by simpa using h) j v hv
  rw [List.flatMap_cons,List.getElem?_append_right (by rw [hk,Nat.add_mul];omega),hk]
  rw [show (i+1) *k+j - k=i *k+j by rw [Nat.add_mul];omega]
  exact ih
theorem SlT.ofBlk{g:Nat}(hk:∀x,(enc x).length=k)(h:Blk w g T (l.flatMap enc)):SlT enc k T w (some ⟨g,0,none⟩) l.length l:=
 ⟨rfl,fun _=>⟨g,0,_,_,rfl,h,fun i x hx j v hv=>by
  have:=bB5 enc k hk l i x hx j v hv
  simpa using this⟩⟩
theorem SlT.ofOwn{base:Nat}{c:Nat}(hk:∀x,(enc x).length=k)(h:w.ownsRow base T k (H A n c) n (l.flatMap enc))(hn:l.length=n):SlT enc k T w A n l:=by
 refine ⟨hn,fun hn0=>?_⟩
 obtain ⟨h1,h2⟩:=h
 rcases h2 with ⟨h2,h3⟩|⟨g,eX,uY,hv,_,hh,hle,_,hcs,htk⟩
 ·omega
 ·injection hv with hA _ _
  refine ⟨g,0,uY,_,hA,hh,fun i x hx j v hv=>?_⟩
  have:=bB5 enc k hk l i x hx j v hv
  rw [<-htk] at this
  rw [List.getElem?_take] at this
  split at this
  ·simpa using this
  ·cases this
end
theorem wpList_index_row{P:Program}{fL:Array Oper}{rest:List Oper}{op:Oper}{a:Act}{w:World}{Q:Exit->Act->World->Prop}(hgd:op.guard=none)(t:TypeId)(x y:Operand)(ho:op.op= .index t x y)
 (cs:List Value) (i:Nat) (hx:a.eval x= .agg cs.toArray) (hy:a.eval y=J (i:Int)) (len:Nat) (e:TypeId) (ht:P.underlying t=some (.array len e)) (d:TypeDesc) (he:P.underlying e=some d) (hd:d.isRow=true)
 (sz:Nat) (hi:(P.info? e).map (·.size)=some sz) (hlt:i < len) (vs:List Value) (hv:(cs.drop (i *sz)).take sz=vs)
 (h:wpList P fL Q rest (a.put op.dst (.agg vs.toArray)) w):wpList P fL Q (op::rest) a w:=by
 refine wpList_plain hgd fun K hK=>?_
 unfold Oper.wp execOp
 cases hq:P.info? e with
 |none=>simp [hq] at hi
 |some inf=>
  have hs:inf.size=sz:=by simpa [hq] using hi
  have hagg:(isAgg e).run P w= .ok true w:=by
   unfold isAgg
   rw [Sem.run_bind,run_underlying he w]
   cases d <;> simp_all
  have hr:(Instr.index t (.agg cs.toArray) (J (i:Int))).run P w= .ok (.agg vs.toArray) w:=by
   have hb:0<=(i:Int)/\(i:Int) < (len:Int):=⟨G,G⟩
   subst hv
   simp [Instr.index,asIntOf,run_underlying ht,sizeOf,typeInfo,hq,hs,part,hagg]
   omega
  simp only [ho,hx,hy,hr,Sem.run_bind,Result.andThen_ok]
  exact hK _ _ h
theorem nQ{P:Program}{f:FuncId}{args:Array Value}{w:World}{v:Value}(h:Calls P f args w fun e w'=>e=.returned v/\w=w'):Calls P f args w fun e w'=>e=.returned v/\w'=w:=
 h.mono fun _ _ hh=>⟨hh.1,hh.2.symm⟩
theorem bP0{P:Program}{fL:Array Oper}{rest:List Oper}{op:Oper}{a:Act}{w:World}{Q:Exit->Act->World->Prop}(hgd:op.guard=none)(ty:TypeId)(x:Operand)(ho:op.op= .load ty x)
 (b o:Nat) (hx:a.eval x= .pointer (some ⟨b,o,none⟩)) (cs:List Value) (d:TypeDesc) (hc:w.rangeAt b o cs)
 (hu:P.underlying ty=some d) (hd:d.isRow=true) (n:Nat) (hi:(P.info? ty).map (·.size)=some n) (hn:cs.length=n)
 (h:wpList P fL Q rest (a.put op.dst (.agg cs.toArray)) w):wpList P fL Q (op::rest) a w:=
 wpList_load_mid hgd ty x ho b o hx cs d hc hu hd (by rw [hn];exact hi) h
theorem cL7{w w':World}{b o:Nat}{cs:List Value}(h:w.rangeAt b o cs)(hb:b < w.heap.size)(hg:w.grownBy w' none):w'.rangeAt b o cs:=fun j v hv=>(World.cell?_of_block (a:=⟨b,o+j,none⟩) (hg.block b hb (by simp))).trans (h j v hv)
def nG(w:World)(x:Int)(e:Ending)(w':World):Prop:=e=.returned (J x)/\w.grownBy w' none
def eD8(w:World)(b:Bool)(x:Int)(e:Ending)(w':World):Prop:=e=.returned (.tuple #[.bool b,J x])/\w.grownBy w' none
theorem dU5{a b:Int}(h:a=b):J a=J b:=by rw [h]
def pN(n:Int)(v:Int):Prop:=0<=v/\(v < n∨v=0)
def bT6(x n:Int):Int:=if n < 1 then 0 else if x.tmod n < 0 then x.tmod n+n else x.tmod n
theorem dR6(x n:Int):pN n (bT6 x n):=by
 unfold pN bT6
 by_cases h:n < 1
 ·simp [h]
 ·have h1:x.tmod n < n:=Int.tmod_lt_of_pos _ G
  have h2: -n < x.tmod n:=by
   have:=Int.lt_tmod_of_pos x (show 0 < n by omega)
   omega
  simp only [h,if_false]
  split <;> omega
theorem dS6(x n:Int)(w:World)(qV: -9223372036854775808<=n)(hn2:n<=9223372036854775807):
 Calls prog 53 #[J x,J n] w fun e w'=>e=.returned (J (bT6 x n))/\w=w':=by
 have hm: -n < x.tmod n∨n < 1:=by
  by_cases h:n < 1
  ·exact .inr h
  ·exact .inl (Int.lt_tmod_of_pos x G)
 go_enter func53,ntmps53
 go_wp2
 ·go_ret
  have h:n < 1:=by assumption
  exact ⟨by simp [bT6,h],rfl⟩
 ·go_ret
  have h:1<=n:=by assumption
  have h1:x.tmod n < 0:=by assumption
  exact ⟨by simp [bT6,h1,show ¬n < 1 by omega],rfl⟩
 ·go_ret
  have h:1<=n:=by assumption
  have h1:0<=x.tmod n:=by assumption
  exact ⟨by simp [bT6,show ¬n < 1 by omega,show ¬x.tmod n < 0 by omega],rfl⟩
theorem bU6(x n:Int)(w:World)(qV: -9223372036854775808<=n)(hn2:n<=9223372036854775807):
 Calls prog 53 #[J x,J n] w fun e w'=>∃v,pN n v/\e=.returned (J v)/\w=w':=
 (dS6 x n w qV hn2).mono fun _ _ ⟨he,hw⟩=>⟨_,dR6 x n,he,hw⟩
theorem pF(n:Int)(w:World)(B sb m:Nat)(hS:fQ 25 w B sb m)(hm:m<=1000000000000)(qV: -9223372036854775808<=n)(hn2:n<=9223372036854775807):
 Calls prog 21 #[.pointer (some ⟨sb,0,none⟩),J n] w (cK5 25 w B sb (m+1) (pN n)):=by
 obtain ⟨A,len,c,k,hh,h0,h1,h2,h3⟩:=hS.pos
 have hf:∀i,w.frozen? ⟨sb,i,none⟩=false:=fun i=>frozen_of_row w sb i _ _ hh
 have hc0:w.cell? ⟨sb,0,none⟩=some (H A len c):=by rw [cell_of_row w sb 0 _ _ _ hh];rfl
 have hc1:w.cell? ⟨sb,1,none⟩=some (J k):=by rw [cell_of_row w sb 1 _ _ _ hh];rfl
 have hst:=hS.step hh h0 h1
 by_cases hlen:len=0
 ·subst hlen
  go_enter func21,ntmps21
  go_wp2_with (go_at_call 53;refine (bU6 _ _ _ qV hn2).mono ?_;rintro e w1 ⟨v,hv,rfl,rfl⟩)
  go_ret
  exact ⟨v,hv,D,hst,grow_setCell (World.grownBy.refl _ _) (.inl D) _⟩
 ·obtain ⟨b,off,rfl,hbB,hz⟩:=h3 G
  have hne:((len:Int)==0)=false:=by simp;omega
  have hmod:(k+1 - 1).tmod (len:Int)=k % (len:Int):=by rw [Int.tmod_eq_emod_of_nonneg G];congr 1;omega
  have hi0:0<=k % (len:Int):=Int.emod_nonneg _ G
  have hi1:k % (len:Int) < len:=Int.emod_lt_of_pos _ G
  obtain ⟨i,hi⟩:∃i:Nat,(i:Int)=k % (len:Int):=⟨(k % (len:Int)).toNat,G⟩
  obtain ⟨z,z1,z2,hcz⟩:=hz i G
  have hi':k % (len:Int)=(i:Int):=hi.symm
  have hil:(i:Int) < (len:Int):=G
  have hcz':∀u,(w.setCell ⟨sb,1,none⟩ u).cell? ⟨b,off+i,none⟩=some (J z):=fun u=>
   (World.cell?_of_block (Below.heap_setCell w _ _ b (by have:=hS.base;simp;omega))).trans hcz
  clear hmod hi0 hi1 hi hz h3
  go_enter func21,ntmps21
  go_wp2_with fail
  go_quiet (fail)
  go_wp2_with fail
  go_quiet (fail)
  go_wp2_with fail
  refine (bU6 _ _ _ G G).mono ?_
  rintro e w1 ⟨v1,hv1,rfl,rfl⟩
  go_wp2_with fail
  refine (bU6 _ _ _ qV hn2).mono ?_
  rintro e w1 ⟨v,hv,rfl,rfl⟩
  go_wp2_with fail
  go_ret
  exact ⟨v,hv,D,hst.drewN _,grow_drewN (grow_setCell (World.grownBy.refl _ _) (.inl D) _) _⟩
theorem in_any(n lo hi:Int)(w:World):
 Calls prog 37 #[J n,J lo,J hi] w fun e w'=>e=.returned (.bool (inB n lo hi))/\w=w':=by
 by_cases h1:lo<=n <;> by_cases h2:n<=hi
 all_goals
  have h3:inB n lo hi=(decide (lo<=n)&&decide (n<=hi)):=rfl
  have H3:=Lib.hid h3;clear h3
  go_enter func37,ntmps37
  go_wp2
  go_ret
  exact ⟨by rw [H3.out];simp [h1,h2],rfl⟩
theorem eH(b:Bool)(e:Int)(w:World):
 Calls prog 26 #[.bool b,J e] w fun r w'=>r= .returned (J (dO b e))/\w=w':=by
 cases b
 all_goals
  go_enter func26,ntmps26
  go_wp2
  go_ret
  exact ⟨D,D⟩
theorem cG9(es:List Int)(k:Nat)(h:k < es.length):dK (es.drop k)=if es[k]=0 then dK (es.drop (k+1)) else es[k]:=by
 rw [List.drop_eq_getElem_cons h];rfl
theorem fG1(es:List Int)(g c:Nat)(T:TypeId)(w:World)(hg:Blk w g T (es.map (Value.int .i64)))(hn:es.length<=1000000):
 Calls prog 58 #[H (some ⟨g,0,none⟩) es.length c] w fun r w'=>r= .returned (J (dK es))/\w=w':=by
 obtain ⟨n,hN⟩:∃n,n=es.length:=⟨_,rfl⟩
 rw [<-hN] at hn ⊢
 have HN:=Lib.hid hN;clear hN
 go_enter func58,ntmps58
 go_wp2
 go_loop [8] (fun i=>∃k:Nat,k<=n/\i=J k/\dK es=dK (es.drop k)) (fun i=>n - (intOf i).toNat)
 case atStart=>exact ⟨0,Nat.zero_le _,rfl,rfl⟩
 case round=>
  obtain ⟨k,hk,rfl,hf⟩:=hrel
  have Hf:=Lib.hid hf;clear hf
  by_cases hlt:k < n
  ·have hk':k < es.length:=by have:=HN.out;omega
   obtain ⟨x,hx⟩:∃x,es[k]=x:=⟨_,rfl⟩
   have hc:w.cell? ⟨g,k,none⟩=some (J x):=hg.cell_of (by simp [hk',hx])
   have hd:=cG9 es k hk'
   rw [hx] at hd
   have Hd:=Lib.hid hd;clear hd hx
   by_cases h0:x=0
   ·subst h0
    go_wp2
    go_round
    case rel=>exact ⟨k+1,G,by go_num,by rw [Hf.out,Hd.out];rfl⟩
    case measure=>simp [intOf];omega
   ·have hne:(x !=0)=true:=by simpa using h0
    go_wp2
    go_ret
    exact ⟨by rw [Hf.out,Hd.out,if_neg h0];rfl,rfl⟩
  ·have hd:es.drop k= []:=List.drop_eq_nil_of_le (by have:=HN.out;omega)
   have Hd:=Lib.hid hd;clear hd
   go_wp2
   go_ret
   exact ⟨by rw [Hf.out,Hd.out];rfl,rfl⟩
theorem fP(es:List Int)(g c:Nat)(T:TypeId)(w:World)(hg:Blk w g T (es.map (Value.int .i64)))(hn:es.length<=1000000):
 Calls prog 24 #[H (some ⟨g,0,none⟩) es.length c] w fun r w'=>r= .returned (J (dK es))/\w=w':=by
 have hc:=fun c=>fG1 es g c T w hg hn
 have HC:=Lib.hid hc;clear hc
 obtain ⟨n,hN⟩:∃n,n=es.length:=⟨_,rfl⟩
 rw [<-hN] at hn HC ⊢
 clear hN
 go_enter func24,ntmps24
 go_wp2_with fail
 refine (HC.out _).mono ?_
 rintro e w1 ⟨rfl,rfl⟩
 go_wp2_with fail
 go_ret
 exact ⟨D,D⟩
theorem zM(n:Int)(w:World):
 Calls prog 94 #[J n] w fun e w'=>e=.returned (.bool (inB n 0 5761439))/\w=w':=by
 go_enter func94,ntmps94
 go_wp2_with fail
 refine (in_any _ _ _ _).mono ?_
 rintro e w1 ⟨rfl,rfl⟩
 go_wp2_with fail
 go_ret
 exact ⟨D,D⟩
theorem cK1(n:Int)(w:World):
 Calls prog 64 #[J n] w fun e w'=>e=.returned (J (zS n))/\w=w':=by
 go_enter func64,ntmps64
 go_wp2_with fail
 refine (zM _ _).mono ?_
 rintro e w1 ⟨rfl,rfl⟩
 go_wp2_with fail
 refine (eH _ _ _).mono ?_
 rintro e w1 ⟨rfl,rfl⟩
 go_wp2_with fail
 go_ret
 exact ⟨D,D⟩
def uP(j:Nat)(c:UInt8):Bool:=rS c||(decide (j≠0)&&pE c)
def uJ(l:List UInt8)(k:Nat):Bool:=(l.take k).zipIdx.all fun x=>uP x.2 x.1
theorem dC0(l:List UInt8)(k:Nat)(h:k < l.length):uJ l (k+1)=(uJ l k&&uP k l[k]):=by
 unfold uJ
 rw [List.take_succ_eq_append_getElem h,List.zipIdx_append,List.all_append]
 simp [Nat.min_eq_left (Nat.le_of_lt h)]
theorem cH7(l:List UInt8)(k:Nat)(h:k < l.length)(hk:uP k l[k]=false):uJ l l.length=false:=by
 unfold uJ
 rw [List.take_length,List.all_eq_false]
 exact ⟨(l[k],k),by rw [List.mem_zipIdx_iff_getElem?];simp [fY9 h],by simp [hk]⟩
theorem dU9(r:List UInt8)(j:Nat)(hj:j≠0):((r.zipIdx j).all fun x=>uP x.2 x.1)=bN5 r:=by
 induction r generalizing j with
 |nil=>rfl
 |cons c r ih=>
  have:uP j c=pE c:=by
   have hd:decide (j≠0)=true:=by simpa using hj
   simp only [uP,pE,hd]
   cases rS c <;> simp
  simp [List.zipIdx_cons,ih (j+1) G,bN5,this]
theorem eC2(l:List UInt8):cM4 l=(uJ l l.length&& !l.isEmpty&&decide (l.length<=40)):=by
 cases l with
 |nil=>rfl
 |cons c r=>
  unfold uJ
  rw [List.take_length,List.zipIdx_cons]
  have h1:=dU9 r 1 G
  have h2:uP 0 c=rS c:=by simp [uP]
  have h3:decide (r.length < 40)=decide (r.length+1<=40):=by congr 1
  simp [cM4,h1,h2,h3]
theorem dI3{k:Nat}{c:UInt8}(h1:(97:Int)<=(c.toNat:Int))(h2:(c.toNat:Int)<=122):uP k c=true:=by
 have:rS c=true:=by simp [rS];omega
 simp [uP,this]
theorem eQ2{k:Nat}{c:UInt8}(hk:k=0)(h1:(c.toNat:Int) < 97∨(122:Int) < (c.toNat:Int)):uP k c=false:=by
 subst hk;simp [uP,rS];omega
theorem dX7{k:Nat}{c:UInt8}(hk:k≠0)(h:((48:Int)<=(c.toNat:Int)/\(c.toNat:Int)<=57)∨(c.toNat:Int)=45∨(c.toNat:Int)=95):uP k c=true:=by
 have:pE c=true:=by simp [pE];omega
 simp [uP,hk,this]
theorem eP6{k:Nat}{c:UInt8}(h1:(c.toNat:Int) < 97∨(122:Int) < (c.toNat:Int))(h2:(c.toNat:Int) < 48∨(57:Int) < (c.toNat:Int))(h3:(c.toNat:Int)≠45)(h4:(c.toNat:Int)≠95):uP k c=false:=by
 simp [uP,rS,pE];omega
theorem isKey_any(s:M)(w:World)(hs:s.size<=9223372036854775807):
 Calls prog 95 #[U s] w fun e w'=>e=.returned (.bool (keyB s))/\w=w':=by
 have hkl:keyB s=(uJ s.data.toList s.data.toList.length&& !s.data.toList.isEmpty&&decide (s.data.toList.length<=40)):=eC2 _
 have HK:=Lib.hid hkl;clear hkl
 go_enter func95,ntmps95
 go_wp2
 go_loop [8] (fun i=>∃k:Nat,k<=s.size/\i=J k/\uJ s.data.toList k=true) (fun i=>s.size - (intOf i).toNat)
 case atStart=>exact ⟨0,Nat.zero_le _,rfl,by simp [uJ]⟩
 case round=>
  obtain ⟨k,hk,rfl,hf⟩:=hrel
  have Hf:=Lib.hid hf;clear hf
  by_cases hlt:k < s.size
  ·have hl:k < s.data.toList.length:=by simpa using hlt
   have hsucc:=dC0 s.data.toList k hl
   have hno:=cH7 s.data.toList k hl
   have heq:s.data.toList[k]=s[k]:=rfl
   rw [heq] at hsucc hno
   have Hs:=Lib.hid hsucc
   have Hn:=Lib.hid hno
   clear hsucc hno heq
   have fin:uP k s[k]=true->uJ s.data.toList (k+1)=true:=fun h=>by rw [Hs.out,Hf.out,h];rfl
   have bad:uP k s[k]=false->keyB s=false:=fun h=>by rw [HK.out,Hn.out h];rfl
   have Fin:=Lib.hid fin
   have Bad:=Lib.hid bad
   clear fin bad
   by_cases hc:(97:Int)<=(s[k].toNat:Int)/\(s[k].toNat:Int)<=122
   ·obtain ⟨c1,c2⟩:=hc
    go_wp2
    go_round
    case rel=>exact ⟨k+1,G,by go_num,Fin.out (dI3 c1 c2)⟩
    case measure=>simp [intOf];omega
   ·have hc':(s[k].toNat:Int) < 97∨(122:Int) < (s[k].toNat:Int):=G
    clear hc
    by_cases h0:k=0
    ·subst h0
     have hbad:keyB s=false:=Bad.out (eQ2 rfl hc')
     have Hbad:=Lib.hid hbad
     clear hbad
     rcases hc' with hc'|hc'
     ·go_wp2
      go_ret
      exact ⟨pG Hbad.out.symm,D⟩
     ·have hd:decide ((s[0].toNat:Int)<=122)=false:=by simp;omega
      go_wp2
      go_ret
      exact ⟨pG Hbad.out.symm,D⟩
    ·have h0':((k:Int)==0)=false:=by simp;omega
     by_cases hd:((48:Int)<=(s[k].toNat:Int)/\(s[k].toNat:Int)<=57)∨(s[k].toNat:Int)=45∨(s[k].toNat:Int)=95
     ·have hok:=Lib.hid (Fin.out (dX7 h0 hd))
      clear h0
      rcases hc' with hc'|hc'
      ·rcases hd with ⟨d1,d2⟩|hd|hd
       ·go_wp2
        go_round
        case rel=>exact ⟨k+1,G,by go_num,hok.out⟩
        case measure=>simp [intOf];omega
       ·have q1:((s[k].toNat:Int)==45)=true:=by simpa using hd
        have q2:(s[k].toNat:Int) < 48:=G
        clear hd
        go_wp2
        go_round
        case rel=>exact ⟨k+1,G,by go_num,hok.out⟩
        case measure=>simp [intOf];omega
       ·have q1:((s[k].toNat:Int)==95)=true:=by simpa using hd
        have q2:(57:Int) < (s[k].toNat:Int):=G
        have q3:((s[k].toNat:Int)==45)=false:=by simp;omega
        clear hd
        go_wp2
        go_round
        case rel=>exact ⟨k+1,G,by go_num,hok.out⟩
        case measure=>simp [intOf];omega
      ·exfalso;omega
     ·have hno:=Lib.hid (Bad.out (eP6 (k:=k) hc' G G G))
      clear h0
      have q1:((s[k].toNat:Int)==45)=false:=by simp;omega
      have q2:((s[k].toNat:Int)==95)=false:=by simp;omega
      have q3:(s[k].toNat:Int) < 48∨(57:Int) < (s[k].toNat:Int):=G
      clear hd
      rcases hc' with hc'|hc'
      ·rcases q3 with q3|q3
       ·go_wp2
        go_ret
        exact ⟨pG hno.out.symm,D⟩
       ·have d57:decide ((s[k].toNat:Int)<=57)=false:=by simp;omega
        go_wp2
        go_ret
        exact ⟨pG hno.out.symm,D⟩
      ·have q4:(57:Int) < (s[k].toNat:Int):=G
       have d57:decide ((s[k].toNat:Int)<=57)=false:=by simp;omega
       have d122:decide ((s[k].toNat:Int)<=122)=false:=by simp;omega
       clear q3
       go_wp2
       go_ret
       exact ⟨pG hno.out.symm,D⟩
  ·have hks:k=s.size:=G
   have hf:=Hf.out
   rw [hks] at hf
   have hK:=HK.out
   have hl:s.data.toList.length=s.size:=by simp
   rw [hl,hf] at hK
   have hem:s.data.toList.isEmpty=decide (s.size=0):=by
    rw [<-hl];cases s.data.toList <;> simp
   rw [hem] at hK
   have HK':=Lib.hid hK
   clear hK hl hem hf hks
   by_cases he:s.size=0
   ·have hk0:keyB s=false:=by rw [HK'.out];simp [he]
    have Hk0:=Lib.hid hk0
    have hemp:s.toList= []:=by rw [Go.Lib.toList_data];exact List.eq_nil_of_length_eq_zero (by simpa using he)
    clear he hk0
    go_wp2
    go_ret
    exact ⟨pG Hk0.out.symm,D⟩
   ·have hemp:¬s.toList= []:=by
     rw [Go.Lib.toList_data];intro h;apply he;simpa using congrArg List.length h
    have hemp':s.toList.isEmpty=false:=by simpa using hemp
    by_cases h40:s.size<=40
    ·have hk0:keyB s=true:=by rw [HK'.out];simp [he,h40]
     have Hk0:=Lib.hid hk0
     clear he hk0
     go_wp2
     go_ret
     exact ⟨pG (by rw [Hk0.out];simp;omega),D⟩
    ·have hk0:keyB s=false:=by rw [HK'.out];simp [h40]
     have Hk0:=Lib.hid hk0
     clear he hk0
     go_wp2
     go_ret
     exact ⟨pG (by rw [Hk0.out];simp;omega),D⟩
structure Cd where
 key:M
 cls:M
 fr:Int
 to_:Int
 days:Int
 mille:Int
def bQ0(x:Cd):Prop:=x.key.size<=1000000/\x.cls.size<=1000000
def jB(s:M):Bool:=s.toList==(⟨#[]⟩:M).toList
def cV9(p:Option Cd)(b:Cd):Bool:=match p with
 |none=>false
 |some q=>leB b.key q.key
def fO(p:Option Cd)(b:Cd):Int:=
 if !keyB b.key then 5 else if cV9 p b then 7 else if !jB b.cls&& !keyB b.cls then 5 else if !inB b.fr 0 b.to_ then 1 else if 4001 < b.to_ then 1 else if !inB b.days 1 120 then 1 else if !inB b.mille 1 1000 then 1 else 0
def uX(l:List Cd):Int:=if 50 < l.length then 2 else scanE fO none l
def zX(l:List Cd)(k:Nat):M:=match prevOf l k with
 |none=>⟨#[]⟩
 |some q=>q.key
theorem bR8{l:List Cd}{k:Nat}{x:Cd}(h:l[k]?=some x):zX l (k+1)=x.key:=by
 unfold zX prevOf;rw [if_neg G,Nat.add_sub_cancel,h]
theorem fX0{a b:M}(h:leB b a=false):Go.Op.bytesLess a.toList b.toList=true:=by
 unfold leB at h
 simp only [Bool.or_eq_false_iff] at h
 cases h2:Go.Op.bytesLess a.toList b.toList
 ·have e:=bV6 h2 h.1
  rw [e] at h;simp at h
 ·rfl
theorem cB7{α:Type}{p:α->Bool}{l:List α}:decide (0<=kL p l 0)=l.any p:=by
 rcases vR (p:=p) l 0 with ⟨h,h2⟩|⟨j,y,h,hj,hp,_⟩
 ·rw [h,decide_eq_false G]
  exact (List.any_eq_false.2 fun x hx=>by simpa using h2 x hx).symm
 ·rw [h,decide_eq_true G]
  exact (List.any_eq_true.2 ⟨y,fZ9 hj,hp⟩).symm
structure Cs where
 key:M
 up:M
def dQ(x:Cs):List Value:= [U x.key,U x.up]
theorem dZ1(x:Cs):(dQ x).length=2:=rfl
def pR(x:Cs):Prop:=x.key.size<=1000000/\x.up.size<=1000000
def nS(k:M)(x:Cs):Bool:=x.key.toList==k.toList
def bF0(l:List Cs)(k:M):M:=if kL (nS k) l 0 < 0 then ⟨#[]⟩ else match l[(kL (nS k) l 0).toNat]? with
 |some x=>x.up
 |none=>⟨#[]⟩
def eW(l:List Cs):Nat->M->List M
 |0,_=> []
 |n+1,k=>if jB (bF0 l k)=true then [] else bF0 l k::eW l n (bF0 l k)
theorem yW{a b:M}(h:a.toList=b.toList):a=b:=by
 rw [ByteArray.toList_eq,ByteArray.toList_eq] at h
 cases a;cases b
 simp only at h
 exact congrArg ByteArray.mk (Array.toList_inj.1 h)
theorem dH6{l:List Cs}{k:M}{i:Nat}{x:Cs}(h:kL (nS k) l 0=(i:Int))(hx:l[i]?=some x):bF0 l k=x.up:=by
 unfold bF0
 rw [if_neg G,h,Int.toNat_natCast,hx]
theorem eT7{l:List Cs}{k:M}(h:kL (nS k) l 0 < 0):jB (bF0 l k)=true:=by
 unfold bF0
 rw [if_pos h]
 unfold jB;simp
theorem vG(l:List Cs):∀(n:Nat) (k:M),(eW l n k).length<=n
 |0,_=>Nat.le_refl _
 |n+1,k=>by
  unfold eW
  split
  ·exact Nat.zero_le _
  ·have:=vG l n (bF0 l k)
   simp only [List.length_cons];omega
theorem bF4(l:List Cs):∀(n:Nat) (k:M),eW l n k=(eW l (n+1) k).take n
 |0,_=>by simp [eW]
 |n+1,k=>by
  rw [eW,eW]
  split
  ·simp
  ·rw [List.take_succ_cons,<-bF4 l n]
theorem bE4(l:List Cs)(n:Nat)(k:M):∀d,eW l n k=(eW l (n+d) k).take n
 |0=>by rw [Nat.add_zero,List.take_of_length_le (vG l n k)]
 |d+1=>by
  rw [bE4 l n k d,<-Nat.add_assoc,bF4 l (n+d) k,List.take_take,Nat.min_eq_left G]
theorem bD4(l:List Cs):∀(i n:Nat) (k u:M),(eW l n k)[i]?=some u->(eW l n k).drop (i+1)=eW l (n - (i+1)) u
 |_,0,_,_,h=>by simp [eW] at h
 |0,n+1,k,u,h=>by
  rw [eW] at h ⊢
  split at h
  ·simp at h
  ·rename_i hu
   rw [if_neg hu]
   simp only [List.getElem?_cons_zero,Option.some.injEq] at h
   subst h
   simp
 |i+1,n+1,k,u,h=>by
  rw [eW] at h ⊢
  split at h
  ·simp at h
  ·rename_i hu
   rw [if_neg hu]
   simp only [List.getElem?_cons_succ] at h
   rw [List.drop_succ_cons,bD4 l i n _ u h,Nat.add_sub_add_right]
theorem cR1:∀(n:Nat) (l:List Nat),(∀x∈l,x < n)->l.Pairwise (fun a b=>a≠b)->l.length<=n
 |0,l,h,_=>by
  cases l with
  |nil=>exact Nat.le_refl _
  |cons x r=>exact absurd (h x (List.mem_cons_self ..)) (Nat.not_lt_zero x)
 |n+1,l,h,hp=>by
  by_cases hn:n∈l
  ·obtain ⟨a,b,rfl⟩:=List.append_of_mem hn
   rw [List.pairwise_append] at hp
   obtain ⟨h1,h2,h3⟩:=hp
   rw [List.pairwise_cons] at h2
   have:=cR1 n (a++b) (fun x hx=>by
    rcases List.mem_append.1 hx with hx|hx
    ·have g1:=h x (List.mem_append_left _ hx)
     have g2:=h3 x hx n (List.mem_cons_self ..)
     omega
    ·have g1:=h x (List.mem_append_right _ (List.mem_cons_of_mem _ hx))
     have g2:=h2.1 x hx
     omega) (List.pairwise_append.2 ⟨h1,h2.2,fun x hx y hy=>h3 x hx y (List.mem_cons_of_mem _ hy)⟩)
   simp only [List.length_append,List.length_cons] at this ⊢
   omega
  ·have:=cR1 n l (fun x hx=>by
    have g1:=h x hx
    have g2:x≠n:=fun e=>hn (e ▸ hx)
    omega) hp
   omega
def nY(l:List Cs):Prop:=∀x∈l,jB x.up=false->0<=kL (nS x.up) l 0
theorem eS7{l:List Cs}(hc:nY l){k:M}(h:jB (bF0 l k)=false):0<=kL (nS (bF0 l k)) l 0:=by
 by_cases hk:kL (nS k) l 0 < 0
 ·rw [eT7 hk] at h;cases h
 ·obtain ⟨x,hx,_⟩:=dJ5 (p:=nS k) (l:=l) G
  have e:bF0 l k=x.up:=dH6 (i:=(kL (nS k) l 0).toNat) G hx
  rw [e] at h ⊢
  exact hc x (fZ9 hx) h
theorem zV{l:List Cs}(hc:nY l):∀(n:Nat) (k u:M),u∈eW l n k->0<=kL (nS u) l 0
 |0,_,_,h=>by simp [eW] at h
 |n+1,k,u,h=>by
  rw [eW] at h
  split at h
  ·simp at h
  ·rename_i hu
   rcases List.mem_cons.1 h with rfl|h
   ·exact eS7 hc (by simpa using hu)
   ·exact zV hc n _ u h
def inK(k:M)(l:List M):Bool:=l.any (fun y=>k.toList==y.toList)
theorem dG5{k:M}{l:List M}:inK k l=true↔k∈l:=by
 unfold inK
 rw [List.any_eq_true]
 constructor
 ·rintro ⟨y,hy,h⟩
  rw [yW (by simpa using h:k.toList=y.toList)];exact hy
 ·exact fun h=>⟨k,h,by simp⟩
def uI(l:List Cs)(n:Nat):Bool:=l.any (fun x=>inK x.key (eW l n x.key))
theorem bT1{l:List Cs}{u:M}(h:0<=kL (nS u) l 0):∃x,l[(kL (nS u) l 0).toNat]?=some x/\x∈l/\x.key=u:=by
 obtain ⟨x,hx,hp⟩:=dJ5 h
 exact ⟨x,hx,fZ9 hx,yW (by simpa [nS] using hp)⟩
theorem dO3{l:List Cs}(hc:nY l)(hl:uI l l.length=false)(k:M):(eW l (l.length+1) k).length<=l.length:=by
 have hno:∀x∈l,¬x.key∈eW l l.length x.key:=fun x hx hm=>by
  have:uI l l.length=true:=List.any_eq_true.2 ⟨x,hx,dG5.2 hm⟩
  rw [hl] at this;cases this
 have hbound:∀x∈(eW l (l.length+1) k).map (fun u=>(kL (nS u) l 0).toNat),x < l.length:=fun x hx=>by
  obtain ⟨u,hu,rfl⟩:=List.mem_map.1 hx
  have h1:=zV hc _ _ u hu
  have h2:=bL7 (p:=nS u) l
  omega
 have hpair:((eW l (l.length+1) k).map (fun u=>(kL (nS u) l 0).toNat)).Pairwise (fun a b=>a≠b):=by
  rw [List.pairwise_map,List.pairwise_iff_getElem]
  intro i j hi hj hij he
  have hxi:(eW l (l.length+1) k)[i]?=some ((eW l (l.length+1) k)[i]):=fY9 hi
  have hxj:(eW l (l.length+1) k)[j]?=some ((eW l (l.length+1) k)[j]):=fY9 hj
  generalize (eW l (l.length+1) k)[i]=u at *
  generalize (eW l (l.length+1) k)[j]=v at *
  have hu0:=zV hc _ _ u (fZ9 hxi)
  have hv0:=zV hc _ _ v (fZ9 hxj)
  obtain ⟨x,hx,hxl,hxu⟩:=bT1 hu0
  obtain ⟨y,hy,_,hyv⟩:=bT1 hv0
  rw [he,hy] at hx
  injection hx with hx
  subst hx
  have huv:u=v:=hxu.symm.trans hyv
  subst huv
  have hd:=bD4 l i _ _ u hxi
  have vE:u∈eW l (l.length+1 - (i+1)) u:=by
   rw [<-hd]
   refine fZ9 (i:=j - (i+1)) ?_
   rw [List.getElem?_drop,show i+1+(j - (i+1))=j by omega];exact hxj
  have hmore:=bE4 l (l.length+1 - (i+1)) u (i)
  rw [show l.length+1 - (i+1)+i=l.length by have:=vG l (l.length+1) k;omega] at hmore
  rw [hmore] at vE
  subst hxu
  exact hno y hxl (List.mem_of_mem_take vE)
 have:=cR1 _ _ hbound hpair
 rw [List.length_map] at this
 exact this
theorem cR4{l:List Cs}(hc:nY l)(hl:uI l l.length=false)(k:M):eW l (l.length+1) k=eW l l.length k:=by
 rw [bF4 l l.length k,List.take_of_length_le (dO3 hc hl k)]
def eI6(p:Option Cs)(b:Cs):Bool:=match p with
 |none=>false
 |some q=>leB b.key q.key
def csE(p:Option Cs)(b:Cs):Int:=if !keyB b.key then 5 else if eI6 p b then 7 else if !jB b.up&& !keyB b.up then 5 else 0
def upB(l:List Cs)(x:Cs):Bool:= !jB x.up&&decide (kL (nS x.up) l 0 < 0)
def eR(l:List Cs):Int:=if 30 < l.length then 2 else if scanE csE none l≠0 then scanE csE none l else if l.any (upB l)=true then 8 else if uI l l.length=true then 14 else 0
theorem cY3{l:List Cs}(h:l.any (upB l)=false):nY l:=fun x hx he=>by
 rw [List.any_eq_false] at h
 have:=h x hx
 unfold upB at this
 rw [he] at this
 simp at this
 omega
theorem xE{l:List Cs}(h:eR l=0):l.length<=30/\nY l/\uI l l.length=false:=by
 unfold eR at h
 split at h
 ·cases h
 ·split at h
  ·rename_i h2;exact absurd h h2
  ·split at h
   ·cases h
   ·rename_i h3
    split at h
    ·cases h
    ·rename_i h4
     exact ⟨G,cY3 (by simpa using h3),by simpa using h4⟩
end Go.Proofs.YtapdhfjfgpbnnaaGreatDoor
namespace Go.Proofs
open Go.Shelf
def Tryz.lays160_ren:Go.Shelf.Ren:=⟨fun|160=>172|232=>202|231=>201|227=>203|234=>205|233=>204|236=>207|235=>206|228=>224|271=>227|151=>226|197=>225|120=>241|152=>240|260=>239|137=>253|119=>254|224=>255|225=>256|217=>265|266=>269|n=>n,fun|9=>9|4=>4|3=>3|5=>5|117=>293|116=>292|0=>0|124=>296|21=>21|105=>318|46=>185|119=>338|139=>341|138=>340|n=>n,fun|3=>4|4=>5|n=>n⟩
theorem Tryz.lays160:Go.Proofs.Lays.n160 prog Tryz.lays160_ren:={
 mixed:=by kernel_rfl
 f119:=func254.trans (congrArg some (by kernel_rfl))
 f120:=func241.trans (congrArg some (by kernel_rfl))
 f137:=func253.trans (congrArg some (by kernel_rfl))
 f151:=func226.trans (congrArg some (by kernel_rfl))
 f152:=func240.trans (congrArg some (by kernel_rfl))
 f160:=func172.trans (congrArg some (by kernel_rfl))
 f197:=func225.trans (congrArg some (by kernel_rfl))
 f217:=func265.trans (congrArg some (by kernel_rfl))
 f224:=func255.trans (congrArg some (by kernel_rfl))
 f225:=func256.trans (congrArg some (by kernel_rfl))
 f227:=func203.trans (congrArg some (by kernel_rfl))
 f228:=func224.trans (congrArg some (by kernel_rfl))
 f231:=func201.trans (congrArg some (by kernel_rfl))
 f232:=func202.trans (congrArg some (by kernel_rfl))
 f233:=func204.trans (congrArg some (by kernel_rfl))
 f234:=func205.trans (congrArg some (by kernel_rfl))
 f235:=func206.trans (congrArg some (by kernel_rfl))
 f236:=func207.trans (congrArg some (by kernel_rfl))
 f260:=func239.trans (congrArg some (by kernel_rfl))
 f266:=func269.trans (congrArg some (by kernel_rfl))
 f271:=func227.trans (congrArg some (by kernel_rfl))
 t0:=Tryz.underlying0
 a0:=Tryz.isAgg0
 z0:=Tryz.sizeOf0
 v0:=Tryz.zeroValue0
 t3:=Tryz.underlying3
 a3:=Tryz.isAgg3
 z3:=Tryz.sizeOf3
 v3:=Tryz.zeroValue3
 t4:=Tryz.underlying4
 a4:=Tryz.isAgg4
 z4:=Tryz.sizeOf4
 v4:=Tryz.zeroValue4
 t5:=Tryz.underlying5
 a5:=Tryz.isAgg5
 z5:=Tryz.sizeOf5
 v5:=Tryz.zeroValue5
 t9:=Tryz.underlying9
 a9:=Tryz.isAgg9
 z9:=Tryz.sizeOf9
 v9:=Tryz.zeroValue9
 t21:=Tryz.underlying21
 a21:=Tryz.isAgg21
 z21:=Tryz.sizeOf21
 v21:=Tryz.zeroValue21
 t46:=Tryz.underlying185
 a46:=Tryz.isAgg185
 z46:=Tryz.sizeOf185
 v46:=Tryz.zeroValue185
 t105:=Tryz.underlying318
 a105:=Tryz.isAgg318
 z105:=Tryz.sizeOf318
 v105:=Tryz.zeroValue318
 t116:=Tryz.underlying292
 a116:=Tryz.isAgg292
 z116:=Tryz.sizeOf292
 t117:=Tryz.underlying293
 a117:=Tryz.isAgg293
 z117:=Tryz.sizeOf293
 v117:=Tryz.zeroValue293
 t119:=Tryz.underlying338
 a119:=Tryz.isAgg338
 z119:=Tryz.sizeOf338
 t124:=Tryz.underlying296
 a124:=Tryz.isAgg296
 z124:=Tryz.sizeOf296
 v124:=Tryz.zeroValue296
 t138:=Tryz.underlying340
 a138:=Tryz.isAgg340
 z138:=Tryz.sizeOf340
 v138:=Tryz.zeroValue340
 t139:=Tryz.underlying341
 a139:=Tryz.isAgg341
 z139:=Tryz.sizeOf341
 v139:=Tryz.zeroValue341
 g3:=by kernel_rfl
 g4:=by kernel_rfl }
end Go.Proofs
namespace Go.Proofs.YtapdhfjfgpbnnaaGreatDoor
open Tryz
open Go.RowKit
structure Dl where
 free:Int
 km:Int
 eighth:Int
 grace:Int
 hour:Int
 day:Int
 deposit:Int
def fK0(d:Dl):List Int:= [d.free,d.km,d.eighth,d.grace,d.hour,d.day,d.deposit]
def xG(d:Dl):List Value:=(fK0 d).map (Value.int .i64)
def eP0(d:Dl):Bool:=inB d.free 0 10000&&inB d.km 0 100000&&inB d.eighth 0 100000&&inB d.grace 0 1440&&inB d.hour 0 1000000&&inB d.day 0 1000000&&inB d.deposit 0 1000000
def xF(d:Dl):Int:=dO (!eP0 d) 1
theorem cA3(d:Dl)(w:World):Calls prog 93 #[.agg (xG d).toArray] w (fun e w'=>e=.returned (J (xF d))/\w.grownBy w' none):=by
 obtain ⟨a,b,c,d,f,g,h⟩:=d
 obtain ⟨I0,h0⟩:∃I',inB a 0 10000=I':=⟨_,rfl⟩
 obtain ⟨I1,h1⟩:∃I',inB b 0 100000=I':=⟨_,rfl⟩
 obtain ⟨I2,h2⟩:∃I',inB c 0 100000=I':=⟨_,rfl⟩
 obtain ⟨I3,h3⟩:∃I',inB d 0 1440=I':=⟨_,rfl⟩
 obtain ⟨I4,h4⟩:∃I',inB f 0 1000000=I':=⟨_,rfl⟩
 obtain ⟨I5,h5⟩:∃I',inB g 0 1000000=I':=⟨_,rfl⟩
 obtain ⟨I6,h6⟩:∃I',inB h 0 1000000=I':=⟨_,rfl⟩
 have HE:=Lib.hid (show xF ⟨a,b,c,d,f,g,h⟩=dO (!(I0&&I1&&I2&&I3&&I4&&I5&&I6)) 1 by unfold xF eP0;rw [h0,h1,h2,h3,h4,h5,h6])
 have c0:∀w,Calls prog 37 #[J a,J 0,J 10000] w fun e w'=>e=.returned (.bool I0)/\w'=w:=fun w=>by rw [<-h0];exact nQ (in_any _ _ _ _)
 have C0:=Lib.hid c0
 have c1:∀w,Calls prog 37 #[J b,J 0,J 100000] w fun e w'=>e=.returned (.bool I1)/\w'=w:=fun w=>by rw [<-h1];exact nQ (in_any _ _ _ _)
 have C1:=Lib.hid c1
 have c2:∀w,Calls prog 37 #[J c,J 0,J 100000] w fun e w'=>e=.returned (.bool I2)/\w'=w:=fun w=>by rw [<-h2];exact nQ (in_any _ _ _ _)
 have C2:=Lib.hid c2
 have c3:∀w,Calls prog 37 #[J d,J 0,J 1440] w fun e w'=>e=.returned (.bool I3)/\w'=w:=fun w=>by rw [<-h3];exact nQ (in_any _ _ _ _)
 have C3:=Lib.hid c3
 have c4:∀w,Calls prog 37 #[J f,J 0,J 1000000] w fun e w'=>e=.returned (.bool I4)/\w'=w:=fun w=>by rw [<-h4];exact nQ (in_any _ _ _ _)
 have C4:=Lib.hid c4
 have c5:∀w,Calls prog 37 #[J g,J 0,J 1000000] w fun e w'=>e=.returned (.bool I5)/\w'=w:=fun w=>by rw [<-h5];exact nQ (in_any _ _ _ _)
 have C5:=Lib.hid c5
 have c6:∀w,Calls prog 37 #[J h,J 0,J 1000000] w fun e w'=>e=.returned (.bool I6)/\w'=w:=fun w=>by rw [<-h6];exact nQ (in_any _ _ _ _)
 have C6:=Lib.hid c6
 clear c0 h0 c1 h1 c2 h2 c3 h3 c4 h4 c5 h5 c6 h6
 show Calls prog 93 #[.agg #[J a,J b,J c,J d,J f,J g,J h]] w _
 obtain ⟨R,hR⟩:∃R,R=xF ⟨a,b,c,d,f,g,h⟩:=⟨_,rfl⟩
 rw [<-hR] at HE ⊢
 clear hR
 cases I0
 ·go_enter func93,ntmps93
  go_wp2_with fail
  refine (C0.out _).mono ?_
  rintro e w0 ⟨rfl,rfl⟩
  go_wp2_with fail
  refine (eH _ _ _).mono ?_
  rintro e w9 ⟨rfl,rfl⟩
  go_wp2_with fail
  go_ret
  exact ⟨cL (by rw [HE.out];rfl),grow_alloc (World.grownBy.refl _ _) _⟩
 cases I1
 ·go_enter func93,ntmps93
  go_wp2_with fail
  refine (C0.out _).mono ?_
  rintro e w0 ⟨rfl,rfl⟩
  go_wp2_with fail
  refine (C1.out _).mono ?_
  rintro e w1 ⟨rfl,rfl⟩
  go_wp2_with fail
  refine (eH _ _ _).mono ?_
  rintro e w9 ⟨rfl,rfl⟩
  go_wp2_with fail
  go_ret
  exact ⟨cL (by rw [HE.out];rfl),grow_alloc (World.grownBy.refl _ _) _⟩
 cases I2
 ·go_enter func93,ntmps93
  go_wp2_with fail
  refine (C0.out _).mono ?_
  rintro e w0 ⟨rfl,rfl⟩
  go_wp2_with fail
  refine (C1.out _).mono ?_
  rintro e w1 ⟨rfl,rfl⟩
  go_wp2_with fail
  refine (C2.out _).mono ?_
  rintro e w2 ⟨rfl,rfl⟩
  go_wp2_with fail
  refine (eH _ _ _).mono ?_
  rintro e w9 ⟨rfl,rfl⟩
  go_wp2_with fail
  go_ret
  exact ⟨cL (by rw [HE.out];rfl),grow_alloc (World.grownBy.refl _ _) _⟩
 cases I3
 ·go_enter func93,ntmps93
  go_wp2_with fail
  refine (C0.out _).mono ?_
  rintro e w0 ⟨rfl,rfl⟩
  go_wp2_with fail
  refine (C1.out _).mono ?_
  rintro e w1 ⟨rfl,rfl⟩
  go_wp2_with fail
  refine (C2.out _).mono ?_
  rintro e w2 ⟨rfl,rfl⟩
  go_wp2_with fail
  refine (C3.out _).mono ?_
  rintro e w3 ⟨rfl,rfl⟩
  go_wp2_with fail
  refine (eH _ _ _).mono ?_
  rintro e w9 ⟨rfl,rfl⟩
  go_wp2_with fail
  go_ret
  exact ⟨cL (by rw [HE.out];rfl),grow_alloc (World.grownBy.refl _ _) _⟩
 cases I4
 ·go_enter func93,ntmps93
  go_wp2_with fail
  refine (C0.out _).mono ?_
  rintro e w0 ⟨rfl,rfl⟩
  go_wp2_with fail
  refine (C1.out _).mono ?_
  rintro e w1 ⟨rfl,rfl⟩
  go_wp2_with fail
  refine (C2.out _).mono ?_
  rintro e w2 ⟨rfl,rfl⟩
  go_wp2_with fail
  refine (C3.out _).mono ?_
  rintro e w3 ⟨rfl,rfl⟩
  go_wp2_with fail
  refine (C4.out _).mono ?_
  rintro e w4 ⟨rfl,rfl⟩
  go_wp2_with fail
  refine (eH _ _ _).mono ?_
  rintro e w9 ⟨rfl,rfl⟩
  go_wp2_with fail
  go_ret
  exact ⟨cL (by rw [HE.out];rfl),grow_alloc (World.grownBy.refl _ _) _⟩
 cases I5
 ·go_enter func93,ntmps93
  go_wp2_with fail
  refine (C0.out _).mono ?_
  rintro e w0 ⟨rfl,rfl⟩
  go_wp2_with fail
  refine (C1.out _).mono ?_
  rintro e w1 ⟨rfl,rfl⟩
  go_wp2_with fail
  refine (C2.out _).mono ?_
  rintro e w2 ⟨rfl,rfl⟩
  go_wp2_with fail
  refine (C3.out _).mono ?_
  rintro e w3 ⟨rfl,rfl⟩
  go_wp2_with fail
  refine (C4.out _).mono ?_
  rintro e w4 ⟨rfl,rfl⟩
  go_wp2_with fail
  refine (C5.out _).mono ?_
  rintro e w5 ⟨rfl,rfl⟩
  go_wp2_with fail
  refine (eH _ _ _).mono ?_
  rintro e w9 ⟨rfl,rfl⟩
  go_wp2_with fail
  go_ret
  exact ⟨cL (by rw [HE.out];rfl),grow_alloc (World.grownBy.refl _ _) _⟩
 cases I6
 ·go_enter func93,ntmps93
  go_wp2_with fail
  refine (C0.out _).mono ?_
  rintro e w0 ⟨rfl,rfl⟩
  go_wp2_with fail
  refine (C1.out _).mono ?_
  rintro e w1 ⟨rfl,rfl⟩
  go_wp2_with fail
  refine (C2.out _).mono ?_
  rintro e w2 ⟨rfl,rfl⟩
  go_wp2_with fail
  refine (C3.out _).mono ?_
  rintro e w3 ⟨rfl,rfl⟩
  go_wp2_with fail
  refine (C4.out _).mono ?_
  rintro e w4 ⟨rfl,rfl⟩
  go_wp2_with fail
  refine (C5.out _).mono ?_
  rintro e w5 ⟨rfl,rfl⟩
  go_wp2_with fail
  refine (C6.out _).mono ?_
  rintro e w6 ⟨rfl,rfl⟩
  go_wp2_with fail
  refine (eH _ _ _).mono ?_
  rintro e w9 ⟨rfl,rfl⟩
  go_wp2_with fail
  go_ret
  exact ⟨cL (by rw [HE.out];rfl),grow_alloc (World.grownBy.refl _ _) _⟩
 go_enter func93,ntmps93
 go_wp2_with fail
 refine (C0.out _).mono ?_
 rintro e w0 ⟨rfl,rfl⟩
 go_wp2_with fail
 refine (C1.out _).mono ?_
 rintro e w1 ⟨rfl,rfl⟩
 go_wp2_with fail
 refine (C2.out _).mono ?_
 rintro e w2 ⟨rfl,rfl⟩
 go_wp2_with fail
 refine (C3.out _).mono ?_
 rintro e w3 ⟨rfl,rfl⟩
 go_wp2_with fail
 refine (C4.out _).mono ?_
 rintro e w4 ⟨rfl,rfl⟩
 go_wp2_with fail
 refine (C5.out _).mono ?_
 rintro e w5 ⟨rfl,rfl⟩
 go_wp2_with fail
 refine (C6.out _).mono ?_
 rintro e w6 ⟨rfl,rfl⟩
 go_wp2_with fail
 refine (eH _ _ _).mono ?_
 rintro e w9 ⟨rfl,rfl⟩
 go_wp2_with fail
 go_ret
 exact ⟨cL (by rw [HE.out];rfl),grow_alloc (World.grownBy.refl _ _) _⟩
theorem kM(n lo hi:Int)(w:World):Calls prog 82 #[J n,J lo,J hi] w fun e w'=>e=.returned (.bool (inB n lo hi))/\w=w':=by
 by_cases h1:lo<=n <;> by_cases h2:n<=hi
 all_goals
  have h3:inB n lo hi=(decide (lo<=n)&&decide (n<=hi)):=rfl
  have H3:=Lib.hid h3;clear h3
  go_enter func82,ntmps82
  go_wp2
  go_ret
  exact ⟨by rw [H3.out];simp [h1,h2],rfl⟩
theorem cC3(d:Dl)(w:World):Calls prog 44 #[.agg (xG d).toArray] w (fun e w'=>e=.returned (J (xF d))/\w.grownBy w' none):=by
 obtain ⟨a,b,c,d,f,g,h⟩:=d
 obtain ⟨I0,h0⟩:∃I',inB a 0 10000=I':=⟨_,rfl⟩
 obtain ⟨I1,h1⟩:∃I',inB b 0 100000=I':=⟨_,rfl⟩
 obtain ⟨I2,h2⟩:∃I',inB c 0 100000=I':=⟨_,rfl⟩
 obtain ⟨I3,h3⟩:∃I',inB d 0 1440=I':=⟨_,rfl⟩
 obtain ⟨I4,h4⟩:∃I',inB f 0 1000000=I':=⟨_,rfl⟩
 obtain ⟨I5,h5⟩:∃I',inB g 0 1000000=I':=⟨_,rfl⟩
 obtain ⟨I6,h6⟩:∃I',inB h 0 1000000=I':=⟨_,rfl⟩
 have HE:=Lib.hid (show xF ⟨a,b,c,d,f,g,h⟩=dO (!(I0&&I1&&I2&&I3&&I4&&I5&&I6)) 1 by unfold xF eP0;rw [h0,h1,h2,h3,h4,h5,h6])
 have c0:∀w,Calls prog 82 #[J a,J 0,J 10000] w fun e w'=>e=.returned (.bool I0)/\w'=w:=fun w=>by rw [<-h0];exact nQ (kM _ _ _ _)
 have C0:=Lib.hid c0
 have c1:∀w,Calls prog 82 #[J b,J 0,J 100000] w fun e w'=>e=.returned (.bool I1)/\w'=w:=fun w=>by rw [<-h1];exact nQ (kM _ _ _ _)
 have C1:=Lib.hid c1
 have c2:∀w,Calls prog 82 #[J c,J 0,J 100000] w fun e w'=>e=.returned (.bool I2)/\w'=w:=fun w=>by rw [<-h2];exact nQ (kM _ _ _ _)
 have C2:=Lib.hid c2
 have c3:∀w,Calls prog 82 #[J d,J 0,J 1440] w fun e w'=>e=.returned (.bool I3)/\w'=w:=fun w=>by rw [<-h3];exact nQ (kM _ _ _ _)
 have C3:=Lib.hid c3
 have c4:∀w,Calls prog 82 #[J f,J 0,J 1000000] w fun e w'=>e=.returned (.bool I4)/\w'=w:=fun w=>by rw [<-h4];exact nQ (kM _ _ _ _)
 have C4:=Lib.hid c4
 have c5:∀w,Calls prog 82 #[J g,J 0,J 1000000] w fun e w'=>e=.returned (.bool I5)/\w'=w:=fun w=>by rw [<-h5];exact nQ (kM _ _ _ _)
 have C5:=Lib.hid c5
 have c6:∀w,Calls prog 82 #[J h,J 0,J 1000000] w fun e w'=>e=.returned (.bool I6)/\w'=w:=fun w=>by rw [<-h6];exact nQ (kM _ _ _ _)
 have C6:=Lib.hid c6
 clear c0 h0 c1 h1 c2 h2 c3 h3 c4 h4 c5 h5 c6 h6
 show Calls prog 44 #[.agg #[J a,J b,J c,J d,J f,J g,J h]] w _
 obtain ⟨R,hR⟩:∃R,R=xF ⟨a,b,c,d,f,g,h⟩:=⟨_,rfl⟩
 rw [<-hR] at HE ⊢
 clear hR
 cases I0
 ·go_enter func44,ntmps44
  go_wp2_with fail
  refine (C0.out _).mono ?_
  rintro e w0 ⟨rfl,rfl⟩
  go_wp2_with fail
  go_ret
  exact ⟨cL (by rw [HE.out];rfl),grow_alloc (World.grownBy.refl _ _) _⟩
 cases I1
 ·go_enter func44,ntmps44
  go_wp2_with fail
  refine (C0.out _).mono ?_
  rintro e w0 ⟨rfl,rfl⟩
  go_wp2_with fail
  refine (C1.out _).mono ?_
  rintro e w1 ⟨rfl,rfl⟩
  go_wp2_with fail
  go_ret
  exact ⟨cL (by rw [HE.out];rfl),grow_alloc (World.grownBy.refl _ _) _⟩
 cases I2
 ·go_enter func44,ntmps44
  go_wp2_with fail
  refine (C0.out _).mono ?_
  rintro e w0 ⟨rfl,rfl⟩
  go_wp2_with fail
  refine (C1.out _).mono ?_
  rintro e w1 ⟨rfl,rfl⟩
  go_wp2_with fail
  refine (C2.out _).mono ?_
  rintro e w2 ⟨rfl,rfl⟩
  go_wp2_with fail
  go_ret
  exact ⟨cL (by rw [HE.out];rfl),grow_alloc (World.grownBy.refl _ _) _⟩
 cases I3
 ·go_enter func44,ntmps44
  go_wp2_with fail
  refine (C0.out _).mono ?_
  rintro e w0 ⟨rfl,rfl⟩
  go_wp2_with fail
  refine (C1.out _).mono ?_
  rintro e w1 ⟨rfl,rfl⟩
  go_wp2_with fail
  refine (C2.out _).mono ?_
  rintro e w2 ⟨rfl,rfl⟩
  go_wp2_with fail
  refine (C3.out _).mono ?_
  rintro e w3 ⟨rfl,rfl⟩
  go_wp2_with fail
  go_ret
  exact ⟨cL (by rw [HE.out];rfl),grow_alloc (World.grownBy.refl _ _) _⟩
 cases I4
 ·go_enter func44,ntmps44
  go_wp2_with fail
  refine (C0.out _).mono ?_
  rintro e w0 ⟨rfl,rfl⟩
  go_wp2_with fail
  refine (C1.out _).mono ?_
  rintro e w1 ⟨rfl,rfl⟩
  go_wp2_with fail
  refine (C2.out _).mono ?_
  rintro e w2 ⟨rfl,rfl⟩
  go_wp2_with fail
  refine (C3.out _).mono ?_
  rintro e w3 ⟨rfl,rfl⟩
  go_wp2_with fail
  refine (C4.out _).mono ?_
  rintro e w4 ⟨rfl,rfl⟩
  go_wp2_with fail
  go_ret
  exact ⟨cL (by rw [HE.out];rfl),grow_alloc (World.grownBy.refl _ _) _⟩
 cases I5
 ·go_enter func44,ntmps44
  go_wp2_with fail
  refine (C0.out _).mono ?_
  rintro e w0 ⟨rfl,rfl⟩
  go_wp2_with fail
  refine (C1.out _).mono ?_
  rintro e w1 ⟨rfl,rfl⟩
  go_wp2_with fail
  refine (C2.out _).mono ?_
  rintro e w2 ⟨rfl,rfl⟩
  go_wp2_with fail
  refine (C3.out _).mono ?_
  rintro e w3 ⟨rfl,rfl⟩
  go_wp2_with fail
  refine (C4.out _).mono ?_
  rintro e w4 ⟨rfl,rfl⟩
  go_wp2_with fail
  refine (C5.out _).mono ?_
  rintro e w5 ⟨rfl,rfl⟩
  go_wp2_with fail
  go_ret
  exact ⟨cL (by rw [HE.out];rfl),grow_alloc (World.grownBy.refl _ _) _⟩
 cases I6
 ·go_enter func44,ntmps44
  go_wp2_with fail
  refine (C0.out _).mono ?_
  rintro e w0 ⟨rfl,rfl⟩
  go_wp2_with fail
  refine (C1.out _).mono ?_
  rintro e w1 ⟨rfl,rfl⟩
  go_wp2_with fail
  refine (C2.out _).mono ?_
  rintro e w2 ⟨rfl,rfl⟩
  go_wp2_with fail
  refine (C3.out _).mono ?_
  rintro e w3 ⟨rfl,rfl⟩
  go_wp2_with fail
  refine (C4.out _).mono ?_
  rintro e w4 ⟨rfl,rfl⟩
  go_wp2_with fail
  refine (C5.out _).mono ?_
  rintro e w5 ⟨rfl,rfl⟩
  go_wp2_with fail
  refine (C6.out _).mono ?_
  rintro e w6 ⟨rfl,rfl⟩
  go_wp2_with fail
  go_ret
  exact ⟨cL (by rw [HE.out];rfl),grow_alloc (World.grownBy.refl _ _) _⟩
 go_enter func44,ntmps44
 go_wp2_with fail
 refine (C0.out _).mono ?_
 rintro e w0 ⟨rfl,rfl⟩
 go_wp2_with fail
 refine (C1.out _).mono ?_
 rintro e w1 ⟨rfl,rfl⟩
 go_wp2_with fail
 refine (C2.out _).mono ?_
 rintro e w2 ⟨rfl,rfl⟩
 go_wp2_with fail
 refine (C3.out _).mono ?_
 rintro e w3 ⟨rfl,rfl⟩
 go_wp2_with fail
 refine (C4.out _).mono ?_
 rintro e w4 ⟨rfl,rfl⟩
 go_wp2_with fail
 refine (C5.out _).mono ?_
 rintro e w5 ⟨rfl,rfl⟩
 go_wp2_with fail
 refine (C6.out _).mono ?_
 rintro e w6 ⟨rfl,rfl⟩
 go_wp2_with fail
 go_ret
 exact ⟨cL (by rw [HE.out];rfl),grow_alloc (World.grownBy.refl _ _) _⟩
def rdCells(r:Rd):List Value:= [J r.at_,U r.st,J r.meter,J r.fuel]
def lgEnc(g:Lg):List Value:=U g.veh::(rdCells g.out++rdCells g.inn)
theorem lg_len(g:Lg):(lgEnc g).length=9:=rfl
def RdOk(r:Rd):Prop:=r.st.size<=1000000
def dS1(g:Lg):Prop:=g.veh.size<=1000000/\RdOk g.out/\RdOk g.inn
theorem eO0(a b:Int)(w:World)(h:a<=b)(h1: -2000000000000000000<=a)(h2:b<=2000000000000000000):
 Calls prog 263 #[.agg #[J a,J b]] w (nG w (cY8 a b)):=by
 go_enter func263,ntmps263
 go_wp2_with fail
 go_ret
 exact ⟨cL (by unfold cY8;omega),grow_alloc (World.grownBy.refl _ _) _⟩
theorem eV3(a b:Int)(w:World):
 Calls prog 251 #[.agg #[J a,J b]] w (nG w (bO0 a b)):=by
 by_cases h:a < 0∨b<=a∨5761439 < b
 ·have hE:bO0 a b=1:=by unfold bO0;rw [if_pos h]
  have HE:=Lib.hid hE
  clear hE
  by_cases h1:a < 0
  ·clear h
   go_enter func251,ntmps251
   go_wp2_with fail
   go_ret
   exact ⟨cL HE.out.symm,grow_alloc (World.grownBy.refl _ _) _⟩
  ·by_cases h2:b<=a
   ·clear h
    have d1:decide (a < 0)=false:=by simp;omega
    go_enter func251,ntmps251
    go_wp2_with fail
    go_ret
    exact ⟨cL HE.out.symm,grow_alloc (World.grownBy.refl _ _) _⟩
   ·have h3:5761439 < b:=G
    have d1:decide (a < 0)=false:=by simp;omega
    have d2:decide (b<=a)=false:=by simp;omega
    clear h
    go_enter func251,ntmps251
    go_wp2_with fail
    go_ret
    exact ⟨cL HE.out.symm,grow_alloc (World.grownBy.refl _ _) _⟩
 ·have hE:bO0 a b=dO (decide (120 < cY8 a b)) 2:=by unfold bO0;rw [if_neg h]
  have HE:=Lib.hid hE
  clear hE
  have h1:0<=a:=G
  have h2:a < b:=G
  have h3:b<=5761439:=G
  have d1:decide (a < 0)=false:=by simp;omega
  have d2:decide (b<=a)=false:=by simp;omega
  have d3:decide (5761439 < b)=false:=by simp;omega
  clear h
  go_enter func251,ntmps251
  go_wp2_with fail
  refine (eO0 _ _ _ G G G).mono ?_
  rintro e w1 ⟨rfl,hg1⟩
  obtain ⟨D',hD⟩:∃D',D'=cY8 a b:=⟨_,rfl⟩
  rw [<-hD] at HE ⊢
  clear hD
  go_wp2_with fail
  refine (eH _ _ _).mono ?_
  rintro e w2 ⟨rfl,rfl⟩
  go_wp2_with fail
  go_ret
  exact ⟨cL HE.out.symm,grow_trans (grow_alloc (World.grownBy.refl _ _) _) hg1⟩
theorem yG(r:Rd)(w:World)(hok:RdOk r):
 Calls prog 264 #[.agg (rdCells r).toArray] w (nG w (qO r)):=by
 obtain ⟨at_,st,meter,fuel⟩:=r
 have hst:st.size<=1000000:=hok
 obtain ⟨M',hM⟩:∃M',M'=zS at_:=⟨_,rfl⟩
 obtain ⟨K,hK⟩:∃K,K=keyB st:=⟨_,rfl⟩
 obtain ⟨I',hI⟩:∃I',I'=inB meter 0 999999:=⟨_,rfl⟩
 obtain ⟨J',hJ⟩:∃J',J'=inB fuel 0 8:=⟨_,rfl⟩
 have hE:qO ⟨at_,st,meter,fuel⟩=dK [M',dO (!K) 5,dO (!I'|| !J') 1]:=by rw [hM,hK,hI,hJ];rfl
 have HE:=Lib.hid hE
 have cM:∀w,Calls prog 64 #[J at_] w fun e w'=>e=.returned (J M')/\w'=w:=fun w=>by rw [hM];exact nQ (cK1 _ _)
 have cK:∀w,Calls prog 95 #[U st] w fun e w'=>e=.returned (.bool K)/\w'=w:=fun w=>by rw [hK];exact nQ (isKey_any _ _ G)
 have cI:∀w,Calls prog 37 #[J meter,J 0,J 999999] w fun e w'=>e=.returned (.bool I')/\w'=w:=fun w=>by rw [hI];exact nQ (in_any _ _ _ _)
 have cJ:∀w,Calls prog 37 #[J fuel,J 0,J 8] w fun e w'=>e=.returned (.bool J')/\w'=w:=fun w=>by rw [hJ];exact nQ (in_any _ _ _ _)
 have CM:=Lib.hid cM
 have CK:=Lib.hid cK
 have CI:=Lib.hid cI
 have CJ:=Lib.hid cJ
 clear hM hK hI hJ hE cM cK cI cJ hok
 show Calls prog 264 #[.agg #[J at_,U st,J meter,J fuel]] w _
 cases I'
 ·go_enter func264,ntmps264
  go_wp2_with fail
  refine wp_region_still_tail 19 bC bC ?_
  change wpStill _ _ (World.drew _) _ _ _
  simp only [List.take_succ_cons,List.take_zero,List.drop_succ_cons,List.drop_zero]
  repeat still_step
  still_call (CM.out _)
  repeat still_step
  still_call (CK.out _)
  repeat still_step
  still_call (nQ (eH _ _ _))
  repeat still_step
  still_call (CI.out _)
  repeat still_step
  still_call (nQ (eH _ _ _))
  refine wpStill_nil ?_
  change wpList _ _ _ _ _ (World.drew _)
  go_wp2_with fail
  refine (fP [M',dO (!K) 5,dO (true) 1] _ _ _ _ ((Blk.at_ (w.alloc _) (by simp) _ _).drew) (by simp)).mono ?_
  rintro e w1 ⟨rfl,rfl⟩
  go_wp2_with fail
  go_ret
  exact ⟨cL HE.out.symm,pY (grow_alloc (grow_alloc (World.grownBy.refl _ _) _) _)⟩
 ·go_enter func264,ntmps264
  go_wp2_with fail
  refine wp_region_still_tail 19 bC bC ?_
  change wpStill _ _ (World.drew _) _ _ _
  simp only [List.take_succ_cons,List.take_zero,List.drop_succ_cons,List.drop_zero]
  repeat still_step
  still_call (CM.out _)
  repeat still_step
  still_call (CK.out _)
  repeat still_step
  still_call (nQ (eH _ _ _))
  repeat still_step
  still_call (CI.out _)
  repeat still_step
  still_call (CJ.out _)
  repeat still_step
  still_call (nQ (eH _ _ _))
  refine wpStill_nil ?_
  change wpList _ _ _ _ _ (World.drew _)
  go_wp2_with fail
  refine (fP [M',dO (!K) 5,dO (!J') 1] _ _ _ _ ((Blk.at_ (w.alloc _) (by simp) _ _).drew) (by simp)).mono ?_
  rintro e w1 ⟨rfl,rfl⟩
  go_wp2_with fail
  go_ret
  exact ⟨cL HE.out.symm,pY (grow_alloc (grow_alloc (World.grownBy.refl _ _) _) _)⟩
theorem uB{α:Type}(p:α->Bool):∀l:List α,l.dropWhile p= []↔l.all p=true
 | []=>by simp
 |x::r=>by
  rw [List.dropWhile_cons]
  by_cases h:p x=true
  ·rw [if_pos h,uB p r];simp [h]
  ·rw [if_neg h];simp [h]
theorem bL1{α:Type}(p:α->Bool):∀{l:List α} {x:α} {r:List α},l.dropWhile p=x::r->p x=false
 | [],_,_,h=>by cases h
 |y::l,x,r,h=>by
  rw [List.dropWhile_cons] at h
  by_cases hy:p y=true
  ·rw [if_pos hy] at h;exact bL1 p h
  ·rw [if_neg hy] at h
   injection h with h1 _
   subst h1
   simpa using hy
theorem cQ3(l cs:List UInt8):Lib.trimS l cs= []↔l.all (cs.contains ·)=true:=by
 unfold Lib.trimS Lib.trimLeftS Lib.trimRightS
 rw [uB,List.all_reverse]
 have hn:l.reverse.dropWhile (cs.contains ·)= []↔l.all (cs.contains ·)=true:=by rw [uB,List.all_reverse]
 constructor
 ·intro h
  cases hd:l.reverse.dropWhile (cs.contains ·) with
  |nil=>exact hn.1 hd
  |cons x r=>
   rw [hd] at h
   have h4:=bL1 _ hd
   rw [List.all_cons,h4] at h
   cases h
 ·intro h
  rw [hn.2 h];rfl
def xN(l cs:List UInt8):Bool:=l.all (cs.contains ·)
def bE0:List UInt8:= [97,98,99,100,101,102,103,104,105,106,107,108,109,110,111,112,113,114,115,116,117,118,119,120,121,122]
def rF:List UInt8:=bE0++ [48,49,50,51,52,53,54,55,56,57,45,95]
theorem dU8(c:UInt8):bE0.contains c=rS c:=by
 have h:∀n:Fin 256,bE0.contains (UInt8.ofNat n.val)=rS (UInt8.ofNat n.val):=by decide+kernel
 have:=h ⟨c.toNat,c.toNat_lt⟩
 simpa using this
theorem bK8(c:UInt8):rF.contains c=pE c:=by
 have h:∀n:Fin 256,rF.contains (UInt8.ofNat n.val)=pE (UInt8.ofNat n.val):=by decide+kernel
 have:=h ⟨c.toNat,c.toNat_lt⟩
 simpa using this
theorem dR7(l:List UInt8):cM4 l=(decide (1<=l.length)&&decide (l.length<=40)&&xN (l.take 1) bE0&&xN l rF):=by
 cases l with
 |nil=>rfl
 |cons c r=>
  have h1:xN ((c::r).take 1) bE0=rS c:=by
   show (bE0.contains c&&true)=_
   rw [dU8,Bool.and_true]
  have h2:xN (c::r) rF=(pE c&&bN5 r):=by
   show (rF.contains c&&r.all (rF.contains ·))=_
   rw [bK8,show (fun x=>rF.contains x)=pE from funext bK8]
   rfl
  have h3:rS c=true->pE c=true:=fun h=>by simp [pE,h]
  rw [h1,h2]
  unfold cM4
  by_cases hs:rS c=true
  ·have hk:=h3 hs
   simp only [hs,hk,Bool.true_and,Bool.and_true,List.length_cons]
   by_cases hl:r.length < 40
   ·simp [hl,show r.length+1<=40 by omega]
   ·simp [hl,show ¬r.length+1<=40 by omega]
  ·have hs':rS c=false:=by simpa using hs
   simp [hs']
theorem dE0(s cs:M)(w:World)(hs:s.size<=9223372036854775807)(hcs:cs.size < 4294967281)(ha:∀(j:Nat) b,cs.data.toList[j]?=some b->b.toNat < 128):
 Calls prog 127 #[U s,U cs] w fun e w'=>e=.returned (.bool (xN s.data.toList cs.data.toList))/\w.grownBy w' none:=by
 have hcon:=Any.strings_Trim_laid Tryz.lays160 bC s cs w hs hcs ha
 change Calls prog 172 _ _ (fun e w'=>e=.returned (U ⟨(Lib.trimS s.data.toList cs.data.toList).toArray⟩)/\Below w.heap.size w w') at hcon
 have HR:=Lib.hid (show xN s.data.toList cs.data.toList=(Lib.trimS s.data.toList cs.data.toList).isEmpty by
  have:=cQ3 s.data.toList cs.data.toList
  cases h:Lib.trimS s.data.toList cs.data.toList with
  |nil=>rw [h] at this;exact this.1 rfl
  |cons x r=>
   rw [h] at this
   have h2:¬xN s.data.toList cs.data.toList=true:=fun e=>by have:=this.2 e;cases this
   simpa using h2)
 obtain ⟨B,hB⟩:∃B,B=xN s.data.toList cs.data.toList:=⟨_,rfl⟩
 rw [<-hB] at HR ⊢
 obtain ⟨r,hr⟩:∃r,r=Lib.trimS s.data.toList cs.data.toList:=⟨_,rfl⟩
 rw [<-hr] at hcon HR
 clear hB hr
 go_enter func127,ntmps127
 go_wp2_with fail
 refine hcon.mono ?_
 rintro e w1 ⟨rfl,hb⟩
 go_wp2_with fail
 go_ret
 exact ⟨pG (by rw [HR.out]),xV hb⟩
theorem dK3(s:M)(w:World)(hs:s.size<=9223372036854775807):
 Calls prog 127 #[U s,U ⟨#[97,98,99,100,101,102,103,104,105,106,107,108,109,110,111,112,113,114,115,116,117,118,119,120,121,122]⟩] w fun e w'=>e=.returned (.bool (xN s.data.toList bE0))/\w.grownBy w' none:=
 dE0 s ⟨#[97,98,99,100,101,102,103,104,105,106,107,108,109,110,111,112,113,114,115,116,117,118,119,120,121,122]⟩ w hs bD (ascii_of_all bD)
theorem eT2(s:M)(w:World)(hs:s.size<=9223372036854775807):
 Calls prog 127 #[U s,U ⟨#[97,98,99,100,101,102,103,104,105,106,107,108,109,110,111,112,113,114,115,116,117,118,119,120,121,122,48,49,50,51,52,53,54,55,56,57,45,95]⟩] w fun e w'=>e=.returned (.bool (xN s.data.toList rF))/\w.grownBy w' none:=
 dE0 s ⟨#[97,98,99,100,101,102,103,104,105,106,107,108,109,110,111,112,113,114,115,116,117,118,119,120,121,122,48,49,50,51,52,53,54,55,56,57,45,95]⟩ w hs bD (ascii_of_all bD)
theorem bG9(s:M)(a b:Nat):(s.extract a b).size<=s.size:=by rw [ByteArray.size_extract];omega
theorem xM(s:M)(w:World)(hs:s.size<=9223372036854775807):
 Calls prog 88 #[U s] w fun e w'=>e=.returned (.bool (keyB s))/\w.grownBy w' none:=by
 have HK:=Lib.hid (show keyB s=(inB (s.size:Int) 1 40&&xN (s.extract 0 1).data.toList bE0&&xN s.data.toList rF) by
  unfold keyB
  rw [dR7,Lib.extract_data]
  have e:s.data.toList.length=s.size:=rfl
  rw [e]
  have h1:inB (s.size:Int) 1 40=(decide (1<=s.size)&&decide (s.size<=40)):=by
   unfold inB
   congr 1 <;> simp <;> omega
  rw [h1]
  simp)
 obtain ⟨K,hK⟩:∃K,K=keyB s:=⟨_,rfl⟩
 rw [<-hK] at HK ⊢
 obtain ⟨I',hI⟩:∃I',inB (s.size:Int) 1 40=I':=⟨_,rfl⟩
 have CI:=Lib.hid (fun w=>(by rw [<-hI];exact kM _ _ _ _:Calls prog 82 #[J (s.size:Int),J 1,J 40] w fun e w'=>e=.returned (.bool I')/\w=w'))
 rw [hI] at HK
 have hI2:I'=true->1<=s.size:=fun h=>by rw [h] at hI;have:=nK.1 hI;omega
 clear hK hI
 obtain ⟨P,hP⟩:∃P,xN (s.extract 0 1).data.toList bE0=P:=⟨_,rfl⟩
 obtain ⟨Q,hQ⟩:∃Q,xN s.data.toList rF=Q:=⟨_,rfl⟩
 have CP:=Lib.hid (fun w=>(by rw [<-hP];exact dK3 _ _ (by have:=bG9 s 0 1;omega):Calls prog 127 #[U (s.extract 0 1),U ⟨#[97,98,99,100,101,102,103,104,105,106,107,108,109,110,111,112,113,114,115,116,117,118,119,120,121,122]⟩] w fun e w'=>e=.returned (.bool P)/\w.grownBy w' none))
 have CQ:=Lib.hid (fun w=>(by rw [<-hQ];exact eT2 _ _ hs:Calls prog 127 #[U s,U ⟨#[97,98,99,100,101,102,103,104,105,106,107,108,109,110,111,112,113,114,115,116,117,118,119,120,121,122,48,49,50,51,52,53,54,55,56,57,45,95]⟩] w fun e w'=>e=.returned (.bool Q)/\w.grownBy w' none))
 rw [hP,hQ] at HK
 clear hP hQ
 go_enter func88,ntmps88
 go_wp2_with fail
 refine (CI.out _).mono ?_
 rintro e w1 ⟨rfl,rfl⟩
 cases I'
 ·go_wp2_with fail
  go_ret
  exact ⟨pG (by rw [HK.out];rfl),World.grownBy.refl _ _⟩
 ·have h1:=hI2 rfl
  clear hI2
  go_wp2_with fail
  refine (CP.out _).mono ?_
  rintro e w1 ⟨rfl,hg1⟩
  cases P
  ·go_wp2_with fail
   go_ret
   exact ⟨pG (by rw [HK.out];rfl),hg1⟩
  ·go_wp2_with fail
   refine (CQ.out _).mono ?_
   rintro e w2 ⟨rfl,hg2⟩
   go_wp2_with fail
   go_ret
   exact ⟨pG (by rw [HK.out];rfl),grow_trans hg1 hg2⟩
theorem dH0(n:Int)(w:World):Calls prog 87 #[J n] w fun e w'=>e=.returned (.bool (inB n 0 5761439))/\w=w':=by
 go_enter func87,ntmps87
 go_wp2_with fail
 refine (kM _ _ _ _).mono ?_
 rintro e w1 ⟨rfl,rfl⟩
 go_wp2_with fail
 go_ret
 exact ⟨D,D⟩
def dP3(c:UInt8):Bool:=(decide (65<=c.toNat)&&decide (c.toNat<=90))||(decide (48<=c.toNat)&&decide (c.toNat<=57))
def fL1(s:M):Bool:=inB (s.size:Int) 2 10&&s.data.toList.all dP3
structure Vh where
 key:M
 cls:M
def kG(x:Vh):List Value:= [U x.key,U x.cls]
theorem fE2(x:Vh):(kG x).length=2:=rfl
structure Pl where
 fr:Int
 veh:M
 plate:M
def dF0(x:Pl):List Value:= [J x.fr,U x.veh,U x.plate]
def dT9(x:Vh):Prop:=x.key.size<=1000000/\x.cls.size<=1000000
def fT2(_:Pl):Prop:=False
def vhP(k:M)(x:Vh):Bool:=x.key.toList==k.toList
def eR9(l:List Vh):Prop:=l.Pairwise fun q r=>Go.Op.bytesLess q.key.toList r.key.toList=true
theorem eN0{a b:M}:qC a b < 0↔Go.Op.bytesLess a.toList b.toList=true:=by
 unfold qC
 constructor
 ·intro h
  by_cases h1:Go.Op.bytesLess a.toList b.toList=true
  ·exact h1
  ·rw [if_neg h1] at h
   split at h <;> omega
 ·intro h;rw [if_pos h];decide
def cF7(p:Option Vh)(b:Vh):Bool:=match p with
 |none=>false
 |some q=>leB b.key q.key
def vhE(cs:List Cs)(p:Option Vh)(b:Vh):Int:=if !keyB b.key then 5 else if cF7 p b then 7 else if kL (nS b.cls) cs 0 < 0 then 8 else 0
def dY0(cs:List Cs)(l:List Vh):Int:=if 500 < l.length then 2 else scanE (vhE cs) none l
def fM5(a b:Pl):Int:=dK [pT a.fr b.fr,qC a.veh b.veh,qC a.plate b.plate]
def fK1(p o:Pl):Bool:=decide (o.fr=p.fr)&&(o.veh.toList==p.veh.toList||o.plate.toList==p.plate.toList)
def plE(vs:List Vh)(pre:List Pl)(p:Pl):Int:=
 if (!inB p.fr 0 5761439)=true then 1 else if kL (vhP p.veh) vs 0 < 0 then 8 else if (!fL1 p.plate)=true then 3 else if (match pre.getLast? with|none=>false|some q=>decide (0<=fM5 q p))=true then 7 else if pre.any (fK1 p)=true then 6 else 0
def plG(vs:List Vh):List Pl->List Pl->Int
 |_, []=>0
 |pre,p::r=>if plE vs pre p=0 then plG vs (pre++ [p]) r else plE vs pre p
def bV9(vs:List Vh)(l:List Pl):Int:=if 1000 < l.length then 2 else plG vs [] l
def vY(st:List St)(cs:List Cs)(vs:List Vh)(ps:List Pl):Int:=dK [stationsE st,eR cs,dY0 cs vs,bV9 vs ps]
theorem dV5{cs:List Cs}:∀{l:List Vh} {p:Option Vh},scanE (vhE cs) p l=0->eR9 l/\(∀q,p=some q->∀x∈l,Go.Op.bytesLess q.key.toList x.key.toList=true)/\∀x∈l,keyB x.key=true/\0<=kL (nS x.cls) cs 0
 | [],_,_=>⟨List.Pairwise.nil,(fun _ _ x hx=>by cases hx),(fun x hx=>by cases hx)⟩
 |b::r,p,h=>by
  unfold scanE at h
  by_cases hb:vhE cs p b=0
  ·rw [if_pos hb] at h
   obtain ⟨h1,h2,h3⟩:=dV5 h
   have hb2:=hb
   unfold vhE at hb2
   by_cases k1:(!keyB b.key)=true
   ·rw [if_pos k1] at hb2;cases hb2
   ·rw [if_neg k1] at hb2
    by_cases k2:cF7 p b=true
    ·rw [if_pos k2] at hb2;cases hb2
    ·rw [if_neg k2] at hb2
     by_cases k3:kL (nS b.cls) cs 0 < 0
     ·rw [if_pos k3] at hb2;cases hb2
     ·have hk:keyB b.key=true:=by simpa using k1
      refine ⟨List.Pairwise.cons (fun x hx=>h2 b D x hx) h1,fun q hq x hx=>?_,fun x hx=>?_⟩
      ·subst hq
       have hlt:Go.Op.bytesLess q.key.toList b.key.toList=true:=fX0 (by simpa [cF7] using k2)
       rcases List.mem_cons.1 hx with rfl|hx
       ·exact hlt
       ·exact bQ4 hlt (h2 b D x hx)
      ·rcases List.mem_cons.1 hx with rfl|hx
       ·exact ⟨hk,G⟩
       ·exact h3 x hx
  ·rw [if_neg hb] at h
   exact absurd h hb
def stCells(key:M)(hs:List Int):List Value:=U key::hs.map (Value.int .i64)
theorem st_one(key:M)(hs:List Int):∀v∈stCells key hs,v.oneCell'=true:=by
 intro v hv
 simp only [stCells,List.mem_cons] at hv
 rcases hv with rfl|hv
 ·rfl
 ·exact cR9 _ v hv
theorem info_st:(prog.info? 74).map (·.size)=some 15:=bC
theorem info_win:(prog.info? 67).map (·.size)=some 2:=bC
theorem st_len(key:M)(hs:List Int)(h:hs.length=14):(stCells key hs).length=15:=by simp [stCells,h]
theorem info_hours:(prog.info? 72).map (·.size)=some 14:=bC
def stEnc(s:St):List Value:=stCells s.key s.hs
def StOk(s:St):Prop:=s.hs.length=14/\s.key.size<=1000000/\∀h∈s.hs, -9223372036854775808<=h/\h<=9223372036854775807
theorem hrs_pair(hs:List Int)(j:Nat)(h:j *2+1 < hs.length):((hs.map (Value.int .i64)).drop (j *2)).take 2= [J (frAt hs j),J (toAt hs j)]:=by
 have h0:j *2 < (hs.map (Value.int .i64)).length:=by simp;omega
 have h1:j *2+1 < (hs.map (Value.int .i64)).length:=by simp;omega
 rw [List.drop_eq_getElem_cons h0,List.drop_eq_getElem_cons h1]
 simp [frAt,toAt,List.getD_eq_getElem?_getD,fY9 (show j *2 < hs.length by omega),fY9 h]
theorem checkStations_any(l : List St)(A : Option Addr)(n c : Nat)(w : World)(hl : SlT stEnc 15 74 w A n l)(hok : ∀ s ∈ l, StOk s)(hn : n <= 1000000) :
    Calls prog 112 #[H A n c] w fun e w' => e = .returned (J (stationsE l)) /\ w.grownBy w' none := by
  by_cases h50 : 50 < n
  · have hsp : stationsE l = 2 := by simp [stationsE, hl.len, h50]
    have Hsp := Lib.hid hsp; clear hsp
    go_enter func112, ntmps112
    go_wp2_with fail
    go_ret
    exact ⟨by rw [Hsp.out]; rfl, World.grownBy.refl _ _⟩
  · have hsp : stationsE l = scanE stationE (prevOf l 0) (l.drop 0) := by simp [stationsE, hl.len, h50, prevOf]
    have Hsp := Lib.hid hsp; clear hsp
    have hd : decide ((50 : Int) < (n : Int)) = false := by simp; omega
    go_enter func112, ntmps112
    go_wp2_with fail
    go_loopw [12] (fun i wr => ∃ k : Nat, k <= n /\ i =J k /\ stationsE l = scanE stationE (prevOf l k) (l.drop k) /\ w.grownBy wr none) (fun i _ => n - (intOf i).toNat)
    case atStart => exact ⟨0, Nat.zero_le _, rfl, Hsp.out, World.grownBy.refl _ _⟩
    case round =>
      obtain ⟨k, hk, rfl, hE, hgr⟩ := hrel
      have HE := Lib.hid hE; clear hE
      by_cases hlt : k < n
      · have hlr := hl.grow0 hgr
        obtain ⟨b, off, rfl, hbl, hrg⟩ := hlr.get G
        obtain ⟨x, hx⟩ : ∃ x, l[k]? = some x := ⟨_, fY9 (by have := hl.len; omega)⟩
        have hxo := hok x (fZ9 hx)
        have hrx := hrg k x hx
        have hat := scanE_at stationE l k x hx
        have Hat := Lib.hid hat; clear hat
        have Hrg := Lib.hid hrg; clear hrg
        obtain ⟨key, hs⟩ := x
        have hrx : wr.rangeAt b (off + k * 15) (stCells key hs) := hrx
        have hl14 := Lib.hid (show hs.length = 14 from hxo.1)
        have hks : key.size <= 1000000 := hxo.2.1
        have hhb : ∀ h ∈ hs, -9223372036854775808 <= h /\ h <= 9223372036854775807 := hxo.2.2
        have hln := fun (_ : True) => (st_len key hs hl14.out)
        have hst : (prog.info? 74).map (·.size) = some (stCells key hs).length := by rw [hln bB]; exact info_st
        have Hst := Lib.hid hst; clear hst hxo hln
        have hnew : Blk (wr.alloc (.cells #[U ⟨#[]⟩,J 0,J 0,J 0,J 0,J 0,J 0,J 0,J 0,J 0,J 0,J 0,J 0,J 0,J 0] 74)) wr.heap.size 74 (stCells (⟨#[]⟩ : M) (List.replicate 14 0)) := Blk.at_ wr rfl _ _
        go_wp2_with (first
          | (with_reducible refine wpList_load_mid rfl 74 (.tmp 15) rfl b (off + k * 15) rfl (stCells key hs) _ hrx Tryz.underlying74 rfl Hst.out ?_)
          | (with_reducible refine wpList_store_all rfl 74 (.tmp 4) (.tmp 16) rfl wr.heap.size _ _ (stCells key hs) hnew rfl rfl 15 info_st (st_len _ _ hl14.out) (st_len _ _ (by simp)) (st_one _ _) ?_
             intro w1 hb1 hg1
             have hk1 : w1.cell? ⟨wr.heap.size, 0, none⟩ = some (U key) := hb1.cell_of rfl))
        refine (isKey_any key _ G).mono ?_
        rintro e w2 ⟨rfl, rfl⟩
        have hgr1 : w.grownBy w1 none := grow_own (grow_alloc hgr _) hg1 (by simpa using hgr.size)
        have hgw : wr.grownBy w1 none := grow_own (grow_alloc (World.grownBy.refl _ _) _) hg1 (by simp)
        clear hrx hnew hg1
        by_cases hkey : keyB key = false
        · have h5 : stationE (prevOf l k) ⟨key, hs⟩ = 5 := by simp [stationE, hkey]
          have H5 := Lib.hid h5; clear h5
          go_wp2_with fail
          go_ret
          exact ⟨by rw [HE.out, Hat.out, if_neg (by rw [H5.out]; decide), H5.out]; rfl, hgr1⟩
        · have hkey : keyB key = true := by simpa using hkey
          obtain ⟨o8, ho8⟩ : ∃ o, o = prevB (prevOf l k) (fun q => leB key q.key) := ⟨_, rfl⟩
          have Ho8 := Lib.hid ho8; clear ho8
          go_upto_region 8 with fail
          go_cut [22] (fun v wx => v = .bool o8 /\ ∃ nq, wx = w1.drewN nq)
          case first =>
            by_cases hk0 : k = 0
            · have hz : decide ((0 : Int) < (k : Int)) = false := by simp; omega
              have hz2 : decide (0 < k) = false := by simp; omega
              have ho : o8 = false := by rw [Ho8.out]; simp [prevB, prevOf, hk0]
              have Ho := Lib.hid ho
              clear ho hk0
              go_quiet (fail)
              go_wp2_with fail
              go_meet
              exact ⟨by rw [Ho.out], _, rfl⟩
            · have hz : (0 : Int) < (k : Int) := by omega
              have hz2 : decide (0 < k) = true := decide_eq_true G
              obtain ⟨q, hq⟩ : ∃ q, l[k - 1]? = some q := ⟨_, fY9 (by have := hl.len; omega)⟩
              have hrq := Hrg.out (k - 1) q hq
              have ho : o8 = leB key q.key := by rw [Ho8.out]; simp [prevB, prevOf, hk0, hq]
              have Ho := Lib.hid ho
              have hqk : wr.cell? ⟨b, off + (k - 1) * 15, none⟩ = some (U q.key) := hrq 0 _ rfl
              have hki : (k : Int) - 1 = ((k - 1 : Nat) : Int) := by omega
              have hk1n : (k : Int) - 1 < (n : Int) := by omega
              have hqk1 : w1.cell? ⟨b, off + (k - 1) * 15, none⟩ = some (U q.key) := (World.cell?_of_block (hgw.block b hbl (by simp))).trans hqk
              clear ho hk0 hq hrq
              go_quiet (fail)
              go_wp2_with fail
              go_meet
              exact ⟨by rw [Ho.out]; rfl, _, rfl⟩
          case rest =>
            obtain ⟨rfl, nq, rfl⟩ := hcut
            have hb2 : Blk (w1.drewN nq) wr.heap.size 74 (stCells key hs) := hb1.drewN nq
            have hgr2 : w.grownBy (w1.drewN nq) none := grow_drewN hgr1 nq
            clear hb1 hgr1 hgw
            obtain ⟨w2, hw2⟩ : ∃ w2, w2 = w1.drewN nq := ⟨_, rfl⟩
            rw [<- hw2] at hb2 hgr2 ⊢
            clear hw2
            cases o8
            · have hE1 : stationE (prevOf l k) ⟨key, hs⟩ = if hoursBad hs then 1 else 0 := by
                have ho := Ho8.out
                unfold stationE
                rw [if_neg (by simp [hkey]), show prevB (prevOf l k) (fun q => leB (⟨key, hs⟩ : St).key q.key) = _ from ho.symm]
                rfl
              have HE1 := Lib.hid hE1; clear hE1
              have hvv : ∀ j v, (hs.map (Value.int .i64))[j]? = some v -> (stCells key hs)[1 + j]? = some v := fun j v hv => by rw [Nat.add_comm]; exact hv
              have Hvv := Lib.hid hvv; clear hvv
              go_wp2_with (with_reducible refine wpList_load_blk rfl 72 (.tmp 36) rfl wr.heap.size 1 _ (stCells key hs) (hs.map (Value.int .i64)) _ hb2 rfl Tryz.underlying72 rfl 14 info_hours (by simpa using hl14.out) Hvv.out ?_)
              obtain ⟨wo, hwo⟩ : ∃ wo : World, wo = wr := ⟨_, rfl⟩
              rw [<- hwo] at hb2 ⊢
              clear hwo
              go_loopw [38] (fun i wr => ∃ j : Nat, j <= 7 /\ i =J j /\ (∀ t, t < j -> winBad (frAt hs t) (toAt hs t) = false) /\ w.grownBy wr none) (fun i _ => 7 - (intOf i).toNat)
              case atStart => exact ⟨0, by omega, rfl, fun t ht => absurd ht G, hgr2⟩
              case round =>
                obtain ⟨j, hj, rfl, hJ, hgj⟩ := hrel
                have HJ := Lib.hid hJ; clear hJ
                by_cases hj7 : j < 7
                · have hvs : ((hs.map (Value.int .i64)).drop (j * 2)).take 2 = [J (frAt hs j),J (toAt hs j)] := hrs_pair hs j (by have := hl14.out; omega)
                  have Hvs := Lib.hid hvs; clear hvs
                  obtain ⟨f, hf⟩ : ∃ f, f = frAt hs j := ⟨_, rfl⟩
                  obtain ⟨t, ht⟩ : ∃ t, t = toAt hs j := ⟨_, rfl⟩
                  rw [<- hf, <- ht] at Hvs
                  have Hf := Lib.hid hf
                  have Ht := Lib.hid ht
                  clear hf ht
                  go_wp2_with (with_reducible refine wpList_index_row rfl 72 (.tmp 37) (.tmp 38) rfl (hs.map (Value.int .i64)) j rfl rfl 7 _ Tryz.underlying72 _ Tryz.underlying67 rfl 2 info_win hj7 [J f,J t] Hvs.out ?_)
                  refine (in_any _ _ _ _).mono ?_
                  rintro e w3 ⟨rfl, rfl⟩
                  obtain ⟨x, hx⟩ : ∃ x, inB f 0 t = x := ⟨_, rfl⟩
                  rw [hx]
                  have Hx := Lib.hid hx; clear hx
                  by_cases hbad : winBad f t = true
                  · have hany : hoursBad hs = true := by
                      simp only [hoursBad, List.any_eq_true, List.mem_range]
                      exact ⟨j, hj7, by rw [<- Hf.out, <- Ht.out]; exact hbad⟩
                    have Hfin := Lib.hid (show stationE (prevOf l k) ⟨key, hs⟩ = 1 by rw [HE1.out, if_pos hany])
                    have Hb := Lib.hid hbad
                    clear hany hbad
                    cases x
                    · go_wp2_with fail
                      go_ret
                      exact ⟨by rw [HE.out, Hat.out, if_neg (by rw [Hfin.out]; decide), Hfin.out]; rfl, grow_alloc hgj _⟩
                    · have h14 : (1440 : Int) < t := by have := Hb.out; simp [winBad, Hx.out] at this; exact this
                      go_wp2_with fail
                      go_ret
                      exact ⟨by rw [HE.out, Hat.out, if_neg (by rw [Hfin.out]; decide), Hfin.out]; rfl, grow_alloc hgj _⟩
                  · have hx1 : x = true := by have := Hx.out; simp only [winBad, this] at hbad; cases x <;> simp_all
                    have h14 : ¬ (1440 : Int) < t := by intro h; apply hbad; simp [winBad, h]
                    have Hb := Lib.hid (show winBad f t = false by simpa using hbad)
                    subst hx1
                    clear hbad
                    go_wp2_with fail
                    go_roundw
                    case rel => exact ⟨j + 1, by omega, by go_num, fun i hi => by
                      rcases Nat.lt_or_ge i j with h | h
                      · exact HJ.out i h
                      · obtain rfl : i = j := by omega
                        rw [<- Hf.out, <- Ht.out]; exact Hb.out, grow_alloc hgj _⟩
                    case measure => simp [intOf]; omega
                · have hno : hoursBad hs = false := by
                    simp only [hoursBad, List.any_eq_false, List.mem_range]
                    intro i hi
                    rw [HJ.out i G]
                    decide
                  have Hfin := Lib.hid (show stationE (prevOf l k) ⟨key, hs⟩ = 0 by rw [HE1.out, if_neg (by simp [hno])])
                  clear hno
                  go_wp2_with fail
                  go_roundw
                  case rel => exact ⟨k + 1, by omega, by go_num, by rw [HE.out, Hat.out, if_pos Hfin.out], hgj⟩
                  case measure => simp [intOf]; omega
            · have hE1 : stationE (prevOf l k) ⟨key, hs⟩ = 7 := by
                have ho := Ho8.out
                unfold stationE
                rw [if_neg (by simp [hkey]), show prevB (prevOf l k) (fun q => leB (⟨key, hs⟩ : St).key q.key) = _ from ho.symm]
                rfl
              have Hfin := Lib.hid hE1; clear hE1
              go_wp2_with fail
              go_ret
              exact ⟨by rw [HE.out, Hat.out, if_neg (by rw [Hfin.out]; decide), Hfin.out]; rfl, hgr2⟩
      · go_wp2_with fail
        go_ret
        exact ⟨by rw [HE.out, scanE_end _ _ _ _ (by have := hl.len; omega)]; rfl, hgr⟩
def look:List (Nat×Value)->Nat->Option Value
 | [],_=>none
 |(k,v)::r,t=>bif Nat.beq k t then some v else look r t
def rd(S:List (Nat×Value)):Operand->Option Value
 | .tmp t=>look S t
 | .const v=>some v
 | .global g=>some (.pointer (some ⟨g,0,none⟩))
 | .func f=>some (.func (.func f) #[] #[])
structure Has (S:List (Nat×Value)) (n:Nat) (a:Act):Prop where
 size:a.tmps.size=n
 val:∀t v,look S t=some v->a.tmps[t]?=some v
 df:a.defers= []
theorem Has.eval{S:List (Nat×Value)}{n:Nat}{a:Act}(h:Has S n a){x:Operand}{v:Value}(hx:rd S x=some v):a.eval x=v:=by
 cases x with
 |tmp t=>simp [Act.eval,Array.getD_eq_getD_getElem?,h.val t v hx]
 |const u=>simpa [rd,Act.eval] using hx
 |global g=>simpa [rd,Act.eval] using hx
 |func f=>simpa [rd,Act.eval] using hx
theorem yF{k t:Nat}{v u:Value}{r:List (Nat×Value)}(h:look ((k,v)::r) t=some u):(k=t/\v=u)∨(k≠t/\look r t=some u):=by
 unfold look at h
 cases hb:Nat.beq k t
 ·rw [hb] at h
  exact .inr ⟨fun e=>by subst e;simp at hb,h⟩
 ·rw [hb] at h
  exact .inl ⟨Nat.eq_of_beq_eq_true hb,by simpa using h⟩
theorem Has.put{S:List (Nat×Value)}{n:Nat}{a:Act}(h:Has S n a){d:Nat}(hd:Nat.ble (d+1) n=true)(v:Value):Has ((d,v)::S) n (a.put (some d) v):=by
 have hlt:d < n:=Nat.le_of_ble_eq_true hd
 refine ⟨by simp [Act.put,h.size],fun t u hu=>?_,by simpa [Act.put] using h.df⟩
 rcases yF hu with ⟨rfl,rfl⟩|⟨hne,hu⟩
 ·simp only [Act.put]
  rw [Array.getElem?_setIfInBounds]
  simp [h.size,hlt]
 ·simp only [Act.put]
  rw [Array.getElem?_setIfInBounds]
  rw [if_neg hne]
  exact h.val t u hu
theorem Has.sub{S S':List (Nat×Value)}{n:Nat}{a:Act}(h:Has S n a)(hs:∀t v,look S' t=some v->look S t=some v):Has S' n a:=⟨h.size,fun t v ht=>h.val t v (hs t v ht),h.df⟩
def Sub(S:List (Nat×Value)):List (Nat×Value)->Prop
 | []=>True
 |(k,v)::r=>look S k=some v/\Sub S r
theorem Sub.look{S:List (Nat×Value)}:∀{S':List (Nat×Value)},Sub S S'->∀t v,look S' t=some v->look S t=some v
 | [],_,t,v,h=>by simp [Proofs.YtapdhfjfgpbnnaaGreatDoor.look] at h
 |(k,u)::r,hs,t,v,h=>by
  rcases yF h with ⟨rfl,rfl⟩|⟨_,h⟩
  ·exact hs.1
  ·exact Sub.look hs.2 t v h
def bP4:Nat->List Value->List (Nat×Value)
 |_, []=> []
 |i,v::r=>(i,v)::bP4 (i+1) r
theorem bG3:∀(l:List Value) (i t:Nat) (v:Value),look (bP4 i l) t=some v->i<=t/\l[t - i]?=some v
 | [],i,t,v,h=>by simp [bP4,look] at h
 |u::r,i,t,v,h=>by
  rcases yF h with ⟨rfl,rfl⟩|⟨hne,h⟩
  ·simp
  ·have:=bG3 r (i+1) t v h
   refine ⟨G,?_⟩
   rw [show t - i=(t - (i+1))+1 by omega]
   simpa using this.2
structure Cx where
 n:Nat
 w0:World
 row:Option Nat
 Tt:List TypeId
structure Lasts2 (N:Nat) (row:Option Nat) (Tt:List TypeId) (X:World->Prop):Prop where
 gr:∀w w',w.grownBy w' none->X w->X w'
 st:∀(w w':World) (r:Nat) (T:TypeId) (c:Array Value),w.heap[r]?=some (.cells c T (0,0))->T∉Tt->(N<=r∨row=some r)->w.grownBy w' (some r)->X w->X w'
theorem Lasts2.true_{N:Nat}{row:Option Nat}{Tt:List TypeId}:Lasts2 N row Tt (fun _=>True):=⟨fun _ _ _ _=>bB,fun _ _ _ _ _ _ _ _ _ _=>bB⟩
theorem Lasts2.and_{N:Nat}{row:Option Nat}{Tt:List TypeId}{X Y:World->Prop}(hX:Lasts2 N row Tt X)(hY:Lasts2 N row Tt Y):Lasts2 N row Tt (fun w=>X w/\Y w):=
 ⟨fun w w' h ⟨x,y⟩=>⟨hX.gr w w' h x,hY.gr w w' h y⟩,fun w w' r T c h1 h2 h3 h4 ⟨x,y⟩=>⟨hX.st w w' r T c h1 h2 h3 h4 x,hY.st w w' r T c h1 h2 h3 h4 y⟩⟩
theorem SlT.lasts2{α:Type}{enc:α->List Value}{k:Nat}{T:TypeId}{N:Nat}{row:Option Nat}{Tt:List TypeId}{A:Option Addr}{n:Nat}{l:List α}(hT:Tt.contains T=true):Lasts2 N row Tt (fun w=>SlT enc k T w A n l):=
 ⟨fun _ _ h hx=>hx.grow0 h,fun _ _ _ _ _ h1 h2 _ h3 hx=>hx.grown h3 h1 (fun e=>h2 (by subst e;simpa using hT))⟩
structure bF3 (N:Nat) (K:World->Prop):Prop where
 gr:∀w w',w.grownBy w' none->K w->K w'
 st:∀(w w':World) (r:Nat),N<=r->w.grownBy w' (some r)->K w->K w'
theorem bF3.true_{N:Nat}:bF3 N (fun _=>True):=⟨fun _ _ _ _=>bB,fun _ _ _ _ _ _=>bB⟩
theorem bF3.strm{TS:TypeId}{N B sb m:Nat}(h:sb < N):bF3 N (fun w=>fQ TS w B sb m):=
 ⟨fun _ _ hg hs=>hs.grown hg (fun k e=>by cases e),fun _ _ r hr hg hs=>hs.grown hg (fun k e=>by cases e;omega)⟩
structure Own where
 v:Value
 e:TypeId
 sz:Nat
 n:Nat
 xs:List Value
structure gB (c:Cx) (K:World->Prop) (L:List (Nat×TypeId×List Value)) (O:List Own) (X:List (World->Prop)) (w:World):Prop where
 g:c.w0.grownBy w c.row
 k:K w
 b:∀x∈L,c.w0.heap.size<=x.1/\Blk w x.1 x.2.1 x.2.2
 nd:L.Pairwise (fun x y=>x.1≠y.1)
 o:∀r∈O,w.ownsRow c.w0.heap.size r.e r.sz r.v r.n r.xs
 od:∀r∈O,∀x∈L,r.v.ownBlock≠some x.1
 oo:O.Pairwise (fun r s=>∀g,r.v.ownBlock=some g->s.v.ownBlock≠some g)
 x:∀A∈X,A w
 kk:bF3 c.w0.heap.size K
 l:∀A∈X,Lasts2 c.w0.heap.size c.row c.Tt A
 rs:∀r,c.row=some r->r < c.w0.heap.size
section
variable {c:Cx} {K:World->Prop} {L:List (Nat×TypeId×List Value)} {O:List Own} {X:List (World->Prop)} {Y:World->Prop} {w w':World}
theorem gB.lt(h:gB c K L O X w){g:Nat}{T:TypeId}{cs:List Value}(hm:(g,T,cs)∈L):g < w.heap.size:=(h.b _ hm).2.lt
theorem gB.blk(h:gB c K L O X w){g:Nat}{T:TypeId}{cs:List Value}(hm:(g,T,cs)∈L):Blk w g T cs:=(h.b _ hm).2
theorem gB.grow(h:gB c K L O X w)(hg:w.grownBy w' none):gB c K L O X w':=
 ⟨grow_trans h.g (bG7 hg),h.kk.gr _ _ hg h.k,fun x hx=>⟨(h.b x hx).1,(h.b x hx).2.grown hg (by simp)⟩,h.nd,fun r hr=>(h.o r hr).kept hg (by cases hv:r.v.ownBlock <;> simp),h.od,h.oo,fun A hA=>(h.l A hA).gr _ _ hg (h.x A hA),h.kk,h.l,h.rs⟩
theorem gB.new(h:gB c K L O X w)(T:TypeId)(cs:List Value):gB c K ((w.heap.size,T,cs)::L) O X (w.alloc (.cells cs.toArray T)):=by
 have h2:=h.grow (grow_alloc (World.grownBy.refl w none) (.cells cs.toArray T))
 refine ⟨h2.g,h2.k,fun x hx=>?_,List.Pairwise.cons (fun y hy e=>by have h3:=(h.b y hy).2.lt;have e2:w.heap.size=y.1:=e;omega) h.nd,h2.o,fun r hr x hx=>?_,h.oo,h2.x,h.kk,h.l,h.rs⟩
 ·rcases List.mem_cons.1 hx with rfl|hx
  ·exact ⟨h.g.size,Blk.at_ w D T cs⟩
  ·exact h2.b x hx
 ·rcases List.mem_cons.1 hx with rfl|hx
  ·intro e
   have h1:=((h.o r hr).lt _ e).2
   have h2:w.heap.size < w.heap.size:=h1
   omega
  ·exact h.od r hr x hx
theorem gB.also(h:gB c K L O X w)(hl:Lasts2 c.w0.heap.size c.row c.Tt Y)(hy:Y w):gB c K L O (Y::X) w:=⟨h.g,h.k,h.b,h.nd,h.o,h.od,h.oo,fun A hA=>by
 rcases List.mem_cons.1 hA with rfl|hA
 ·exact hy
 ·exact h.x A hA,h.kk,fun A hA=>by
 rcases List.mem_cons.1 hA with rfl|hA
 ·exact hl
 ·exact h.l A hA,h.rs⟩
theorem gB.fact(h:gB c K L O X w)(i:Nat){A:World->Prop}(hi:X[i]?=some A):A w:=h.x A (fZ9 hi)
def rV{α:Type}(l:List α):List Nat->List α
 | []=> []
 |i::r=>match l[i]? with
  |some x=>x::rV l r
  |none=>rV l r
theorem nF{α:Type}{l:List α}:∀{is:List Nat} {x:α},x∈rV l is->∃i∈is,l[i]?=some x
 | [],x,h=>by simp [rV] at h
 |i::r,x,h=>by
  simp only [rV] at h
  split at h
  ·rename_i y hy
   rcases List.mem_cons.1 h with rfl|h
   ·exact ⟨i,List.mem_cons_self ..,hy⟩
   ·obtain ⟨j,hj,hx⟩:=nF h
    exact ⟨j,List.mem_cons_of_mem _ hj,hx⟩
  ·obtain ⟨j,hj,hx⟩:=nF h
   exact ⟨j,List.mem_cons_of_mem _ hj,hx⟩
def wO:List Nat->Bool
 | []=>true
 |i::r=>r.all (fun j=> !Nat.beq i j)&&wO r
theorem wY{α:Type}{R:α->α->Prop}(hs:∀x y,R x y->R y x){l:List α}(hp:l.Pairwise R):∀{is:List Nat},wO is=true->(rV l is).Pairwise R
 | [],_=>List.Pairwise.nil
 |i::r,h=>by
  simp only [wO,Bool.and_eq_true] at h
  simp only [rV]
  split
  ·rename_i x hx
   refine List.Pairwise.cons (fun y hy=>?_) (wY hs hp h.2)
   obtain ⟨j,hj,hy⟩:=nF hy
   have hne:i≠j:=fun e=>by
    have:=List.all_eq_true.1 h.1 j hj
    subst e
    simp at this
   obtain ⟨hi,rfl⟩:=List.getElem?_eq_some_iff.1 hx
   obtain ⟨hj',rfl⟩:=List.getElem?_eq_some_iff.1 hy
   rcases Nat.lt_or_ge i j with h'|h'
   ·exact List.pairwise_iff_getElem.1 hp i j hi hj' h'
   ·exact hs _ _ (List.pairwise_iff_getElem.1 hp j i hj' hi G)
  ·exact wY hs hp h.2
theorem gB.pickX(h:gB c K L O X w)(is:List Nat):gB c K L O (rV X is) w:=⟨h.g,h.k,h.b,h.nd,h.o,h.od,h.oo,fun A hA=>by obtain ⟨i,_,hi⟩:=nF hA;exact h.fact i hi,h.kk,fun A hA=>by obtain ⟨i,_,hi⟩:=nF hA;exact h.l A (fZ9 hi),h.rs⟩
theorem gB.pickL(h:gB c K L O X w)(is:List Nat)(hn:wO is=true):gB c K (rV L is) O X w:=⟨h.g,h.k,fun x hx=>by obtain ⟨i,_,hi⟩:=nF hx;exact h.b x (fZ9 hi),wY (fun _ _ hr=>hr.symm) h.nd hn,h.o,fun r hr x hx=>by obtain ⟨i,_,hi⟩:=nF hx;exact h.od r hr x (fZ9 hi),h.oo,h.x,h.kk,h.l,h.rs⟩
theorem gB.pickO(h:gB c K L O X w)(is:List Nat)(hn:wO is=true):gB c K L (rV O is) X w:=⟨h.g,h.k,h.b,h.nd,fun r hr=>by obtain ⟨i,_,hi⟩:=nF hr;exact h.o r (fZ9 hi),fun r hr=>by obtain ⟨i,_,hi⟩:=nF hr;exact h.od r (fZ9 hi),wY (fun _ _ hr g hg e=>hr g e hg) h.oo hn,h.x,h.kk,h.l,h.rs⟩
theorem gB.pick(h:gB c K L O X w)(ls os xs:List Nat)(hl:wO ls=true)(ho:wO os=true):gB c K (rV L ls) (rV O os) (rV X xs) w:=((h.pickL ls hl).pickO os ho).pickX xs
theorem gB.sub{L':List (Nat×TypeId×List Value)}(h:gB c K L O X w)(hs:L'.Sublist L):gB c K L' O X w:=⟨h.g,h.k,fun x hx=>h.b x (hs.subset hx),h.nd.sublist hs,h.o,fun r hr x hx=>h.od r hr x (hs.subset hx),h.oo,h.x,h.kk,h.l,h.rs⟩
def bB0(g:Nat)(cs:List Value):List (Nat×TypeId×List Value)->Nat->List (Nat×TypeId×List Value)
 | [],_=> []
 |x::r,0=>(g,x.2.1,cs)::r
 |x::r,i+1=>x::bB0 g cs r i
theorem bI4{g:Nat}{cs:List Value}:∀{i:Nat} {L:List (Nat×TypeId×List Value)} {T:TypeId} {cs0:List Value},L[i]?=some (g,T,cs0)->L.Pairwise (fun x y=>x.1≠y.1)->∀x∈bB0 g cs L i,x=(g,T,cs)∨(x∈L/\x.1≠g)
 |_, [],_,_,h,_,x,hx=>by simp [bB0] at hx
 |0,y::r,T,cs0,h,hp,x,hx=>by
  simp at h;subst h
  rcases List.mem_cons.1 hx with rfl|hx
  ·exact .inl D
  ·exact .inr ⟨List.mem_cons_of_mem _ hx,fun e=>(List.pairwise_cons.1 hp).1 x hx e.symm⟩
 |i+1,y::r,T,cs0,h,hp,x,hx=>by
  have hr:r[i]?=some (g,T,cs0):=by simpa using h
  rcases List.mem_cons.1 hx with rfl|hx
  ·exact .inr ⟨List.mem_cons_self ..,(List.pairwise_cons.1 hp).1 _ (fZ9 hr)⟩
  ·rcases bI4 hr (List.pairwise_cons.1 hp).2 x hx with h1|⟨h1,h2⟩
   ·exact .inl h1
   ·exact .inr ⟨List.mem_cons_of_mem _ h1,h2⟩
theorem cC2{g:Nat}{cs:List Value}:∀{i:Nat} {L:List (Nat×TypeId×List Value)} {T:TypeId} {cs0:List Value},L[i]?=some (g,T,cs0)->(bB0 g cs L i).map (·.1)=L.map (·.1)
 |_, [],_,_,h=>by rfl
 |0,y::r,T,cs0,h=>by simp at h;subst h;rfl
 |i+1,y::r,T,cs0,h=>by simp only [bB0,List.map_cons];rw [cC2 (by simpa using h)]
theorem pairwise_map{L L':List (Nat×TypeId×List Value)}(h:L'.map (·.1)=L.map (·.1))(hp:L.Pairwise (fun x y=>x.1≠y.1)):L'.Pairwise (fun x y=>x.1≠y.1):=by
 have h1:(L.map (·.1)).Pairwise (·≠·):=List.pairwise_map.2 hp
 rw [<-h] at h1
 exact List.pairwise_map.1 h1
theorem gB.store(h:gB c K L O X w){i g:Nat}{T:TypeId}{cs cs':List Value}(hm:L[i]?=some (g,T,cs))(hT:c.Tt.contains T=false)(hg:w.grownBy w' (some g))(hb:Blk w' g T cs'):gB c K (bB0 g cs' L i) O X w':=by
 have vE:=fZ9 hm
 have hz:c.w0.heap.size<=g:=(h.b _ vE).1
 refine ⟨grow_own h.g hg (fun k e=>by cases e;exact hz),h.kk.st _ _ g hz hg h.k,fun x hx=>?_,pairwise_map (cC2 hm) h.nd,fun r hr=>(h.o r hr).kept hg (.inr (h.od r hr _ vE)),fun r hr x hx=>?_,h.oo,fun A hA=>(h.l A hA).st w w' g T _ (h.blk vE) (fun e=>by simp [e] at hT) (.inl hz) hg (h.x A hA),h.kk,h.l,h.rs⟩
 ·rcases bI4 hm h.nd x hx with rfl|⟨h1,h2⟩
  ·exact ⟨hz,hb⟩
  ·exact ⟨(h.b x h1).1,(h.b x h1).2.grown hg (fun e=>h2 (Option.some.inj e))⟩
 ·rcases bI4 hm h.nd x hx with rfl|⟨h1,h2⟩
  ·exact h.od r hr (g,T,cs) vE
  ·exact h.od r hr x h1
def vH(r:Own):List Own->Nat->List Own
 | [],_=> []
 |_::l,0=>r::l
 |x::l,i+1=>x::vH r l i
theorem bC0{r:Own}:∀{O:List Own} {i:Nat} {r0:Own},O[i]?=some r0->O.Pairwise (fun r s=>∀g,r.v.ownBlock=some g->s.v.ownBlock≠some g)->∀x∈vH r O i,x=r∨(x∈O/\∀g,r0.v.ownBlock=some g->x.v.ownBlock≠some g)
 | [],_,_,h,_,x,hx=>by simp [vH] at hx
 |y::l,0,r0,h,hp,x,hx=>by
  simp at h;subst h
  rcases List.mem_cons.1 hx with rfl|hx
  ·exact .inl D
  ·exact .inr ⟨List.mem_cons_of_mem _ hx,(List.pairwise_cons.1 hp).1 x hx⟩
 |y::l,i+1,r0,h,hp,x,hx=>by
  have hr:l[i]?=some r0:=by simpa using h
  rcases List.mem_cons.1 hx with rfl|hx
  ·exact .inr ⟨List.mem_cons_self ..,fun g hg e=>(List.pairwise_cons.1 hp).1 _ (fZ9 hr) g e hg⟩
  ·rcases bC0 hr (List.pairwise_cons.1 hp).2 x hx with h1|⟨h1,h2⟩
   ·exact .inl h1
   ·exact .inr ⟨List.mem_cons_of_mem _ h1,h2⟩
theorem bU8{r:Own}:∀{O:List Own} {i:Nat} {r0:Own},O[i]?=some r0->O.Pairwise (fun r s=>∀g,r.v.ownBlock=some g->s.v.ownBlock≠some g)->(∀x∈O,(∀g,r0.v.ownBlock=some g->x.v.ownBlock≠some g)->∀g,r.v.ownBlock=some g->x.v.ownBlock≠some g)->
 (vH r O i).Pairwise (fun r s=>∀g,r.v.ownBlock=some g->s.v.ownBlock≠some g)
 | [],_,_,h,_,_=>by simp at h
 |y::l,0,r0,h,hp,hn=>by
  simp at h;subst h
  exact List.Pairwise.cons (fun x hx=>hn x (List.mem_cons_of_mem _ hx) ((List.pairwise_cons.1 hp).1 x hx)) (List.pairwise_cons.1 hp).2
 |y::l,i+1,r0,h,hp,hn=>by
  have hr:l[i]?=some r0:=by simpa using h
  refine List.Pairwise.cons (fun x hx=>?_) (bU8 hr (List.pairwise_cons.1 hp).2 fun x hx=>hn x (List.mem_cons_of_mem _ hx))
  rcases bC0 hr (List.pairwise_cons.1 hp).2 x hx with rfl|⟨h1,h2⟩
  ·intro g hg e
   exact hn y (List.mem_cons_self ..) (fun g' hg' e'=>(List.pairwise_cons.1 hp).1 _ (fZ9 hr) g' e' hg') g e hg
  ·exact (List.pairwise_cons.1 hp).1 x h1
theorem gB.append(h:gB c K L O X w){i:Nat}{r:Own}{v':Value}{n':Nat}{xs':List Value}(hm:O[i]?=some r)(hT:c.Tt.contains r.e=false)(hown:w'.ownsRow c.w0.heap.size r.e r.sz v' n' xs')(hg:w.grownBy w' r.v.ownBlock)(hb:v'.ownBlock=r.v.ownBlock∨v'.ownBlock=some w.heap.size):
 gB c K L (vH ⟨v',r.e,r.sz,n',xs'⟩ O i) X w':=by
 have vE:=fZ9 hm
 have hr:=h.o r vE
 have hnew:∀x∈L,v'.ownBlock≠some x.1:=fun x hx=>by
  rcases hb with hb|hb
  ·rw [hb];exact h.od r vE x hx
  ·rw [hb];intro e;have:=(h.b x hx).2.lt;injection e with e;omega
 have hfar:∀x∈O,(∀g,r.v.ownBlock=some g->x.v.ownBlock≠some g)->∀g,v'.ownBlock=some g->x.v.ownBlock≠some g:=fun x hx hne g hg' e=>by
  rcases hb with hb|hb
  ·exact hne g (hb ▸ hg') e
  ·have h1:=((h.o x hx).lt _ e).2
   rw [hb] at hg'
   injection hg' with hg'
   omega
 have hX:(∀A∈X,A w')/\K w'/\c.w0.grownBy w' c.row:=by
  cases hv:r.v.ownBlock with
  |none=>
   rw [hv] at hg
   exact ⟨fun A hA=>(h.l A hA).gr _ _ hg (h.x A hA),h.kk.gr _ _ hg h.k,grow_trans h.g (bG7 hg)⟩
  |some g=>
   rw [hv] at hg
   have hz:=(hr.lt g hv).1
   rcases hr.2 with ⟨e,_⟩|⟨g',eX,uY,e,_,hh,_⟩
   ·rw [e] at hv;cases hv
   ·rw [e] at hv
    have hgg:g'=g:=Option.some.inj hv
    subst hgg
    exact ⟨fun A hA=>(h.l A hA).st w w' g' r.e uY hh (fun e=>by simp [e] at hT) (.inl hz) hg (h.x A hA),h.kk.st _ _ _ hz hg h.k,grow_own h.g hg (fun k e=>by cases e;exact hz)⟩
 refine ⟨hX.2.2,hX.2.1,fun x hx=>⟨(h.b x hx).1,(h.b x hx).2.grown hg (fun e=>h.od r vE x hx e.symm)⟩,h.nd,fun s hs=>?_,fun s hs x hx=>?_,bU8 hm h.oo hfar,hX.1,h.kk,h.l,h.rs⟩
 ·rcases bC0 hm h.oo s hs with rfl|⟨h1,h2⟩
  ·exact hown
  ·refine (h.o s h1).kept hg ?_
   cases hv:s.v.ownBlock with
   |none=>exact .inl rfl
   |some g=>exact .inr (fun e=>h2 g e.symm hv)
 ·rcases bC0 hm h.oo s hs with rfl|⟨h1,_⟩
  ·exact hnew x hx
  ·exact h.od s h1 x hx
theorem gB.nilOwn(h:gB c K L O X w)(e:TypeId)(sz:Nat):gB c K L (⟨H none 0 0,e,sz,0, []⟩::O) X w:=
 ⟨h.g,h.k,h.b,h.nd,fun r hr=>by
  rcases List.mem_cons.1 hr with rfl|hr
  ·exact ⟨by simp,.inl ⟨rfl,rfl⟩⟩
  ·exact h.o r hr,fun r hr x hx=>by
  rcases List.mem_cons.1 hr with rfl|hr
  ·simp [Value.ownBlock]
  ·exact h.od r hr x hx,List.Pairwise.cons (fun x _ g hg=>by cases hg) h.oo,h.x,h.kk,h.l,h.rs⟩
theorem gB.newOwn(h:gB c K L O X w)(hg:w.grownBy w' none){v:Value}{e:TypeId}{sz n:Nat}{xs:List Value}(hown:w'.ownsRow w.heap.size e sz v n xs):gB c K L (⟨v,e,sz,n,xs⟩::O) X w':=by
 have h2:=h.grow hg
 refine ⟨h2.g,h2.k,h2.b,h2.nd,fun r hr=>?_,fun r hr x hx=>?_,List.Pairwise.cons (fun x hx g hg' e'=>?_) h.oo,h2.x,h.kk,h.l,h.rs⟩
 ·rcases List.mem_cons.1 hr with rfl|hr
  ·refine ⟨hown.1,?_⟩
   rcases hown.2 with hn|⟨g,eX,uY,h1,h3,h4⟩
   ·exact .inl hn
   ·exact .inr ⟨g,eX,uY,h1,Nat.le_trans h.g.size h3,h4⟩
  ·exact h2.o r hr
 ·rcases List.mem_cons.1 hr with rfl|hr
  ·intro e'
   have h3:=(hown.lt _ e').1
   have h4:=(h.b x hx).2.lt
   omega
  ·exact h.od r hr x hx
 ·have h3:=(hown.lt _ hg').1
  have h4:=((h.o x hx).lt _ e').2
  omega
end
section
variable {P:Program} {c:Cx} {fL:Array Oper} {Q:Exit->Act->World->Prop} {rest:List Oper} {S:List (Nat×Value)} {K:World->Prop} {L:List (Nat×TypeId×List Value)} {O:List Own} {X:List (World->Prop)}
def WL(P:Program)(c:Cx)(fL:Array Oper)(Q:Exit->Act->World->Prop)(l:List Oper)(S:List (Nat×Value))(K:World->Prop)(L:List (Nat×TypeId×List Value))(O:List Own)(X:List (World->Prop)):Prop:=
 ∀a w,Has S c.n a->gB c K L O X w->wpList P fL Q l a w
def Gw(P:Program)(c:Cx)(Q:Exit->Act->World->Prop)(code:Code)(S:List (Nat×Value))(K:World->Prop)(L:List (Nat×TypeId×List Value))(O:List Own)(X:List (World->Prop)):Prop:=
 ∀a w,Has S c.n a->gB c K L O X w->code.wp P Q a w
def Nx(c:Cx)(Q:Exit->Act->World->Prop)(e:Exit)(S:List (Nat×Value))(K:World->Prop)(L:List (Nat×TypeId×List Value))(O:List Own)(X:List (World->Prop)):Prop:=
 ∀a w,Has S c.n a->gB c K L O X w->Q e a w
theorem bJ{x y:Code}(h:Gw P c (Exit.then (y.wp P Q) Q) x S K L O X):Gw P c Q (.seq x y) S K L O X:=fun a w ha hm=>wp_seq (h a w ha hm)
theorem bM{id:Nat}{l:List Oper}(h:WL P c l.toArray Q l S K L O X):Gw P c Q (.region id l.toArray false) S K L O X:=fun a w ha hm=>wp_region_lit (h a w ha hm)
theorem bH(h:Nx c Q .normal S K L O X):WL P c fL Q [] S K L O X:=fun a w ha hm=>wpList_nil (h a w ha hm)
theorem bN(h:Nx c Q .normal S K L O X):Gw P c Q .skip S K L O X:=fun a w ha hm=>wp_skip (h a w ha hm)
theorem bR(h:Nx c Q .ret S K L O X):Gw P c Q .ret S K L O X:=fun a w ha hm=>wp_ret (h a w ha hm)
theorem dD{id:Nat}(h:Nx c Q (.exit id) S K L O X):Gw P c Q (.exit id) S K L O X:=fun a w ha hm=>wp_exit (h a w ha hm)
theorem bP{id:Nat}{x:Code}(h:Gw P c (Exit.inBlock id Q) x S K L O X):Gw P c Q (.block id x) S K L O X:=fun a w ha hm=>wp_block (h a w ha hm)
theorem dE{x:Operand}{y z:Code}{b:Bool}(hx:rd S x=some (.bool b))(ht:b=true->Gw P c Q y S K L O X)(hf:b=false->Gw P c Q z S K L O X):Gw P c Q (.cond x y z) S K L O X:=
 fun a w ha hm=>wp_cond_split (ha.eval hx) (fun h=>ht h a w ha hm) (fun h=>hf h a w ha hm)
theorem cN{x:Operand}{y z:Code}{p:Prop}{dp:Decidable p}(hx:rd S x=some (.bool (@decide p dp)))(ht:p->Gw P c Q y S K L O X)(hf:¬p->Gw P c Q z S K L O X):Gw P c Q (.cond x y z) S K L O X:=
 dE hx (fun hh=>ht (of_decide_eq_true hh)) (fun hh=>hf (of_decide_eq_false hh))
theorem gL{x:Operand}{y z:Code}{p:Prop}{dp:Decidable p}(hx:rd S x=some (.bool (!@decide p dp)))(ht:¬p->Gw P c Q y S K L O X)(hf:p->Gw P c Q z S K L O X):Gw P c Q (.cond x y z) S K L O X:=
 dE hx (fun hh=>ht (by simpa using hh)) (fun hh=>hf (by simpa using hh))
theorem bG{y:Code}(h:Gw P c Q y S K L O X):Nx c (Exit.then (y.wp P Q) Q) .normal S K L O X:=h
theorem F{Y:Act->World->Prop}(h:Nx c Q .ret S K L O X):Nx c (Exit.then Y Q) .ret S K L O X:=h
theorem bI{Y:Act->World->Prop}{id:Nat}(h:Nx c Q (.exit id) S K L O X):Nx c (Exit.then Y Q) (.exit id) S K L O X:=h
theorem C{id:Nat}(h:Nx c Q .ret S K L O X):Nx c (Exit.inBlock id Q) .ret S K L O X:=h
theorem bK{id:Nat}(h:Nx c Q .normal S K L O X):Nx c (Exit.inBlock id Q) .normal S K L O X:=h
theorem bY{id:Nat}(h:Nx c Q .normal S K L O X):Nx c (Exit.inBlock id Q) (.exit id) S K L O X:=fun a w ha hm=>by
 simp only [Exit.inBlock,if_true];exact h a w ha hm
theorem bO7{id id':Nat}(hne:Nat.beq id' id=false)(h:Nx c Q (.exit id') S K L O X):Nx c (Exit.inBlock id Q) (.exit id') S K L O X:=fun a w ha hm=>by
 have:id'≠id:=fun e=>by subst e;simp at hne
 simp only [Exit.inBlock,if_neg this];exact h a w ha hm
theorem eA6{code:Code}{R:Prop}(hr:∀w,gB c K L O X w->R)(h:R->Gw P c Q code S K L O X):Gw P c Q code S K L O X:=fun a w ha hm=>h (hr w hm) a w ha hm
theorem eB{l:List Oper}{R:Prop}(hr:∀w,gB c K L O X w->R)(h:R->WL P c fL Q l S K L O X):WL P c fL Q l S K L O X:=fun a w ha hm=>h (hr w hm) a w ha hm
theorem dS{γ:Type}{code:Code}(I':γ->Prop)(S':γ->List (Nat×Value))(K':γ->World->Prop)(L':γ->List (Nat×TypeId×List Value))(O':γ->List Own)(X':γ->List (World->Prop))(μ:γ->Nat)
 (g0:γ) (h0:I' g0) (hs:Sub S (S' g0)) (hM:∀w,gB c K L O X w->gB c (K' g0) (L' g0) (O' g0) (X' g0) w)
 (h:∀g,I' g->Gw P c (Exit.then (fun a w=>∃g',(I' g'/\Has (S' g') c.n a/\gB c (K' g') (L' g') (O' g') (X' g') w)/\μ g' < μ g) Q) code (S' g) (K' g) (L' g) (O' g) (X' g)):Gw P c Q (.loop code) S K L O X:=by
 intro a w ha hm
 intro b k cs
 have key:∀n a w,(∃g,I' g/\Has (S' g) c.n a/\gB c (K' g) (L' g) (O' g) (X' g) w/\μ g=n)->
  ∃e a' w',Q e a' w'/\Arrives P (lone (b.at a (.code code:: .inLoop code::k)) cs w) b k cs e a' w':=by
  intro n
  induction n using Nat.strongRecOn with
  |_ n ih=>
   intro a w ⟨g,hI,hS,hmm,hk⟩
   obtain ⟨e,a₁,w₁,hq,harr⟩:=h g hI a w hS hmm b (.inLoop code::k) cs
   cases e with
   |normal=>
    obtain ⟨g',⟨hI',hS',hm'⟩,hlt⟩:=hq
    obtain ⟨e₂,a₂,w₂,hq₂,harr₂⟩:=ih (μ g') (hk ▸ hlt) a₁ w₁ ⟨g',hI',hS',hm',rfl⟩
    exact ⟨e₂,a₂,w₂,hq₂,.of_steps (Steps.trans harr (.one step_inLoop)) harr₂⟩
   |exit id=>exact ⟨_,a₁,w₁,hq,.pass (x:= .inLoop code) rfl (fun _ _=> .inl (by simp)) harr⟩
   |goto l=>exact ⟨_,a₁,w₁,hq,.pass (x:= .inLoop code) rfl (fun _ _=> .inl (by simp)) harr⟩
   |ret=>exact ⟨_,a₁,w₁,hq,.pass (x:= .inLoop code) rfl (fun _ _=> .inl (by simp)) harr⟩
   |panic ch=>exact ⟨_,a₁,w₁,hq,.pass (x:= .inLoop code) rfl (fun _ _=> .inl (by simp)) harr⟩
   |outgrown=>exact ⟨_,a₁,w₁,hq,.pass (x:= .inLoop code) rfl (fun _ _=> .inl (by simp)) harr⟩
 obtain ⟨e,a',w',hq,harr⟩:=key _ a w ⟨g0,h0,ha.sub hs.look,hM w hm,rfl⟩
 exact ⟨e,a',w',hq,.of_steps (.one step_loop) harr⟩
end
def gQ(P:Program)(t:TypeId):Bool:=
 match P.underlying t with
 |none|some (.struct _)|some (.array ..)=>false
 |_=>match P.info? t with
  |some i=>i.size==1
  |none=>false
def kP(P:Program)(t:TypeId):Option Nat:=
 match P.underlying t with
 |some (.struct _)|some (.array ..)=>(P.info? t).map (·.size)
 |_=>none
def dJ(P:Program)(t:TypeId)(i:Nat):Option Nat:=
 match P.underlying t with
 |some (.struct fs)=>match fs[i]? with
  |some f=>match P.info? f.type with
   |some inf=>if inf.size=0 then none else some f.offset
   |none=>none
  |none=>none
 |_=>none
def kH(P:Program)(t:TypeId):Option (TypeId×Nat):=
 match P.underlying t with
 |some (.slice e)=>(P.info? e).map fun i=>(e,i.size)
 |_=>none
def kN(P:Program)(t:TypeId):Option (List Value):=((P.info? t).bind (·.zero)).map (·.cells.toList)
def cF(P:Program)(f:FuncId):Bool:=
 match P.funcs[f]? with
 |some fn=> !(fn.name== "runtime.NumGoroutine")&&fn.body.isSome
 |none=>false
def cE0(P:Program)(t:TypeId)(len:Nat)(parts:List (Nat×Value)):Option (TypeId×List Value):=
 match P.underlying t with
 |some (.slice e)=>match P.info? e with
  |some i=>match i.zero with
   |some z=>if len *i.size > 2 ^ 24∨len *i.size=0 then none else
    (Instr.fill (fun k=>some (k *i.size,i.size)) ((Array.range (len *i.size)).map (z.cells[· % z.cells.size]!)) parts).map fun cs=>(e,cs.toList)
   |none=>none
  |none=>none
 |_=>none
section
variable {P:Program} {c:Cx} {fL:Array Oper} {Q:Exit->Act->World->Prop} {rest:List Oper} {S:List (Nat×Value)} {K:World->Prop} {L:List (Nat×TypeId×List Value)} {O:List Own} {X:List (World->Prop)}
variable {nn:Nat} {Z:World->Prop} {d:Nat} {ty:TypeId} {pos:String} {aft:Array Edge}
theorem fJ2{op:Op}{v:Value}(hd:Nat.ble (d+1) c.n=true)(xW:∀a w,Has S c.n a->gB c K L O X w->(execOp a.eval ⟨some d,op,ty,pos,aft,none⟩).run P w= .ok (.value v) w)
 (h:WL P c fL Q rest ((d,v)::S) K L O X):WL P c fL Q (⟨some d,op,ty,pos,aft,none⟩::rest) S K L O X:=by
 intro a w ha hm
 refine wpList_plain D fun K' hK=>?_
 unfold Oper.wp
 rw [xW a w ha hm]
 exact hK _ _ (h _ _ (ha.put hd v) hm)
def OV(P:Program)(nn:Nat)(S:List (Nat×Value))(Z:World->Prop)(o:Oper)(v:Value):Prop:=∀a w,Has S nn a->Z w->(execOp a.eval o).run P w= .ok (.value v) w
theorem W{op:Op}{v:Value}(ho:OV P c.n S (gB c K L O X) ⟨some d,op,ty,pos,aft,none⟩ v)(hd:Nat.ble (d+1) c.n=true)(h:WL P c fL Q rest ((d,v)::S) K L O X):WL P c fL Q (⟨some d,op,ty,pos,aft,none⟩::rest) S K L O X:=fJ2 hd ho h
theorem bL{x:Operand}{v:Value}(hx:rd S x=some v):OV P nn S Z ⟨some d,.move x,ty,pos,aft,none⟩ (v):=
 (fun a w ha hm=>by simp [execOp,ha.eval hx])
theorem dB{x:Operand}{v:Value}(hx:rd S x=some v):OV P nn S Z ⟨some d,.assign x,ty,pos,aft,none⟩ (v):=
 (fun a w ha hm=>by simp [execOp,ha.eval hx])
theorem fG{x y z:Operand}{v:Value}(hx:rd S x=some (.bool true))(hy:rd S y=some v):OV P nn S Z ⟨some d,.pick x y z,ty,pos,aft,none⟩ (v):=
 (fun a w ha hm=>by simp [execOp,ha.eval hx,ha.eval hy,asBool])
theorem eZ{x y z:Operand}{v:Value}(hx:rd S x=some (.bool false))(hz:rd S z=some v):OV P nn S Z ⟨some d,.pick x y z,ty,pos,aft,none⟩ (v):=
 (fun a w ha hm=>by simp [execOp,ha.eval hx,ha.eval hz,asBool])
theorem dI1{o:Oper}{j:Nat}{b:Bool}{t:Nat}{op:Op}{dst:Option Nat}(ho:o=⟨dst,op,ty,pos,aft,some (j,b)⟩)(hj:(fL[j]?).bind (·.dst)=some t)(hb:look S t=some (.bool b))(h:WL P c fL Q (⟨dst,op,ty,pos,aft,none⟩::rest) S K L O X):WL P c fL Q (o::rest) S K L O X:=by
 subst ho
 intro a w ha hm
 have h1:=h a w ha hm
 unfold wpList at h1 ⊢
 have hy:yielded fL a.tmps j=some b:=by
  unfold yielded
  rw [hj]
  simp [ha.val t _ hb]
 rw [if_pos (by simp [Region.wanted,hy])]
 rw [if_pos (by simp [Region.wanted])] at h1
 exact h1
theorem bN6{o:Oper}{j:Nat}{b b':Bool}{t:Nat}{op:Op}(ho:o=⟨some d,op,ty,pos,aft,some (j,b)⟩)(hj:(fL[j]?).bind (·.dst)=some t)(hb:look S t=some (.bool b'))(hne:b'≠b)(hd:Nat.ble (d+1) c.n=true)(h:WL P c fL Q rest ((d,undef)::S) K L O X):WL P c fL Q (o::rest) S K L O X:=by
 subst ho
 intro a w ha hm
 unfold wpList
 have hy:yielded fL a.tmps j=some b':=by
  unfold yielded
  rw [hj]
  simp [ha.val t _ hb]
 rw [if_neg (by simp [Region.wanted,hy,hne])]
 exact h _ _ (ha.put hd _) hm
theorem cS{x:Operand}{b:Bool}(hx:rd S x=some (.bool b)){t:TypeId}:OV P nn S Z ⟨some d,.unOp .not t x,ty,pos,aft,none⟩ (.bool (!b)):=
 (fun a w ha hm=>by simp [execOp,ha.eval hx,Op.unary])
theorem ov_bin{op:BinOp}{t t':TypeId}{x y:Operand}{vx vy v:Value}(hx:rd S x=some vx)(hy:rd S y=some vy)(xW:∀w,(do eqGuard op t x y vx vy;binOp op t vx vy:Sem Value).run P w= .ok v w):OV P nn S Z ⟨some d,.binOp op t x y t',ty,pos,aft,none⟩ (v):=
 (fun a w ha hm=>by
  have:=xW w
  simp only [execOp,ha.eval hx,ha.eval hy]
  rw [Sem.run_bind,this]
  rfl)
theorem ov_add{t t' : TypeId}{x y : Operand}{m n : Int}(hx : rd S x = some (J m))(hy : rd S y = some (J n))(h0 : -9223372036854775808 <= m + n)(h1 : m + n <= 9223372036854775807) : OV P nn S Z ⟨some d, .binOp .add t x y t', ty, pos, aft, none⟩ (J (m + n)) :=
  ov_bin hx hy (fun w => by have : IntKind.i64.wrap (m + n) = m + n := IntWalk.i64_in _ G
                            simp [binOp_add, Op.intArith, this, go_sem])
theorem ov_sub{t t' : TypeId}{x y : Operand}{m n : Int}(hx : rd S x = some (J m))(hy : rd S y = some (J n))(h0 : -9223372036854775808 <= m - n)(h1 : m - n <= 9223372036854775807) : OV P nn S Z ⟨some d, .binOp .sub t x y t', ty, pos, aft, none⟩ (J (m - n)) :=
  ov_bin hx hy (fun w => by have : IntKind.i64.wrap (m - n) = m - n := IntWalk.i64_in _ G
                            simp [binOp_sub, Op.intArith, this, go_sem])
theorem ov_mul{t t' : TypeId}{x y : Operand}{m n : Int}(hx : rd S x = some (J m))(hy : rd S y = some (J n))(h0 : -9223372036854775808 <= m * n)(h1 : m * n <= 9223372036854775807) : OV P nn S Z ⟨some d, .binOp .mul t x y t', ty, pos, aft, none⟩ (J (m * n)) :=
  ov_bin hx hy (fun w => by have : IntKind.i64.wrap (m * n) = m * n := IntWalk.i64_in _ G
                            simp [binOp_mul, Op.intArith, this, go_sem])
theorem dF{t t':TypeId}{x y:Operand}{k:IntKind}{m n:Int}(hx:rd S x=some (.int k m))(hy:rd S y=some (.int k n)):OV P nn S Z ⟨some d,.binOp .lss t x y t',ty,pos,aft,none⟩ (.bool (decide (m < n))):=
 ov_bin hx hy (fun w=>by simp [go_sem])
theorem mJ{t t':TypeId}{x y:Operand}{k:IntKind}{m n:Int}(hx:rd S x=some (.int k m))(hy:rd S y=some (.int k n)):OV P nn S Z ⟨some d,.binOp .leq t x y t',ty,pos,aft,none⟩ (.bool (decide (m<=n))):=
 ov_bin hx hy (fun w=>by simp [go_sem])
theorem eM{t t':TypeId}{x y:Operand}{k:IntKind}{m n:Int}(hx:rd S x=some (.int k m))(hy:rd S y=some (.int k n)):OV P nn S Z ⟨some d,.binOp .gtr t x y t',ty,pos,aft,none⟩ (.bool (decide (n < m))):=
 ov_bin hx hy (fun w=>by simp [go_sem])
theorem mE{t t':TypeId}{x y:Operand}{k:IntKind}{m n:Int}(hx:rd S x=some (.int k m))(hy:rd S y=some (.int k n)):OV P nn S Z ⟨some d,.binOp .geq t x y t',ty,pos,aft,none⟩ (.bool (decide (n<=m))):=
 ov_bin hx hy (fun w=>by simp [go_sem])
theorem eT{t t':TypeId}{x y:Operand}{k:IntKind}{m n:Int}(hx:rd S x=some (.int k m))(hy:rd S y=some (.int k n)):OV P nn S Z ⟨some d,.binOp .eql t x y t',ty,pos,aft,none⟩ (.bool (decide (m=n))):=
 ov_bin hx hy (fun w=>by simp [go_sem];rfl)
theorem gN{t t':TypeId}{x y:Operand}{k:IntKind}{m n:Int}(hx:rd S x=some (.int k m))(hy:rd S y=some (.int k n)):OV P nn S Z ⟨some d,.binOp .neq t x y t',ty,pos,aft,none⟩ (.bool (!decide (m=n))):=
 ov_bin hx hy (fun w=>by simp [go_sem];rfl)
theorem eS{t t':TypeId}{x y:Operand}{m n:M}(hx:rd S x=some (U m))(hy:rd S y=some (U n)):OV P nn S Z ⟨some d,.binOp .eql t x y t',ty,pos,aft,none⟩ (.bool (m.toList==n.toList)):=
 ov_bin hx hy (fun w=>by simp [go_sem])
theorem xO{t t':TypeId}{x y:Operand}{m n:M}(hx:rd S x=some (U m))(hy:rd S y=some (U n)):OV P nn S Z ⟨some d,.binOp .neq t x y t',ty,pos,aft,none⟩ (.bool (!(m.toList==n.toList))):=
 ov_bin hx hy (fun w=>by simp [go_sem])
theorem wH{t t':TypeId}{x y:Operand}{m n:M}(hx:rd S x=some (U m))(hy:rd S y=some (U n)):OV P nn S Z ⟨some d,.binOp .leq t x y t',ty,pos,aft,none⟩ (.bool (Op.bytesLess m.toList n.toList||m.toList==n.toList)):=
 ov_bin hx hy (fun w=>by simp [go_sem])
theorem cV{x:Operand}{i:Nat}{vs:List Value}{v:Value}(hx:rd S x=some (.tuple vs.toArray))(hv:vs[i]?=some v):OV P nn S Z ⟨some d,.extract x i,ty,pos,aft,none⟩ (v):=
 (fun a w ha hm=>by simp [execOp,ha.eval hx,Instr.extract,hv])
theorem dN8{t:TypeId}{i off g o:Nat}(hf:dJ P t i=some off)(w:World):(Instr.fieldAt t (.pointer (some ⟨g,o,none⟩)) i).run P w= .ok (.pointer (some ⟨g,o+off,none⟩)) w:=by
 unfold dJ at hf
 split at hf
 ·rename_i fs hu
  split at hf
  ·rename_i f hfi
   split at hf
   ·rename_i inf hi
    split at hf
    ·cases hf
    ·rename_i hz
     simp only [Option.some.injEq] at hf
     subst hf
     have:(⟨g,o,none⟩:Addr).add f.offset=⟨g,o+f.offset,none⟩:=by
      unfold Addr.add
      split
      ·rename_i e;rw [e];rfl
      ·rfl
     simp [Instr.fieldAt,run_underlying hu,hfi,Instr.sureAddr,fieldPlace,sizeOf,typeInfo,hi,hz,this]
   ·cases hf
  ·cases hf
 ·cases hf
theorem bW{t:TypeId}{x:Operand}{i off g o o':Nat}(hf:dJ P t i=some off)(hx:rd S x=some (.pointer (some ⟨g,o,none⟩)))(ho:o+off=o'):OV P nn S Z ⟨some d,.fieldAddr t x i,ty,pos,aft,none⟩ (.pointer (some ⟨g,o',none⟩)):=
 (fun a w ha hm=>by subst ho;simp only [execOp,ha.eval hx];rw [Sem.run_bind,dN8 hf];rfl)
theorem rZ(b off n:Nat):(⟨b,off,none⟩:Addr).add n=⟨b,off+n,none⟩:=by
 unfold Addr.add
 split
 ·rename_i h;subst h;rfl
 ·rfl
theorem dO8{t e:TypeId}{sz b off n eX j:Nat}(he:kH P t=some (e,sz))(hj:j < n)(w:World):(Instr.indexAt t (H (some ⟨b,off,none⟩) n eX) (J (j:Int))).run P w= .ok (.pointer (some ⟨b,off+j *sz,none⟩)) w:=by
 unfold kH at he
 split at he
 ·rename_i e' hu
  cases hi:P.info? e' with
  |none=>simp [hi] at he
  |some inf=>
   simp only [hi,Option.map_some,Option.some.injEq,Prod.mk.injEq] at he
   obtain ⟨rfl,rfl⟩:=he
   have hlt:(0:Int)<=(j:Int)/\(j:Int) < (n:Int):=⟨G,G⟩
   simp [Instr.indexAt,run_underlying hu,asIntOf,sizeOf,typeInfo,hi,rZ]
   omega
 ·cases he
theorem bV{t e:TypeId}{x y:Operand}{sz b off n eX j:Nat}(he:kH P t=some (e,sz))(hx:rd S x=some (H (some ⟨b,off,none⟩) n eX))(hy:rd S y=some (J (j:Int)))(hj:j < n):OV P nn S Z ⟨some d,.indexAddr t x y,ty,pos,aft,none⟩ (.pointer (some ⟨b,off+j *sz,none⟩)):=
 (fun a w ha hm=>by simp only [execOp,ha.eval hx,ha.eval hy];rw [Sem.run_bind,dO8 he hj];rfl)
theorem bA0{t:TypeId}(hs:gQ P t=true)(w:World):(isAgg t).run P w= .ok false w/\(sizeOf t).run P w= .ok 1 w:=by
 unfold gQ at hs
 cases hu:P.underlying t with
 |none=>simp [hu] at hs
 |some dd=>
  cases hi:P.info? t with
  |none=>cases dd <;> simp [hu,hi] at hs
  |some inf=>
   have h1:inf.size=1:=by cases dd <;> simp_all
   refine ⟨?_,by simp [sizeOf,typeInfo,hi,h1]⟩
   unfold isAgg
   rw [Sem.run_bind,run_underlying hu]
   cases dd <;> simp_all
theorem cO1{t:TypeId}{x:Operand}{g o:Nat}{v:Value}(hs:gQ P t=true)(hx:rd S x=some (.pointer (some ⟨g,o,none⟩)))(hc:∀w,Z w->w.cell? ⟨g,o,none⟩=some v):OV P nn S Z ⟨some d,.load t x,ty,pos,aft,none⟩ (v):=
 (fun a w ha hm=>by
  simp only [execOp,ha.eval hx,Instr.loadAt,Instr.sureAddr,loadVar]
  simp [(bA0 hs w).1,hc w hm])
theorem cH{t:TypeId}{x:Operand}{g o:Nat}{v:Value}{T:TypeId}{cs:List Value}(hs:gQ P t=true)(hx:rd S x=some (.pointer (some ⟨g,o,none⟩)))(hb:∀w,Z w->Blk w g T cs)(hv:cs[o]?=some v):OV P nn S Z ⟨some d,.load t x,ty,pos,aft,none⟩ v:=
 cO1 hs hx (fun w hm=>(hb w hm).cell_of hv)
theorem zZ{t:TypeId}{n:Nat}(hs:kP P t=some n):∃dd,P.underlying t=some dd/\dd.isRow=true/\(P.info? t).map (·.size)=some n:=by
 unfold kP at hs
 cases hu:P.underlying t with
 |none=>simp [hu] at hs
 |some dd=>
  cases dd <;> simp [hu] at hs <;> exact ⟨_,rfl,rfl,by simpa using hs⟩
theorem zU{t:TypeId}{x:Operand}{g o k:Nat}{vs:List Value}(hs:kP P t=some k)(hx:rd S x=some (.pointer (some ⟨g,o,none⟩)))(hc:∀w,Z w->w.rangeAt g o vs)(hn:vs.length=k):OV P nn S Z ⟨some d,.load t x,ty,pos,aft,none⟩ (.agg vs.toArray):=by
 intro a w ha hm
 obtain ⟨dd,hu,hr,hi⟩:=zZ hs
 simp only [execOp,ha.eval hx]
 rw [Sem.run_bind,run_loadAt_mid w g o t vs dd (hc w hm) hu hr (by rw [hn];exact hi)]
 rfl
theorem dH8{w:World}{g:Nat}{T:TypeId}{cs vs:List Value}{o n:Nat}(hb:Blk w g T cs)(hv:(cs.drop o).take n=vs):w.rangeAt g o vs:=by
 intro j v hj
 rw [hb.cell]
 subst hv
 rw [List.getElem?_take] at hj
 split at hj
 ·rwa [List.getElem?_drop] at hj
 ·cases hj
theorem dG{t:TypeId}{x:Operand}{g o k:Nat}{vs:List Value}{T:TypeId}{cs:List Value}(hs:kP P t=some k)(hx:rd S x=some (.pointer (some ⟨g,o,none⟩)))(hb:∀w,Z w->Blk w g T cs)(hv:(cs.drop o).take k=vs)(hn:vs.length=k):OV P nn S Z ⟨some d,.load t x,ty,pos,aft,none⟩ (.agg vs.toArray):=
 zU hs hx (fun w hm=>dH8 (hb w hm) hv) hn
theorem bW7{α:Type}{enc:α->List Value}{sz:Nat}{T:TypeId}{l:List α}{xx:α}{b off n j:Nat}{w:World}(hsl:SlT enc sz T w (some ⟨b,off,none⟩) n l)(hj:l[j]?=some xx):w.rangeAt b (off+j *sz) (enc xx):=by
 have hlt:=(List.getElem?_eq_some_iff.1 hj).1
 obtain ⟨_,_,he,_,hr⟩:=hsl.get (by have:=hsl.len;omega)
 injection he with he
 injection he with e1 e2 _
 subst e1;subst e2
 exact hr j xx hj
theorem dR{α:Type}{enc:α->List Value}{sz:Nat}{T:TypeId}{l:List α}{xx:α}{t:TypeId}{x:Operand}{b off m j:Nat}{vs:List Value}(hs:kP P t=some sz)(hx:rd S x=some (.pointer (some ⟨b,off+j *sz,none⟩)))
 (hX:∀w,Z w->SlT enc sz T w (some ⟨b,off,none⟩) m l) (hj:l[j]?=some xx) (hv:enc xx=vs) (hn:vs.length=sz):OV P nn S Z ⟨some d,.load t x,ty,pos,aft,none⟩ (.agg vs.toArray):=
 zU hs hx (fun w hm=>hv ▸ bW7 (hX w hm) hj) hn
theorem dH{α:Type}{enc:α->List Value}{sz k:Nat}{T:TypeId}{l:List α}{xx:α}{t:TypeId}{x:Operand}{b off m j o:Nat}{v:Value}(hs:gQ P t=true)(hx:rd S x=some (.pointer (some ⟨b,o,none⟩)))
 (hX:∀w,Z w->SlT enc sz T w (some ⟨b,off,none⟩) m l) (hj:l[j]?=some xx) (ho:off+j *sz+k=o) (hv:(enc xx)[k]?=some v):OV P nn S Z ⟨some d,.load t x,ty,pos,aft,none⟩ v:=
 cO1 hs hx (fun w hm=>by subst ho;exact bW7 (hX w hm) hj k v hv)
theorem fX{t:TypeId}{x y:Operand}{g o:Nat}{v:Value}(i:Nat){T:TypeId}{cs:List Value}(hs:gQ P t=true)(hx:rd S x=some (.pointer (some ⟨g,o,none⟩)))(hy:rd S y=some v)(h1:v.oneCell'=true)(hL:L[i]?=some (g,T,cs))(ho:Nat.ble (o+1) cs.length=true)
 (hT:c.Tt.contains T=false) (h:WL P c fL Q rest S K (bB0 g (cs.set o v) L i) O X):WL P c fL Q (⟨none,.store t x y,ty,pos,aft,none⟩::rest) S K L O X:=by
 intro a w ha hm
 refine wpList_plain D fun K' hK=>?_
 have hb:=hm.blk (fZ9 hL)
 have hlt:o < cs.length:=Nat.le_of_ble_eq_true ho
 have hc:w.cell? ⟨g,o,none⟩=some cs[o]:=hb.cell_of (by simp [hlt])
 have hst:(store ⟨g,o,none⟩ v).run P w= .ok () (w.setCell ⟨g,o,none⟩ v):=by
  rw [run_store P w _ _ _ h1]
  simp [hc,hb.frozen]
 have hv1:v.cells=#[v]:=by cases v <;> simp_all [Value.cells,Value.oneCell']
 unfold Oper.wp
 have:(execOp a.eval ⟨none,.store t x y,ty,pos,aft,none⟩).run P w= .ok .skip (w.setCell ⟨g,o,none⟩ v):=by
  simp only [execOp,ha.eval hx,ha.eval hy,Instr.storeAt,Instr.sureAddr,storeVar,hv1]
  simp [(bA0 hs w).2,storeCells,rZ,hst]
 rw [this]
 exact hK _ _ (h _ _ ⟨ha.size,ha.val,ha.df⟩ (hm.store hL hT (grow_setCell (World.grownBy.refl _ _) (.inl D) _) (hb.set_ o v)))
theorem dO9{t:TypeId}{x y:Operand}{g o n:Nat}{vs:List Value}(i:Nat){T:TypeId}{cs cs':List Value}(hs:kP P t=some n)(hx:rd S x=some (.pointer (some ⟨g,o,none⟩)))(hy:rd S y=some (.agg vs.toArray))(h1:vs.all (·.oneCell')=true)(hn:vs.length=n)(hL:L[i]?=some (g,T,cs))(ho:Nat.ble (o+n) cs.length=true)
 (hT:c.Tt.contains T=false) (hcs:kI cs o vs=cs') (h:WL P c fL Q rest S K (bB0 g cs' L i) O X):WL P c fL Q (⟨none,.store t x y,ty,pos,aft,none⟩::rest) S K L O X:=by
 intro a w ha hm
 have hb:=hm.blk (fZ9 hL)
 obtain ⟨dd,hu,hr,hi⟩:=zZ hs
 subst hcs
 refine wpList_store_blk D t x y D g o T cs vs hb (ha.eval hx) (ha.eval hy) n hi hn (Nat.le_of_ble_eq_true ho) (by simpa using h1) fun w' hb' hg=>?_
 exact h _ _ ⟨ha.size,ha.val,ha.df⟩ (hm.store hL hT hg hb')
theorem dM{t:TypeId}{cs:List Value}(hz:kN P t=some cs)(hd:Nat.ble (d+1) c.n=true)(h:∀g,WL P c fL Q rest ((d,.pointer (some ⟨g,0,none⟩))::S) K ((g,t,cs)::L) O X):WL P c fL Q (⟨some d,.alloc t,ty,pos,aft,none⟩::rest) S K L O X:=by
 intro a w ha hm
 refine wpList_plain D fun K' hK=>?_
 unfold kN at hz
 cases hi:P.info? t with
 |none=>simp [hi] at hz
 |some inf=>
  cases hzz:inf.zero with
  |none=>simp [hi,hzz] at hz
  |some z=>
   simp only [hi,hzz,Option.bind_some,Option.map_some,Option.some.injEq] at hz
   unfold Oper.wp
   have:(execOp a.eval ⟨some d,.alloc t,ty,pos,aft,none⟩).run P w= .ok (.value (.pointer (some ⟨w.heap.size,0,none⟩))) (w.alloc (.cells cs.toArray t)):=by
    subst hz
    simp [execOp,Instr.alloc,zeroValue,typeInfo,hi,hzz,newVar,newRow]
   rw [this]
   exact hK _ _ (h _ _ _ (ha.put hd _) (hm.new t cs))
theorem fS{t:TypeId}{x:Operand}{v:Value}{cs:List Value}(hx:rd S x=some v)(hcs:v.cells=cs.toArray)(hd:Nat.ble (d+1) c.n=true)(h:∀g,WL P c fL Q rest ((d,.pointer (some ⟨g,0,none⟩))::S) K ((g,t,cs)::L) O X):WL P c fL Q (⟨some d,.box t x,ty,pos,aft,none⟩::rest) S K L O X:=by
 intro a w ha hm
 refine wpList_plain D fun K' hK=>?_
 unfold Oper.wp
 have:(execOp a.eval ⟨some d,.box t x,ty,pos,aft,none⟩).run P w= .ok (.value (.pointer (some ⟨w.heap.size,0,none⟩))) (w.alloc (.cells cs.toArray t)):=by
  simp [execOp,ha.eval hx,Instr.box,newVar,newRow,hcs]
 rw [this]
 exact hK _ _ (h _ _ _ (ha.put hd _) (hm.new t cs))
def yZ(S:List (Nat×Value)):List (Nat×Operand)->Option (List (Nat×Value))
 | []=>some []
 |(i,x)::r=>match rd S x,yZ S r with
  |some v,some l=>some ((i,v)::l)
  |_,_=>none
theorem Has.parts{n:Nat}{a:Act}(ha:Has S n a):∀{ps:List (Nat×Operand)} {l:List (Nat×Value)},yZ S ps=some l->ps.map (fun x=>(x.1,a.eval x.2))=l
 | [],l,h=>by simp [yZ] at h;simp [h]
 |(i,x)::r,l,h=>by
  simp only [yZ] at h
  split at h
  ·rename_i v l' hv hl
   simp only [Option.some.injEq] at h
   subst h
   simp [ha.eval hv,Has.parts ha hl]
  ·cases h
theorem dL{t:TypeId}{ps:List (Nat×Operand)}{l:List (Nat×Value)}{cs:List Value}(hp:yZ S ps=some l)(hb:P.built t l=some cs.toArray):OV P nn S Z ⟨some d,.build t ps.toArray,ty,pos,aft,none⟩ (.agg cs.toArray):=
 (fun a w ha hm=>by
  have e:(ps.toArray.map fun (i,x)=>(i,a.eval x))=l.toArray:=by rw [<-ha.parts hp];simp
  simp only [execOp,e]
  rw [Sem.run_bind,run_build (P:=P) w t l.toArray cs.toArray (by simpa using hb)]
  rfl)
theorem cS3{t e:TypeId}{len:Nat}{ps:List (Nat×Operand)}{l:List (Nat×Value)}{cs:List Value}(hp:yZ S ps=some l)(hb:cE0 P t len l=some (e,cs))(hd:Nat.ble (d+1) c.n=true)
 (h:∀g,WL P c fL Q rest ((d,H (some ⟨g,0,none⟩) len len)::S) K ((g,e,cs)::L) O X):WL P c fL Q (⟨some d,.buildSlice t len ps.toArray,ty,pos,aft,none⟩::rest) S K L O X:=by
 intro a w ha hm
 refine wpList_plain D fun K' hK=>?_
 unfold Oper.wp
 have:(execOp a.eval ⟨some d,.buildSlice t len ps.toArray,ty,pos,aft,none⟩).run P w= .ok (.value (H (some ⟨w.heap.size,0,none⟩) len len)) (w.alloc (.cells cs.toArray e)):=by
  have e1:(ps.toArray.map fun (i,x)=>(i,a.eval x))=l.toArray:=by rw [<-ha.parts hp];simp
  simp only [execOp,e1]
  unfold cE0 at hb
  cases hu:P.underlying t with
  |none=>simp [hu] at hb
  |some dd=>
   cases dd <;> simp only [hu] at hb <;> try (simp at hb;done)
   rename_i e'
   cases hi:P.info? e' with
   |none=>simp [hi] at hb
   |some inf=>
    cases hz:inf.zero with
    |none=>simp [hi,hz] at hb
    |some z=>
     simp only [hi,hz] at hb
     split at hb
     ·cases hb
     ·rename_i hsz
      cases hf:Instr.fill (fun k=>some (k *inf.size,inf.size)) ((Array.range (len *inf.size)).map (z.cells[· % z.cells.size]!)) l with
      |none=>simp [hf] at hb
      |some cs2=>
       simp only [hf,Option.map_some,Option.some.injEq,Prod.mk.injEq] at hb
       obtain ⟨rfl,rfl⟩:=hb
       have h1:¬(len *inf.size > 2 ^ 24):=fun h=>hsz (.inl h)
       have h2:¬(len *inf.size=0):=fun h=>hsz (.inr h)
       simp [Instr.buildSlice,run_underlying hu,sizeOf,zeroValue,typeInfo,hi,hz,h1,h2,hf,newRow]
 rw [this]
 exact hK _ _ (h _ _ _ (ha.put hd _) (hm.new e cs))
end
def bT{α:Type}(enc:α->List Value)(k:Nat)(T:TypeId)(N:Nat)(row:Option Nat)(A:Option Addr)(n:Nat)(l:List α)(w:World):Prop:=
 SlT enc k T w A n l/\∀b off,A=some ⟨b,off,none⟩->0 < n->b < N/\row≠some b
section
variable {α:Type} {enc:α->List Value} {k:Nat} {T:TypeId} {N:Nat} {row:Option Nat} {A:Option Addr} {n:Nat} {l:List α} {w:World}
theorem SlT.old(h:SlT enc k T w A n l):bT enc k T w.heap.size none A n l w:=⟨h,fun b off e hn=>by
 obtain ⟨b',off',e',hb,_⟩:=h.get hn
 rw [e] at e'
 injection e' with e'
 injection e' with e1 _ _
 subst e1
 exact ⟨hb,by simp⟩⟩
theorem bT.lasts{Tt:List TypeId}:Lasts2 N row Tt (bT enc k T N row A n l):=
 ⟨fun _ _ h hx=>⟨hx.1.grow0 h,hx.2⟩,fun w w' r T' c _ _ h3 hg hx=>⟨by
  refine ⟨hx.1.len,fun hn=>?_⟩
  obtain ⟨b,off,cells,fz,e,hh,hc⟩:=hx.1.at_ hn
  have h4:=hx.2 b off e hn
  exact ⟨b,off,cells,fz,e,(hg.block b (lt_of_block hh) (fun e2=>by
   injection e2 with e2
   subst e2
   rcases h3 with h3|h3
   ·omega
   ·exact h4.2 h3)).trans hh,hc⟩,hx.2⟩⟩
end
section
variable {P:Program} {c:Cx} {fL:Array Oper} {Q:Exit->Act->World->Prop} {rest:List Oper} {S:List (Nat×Value)} {K:World->Prop} {L:List (Nat×TypeId×List Value)} {O:List Own} {X:List (World->Prop)}
variable {nn:Nat} {Z:World->Prop} {d:Nat} {ty:TypeId} {pos:String} {aft:Array Edge}
theorem cY{f:FuncId}{fn:Func}{code:Code}{args:List Value}{w:World}{R:Ending->World->Prop}(c:Cx)(hf:P.funcs[f]?=some fn)(hb:fn.body=some code)(hn:fn.ntmps=c.n)(hsz:Nat.ble args.length c.n=true)(hm:gB c K L O X w)(h:Gw P c (bodyPost P fn R) code (bP4 0 args) K L O X):
 Calls P f args.toArray w R:=by
 have hle:args.length<=c.n:=Nat.le_of_ble_eq_true hsz
 refine calls_of_wp hf hb (h _ w ⟨?_,fun t v ht=>?_,D⟩ hm)
 ·simp [hn];omega
 ·have h1:=bG3 args 0 t v ht
  have h2:args[t]?=some v:=by simpa using h1.2
  have hlt:=(List.getElem?_eq_some_iff.1 h2).1
  rw [Array.getElem?_append_left (by simpa using hlt)]
  simpa using h2
theorem fZ{n:Nat}{Tt:List TypeId}{w:World}(hX:∀A∈X,A w)(hl:∀A∈X,Lasts2 w.heap.size none Tt A):gB ⟨n,w,none,Tt⟩ (fun _=>True) [] [] X w:=
 ⟨World.grownBy.refl _ _,bB,(fun _ hx=>by cases hx),List.Pairwise.nil,(fun _ hx=>by cases hx),(fun _ hx=>by cases hx),List.Pairwise.nil,hX,bF3.true_,hl,(fun _ hr=>by cases hr)⟩
theorem bU5{n:Nat}{Tt:List TypeId}{w:World}{TS:TypeId}{B sb m:Nat}(hS:fQ TS w B sb m)(hX:∀A∈X,A w)(hl:∀A∈X,Lasts2 w.heap.size (some sb) Tt A):gB ⟨n,w,some sb,Tt⟩ (fun w=>fQ TS w B sb m) [] [] X w:=
 ⟨World.grownBy.refl _ _,hS,(fun _ hx=>by cases hx),List.Pairwise.nil,(fun _ hx=>by cases hx),(fun _ hx=>by cases hx),List.Pairwise.nil,hX,bF3.strm hS.lt,hl,(fun _ hr=>by cases hr;exact hS.lt)⟩
section
variable {fn:Func} {R:Ending->World->Prop}
theorem jF(hr:fn.results=#[])(h:∀w,gB c K L O X w->R (.returned (.tuple #[])) w):Nx c (bodyPost P fn R) .normal S K L O X:=fun _ w ha hm=>bodyPost_end (results_none hr _ _ _) ha.df (h w hm)
theorem bW5(hr:fn.results=#[])(h:∀w,gB c K L O X w->R (.returned (.tuple #[])) w):Nx c (bodyPost P fn R) .ret S K L O X:=fun _ w ha hm=>bodyPost_ret (results_none hr _ _ _) ha.df (h w hm)
theorem bQ{t:Nat}{v:Value}(hr:fn.results=#[.tmp t])(hv:look S t=some v)(h:∀w,gB c K L O X w->R (.returned v) w):Nx c (bodyPost P fn R) .ret S K L O X:=fun a w ha hm=>
 bodyPost_ret (by rw [results_tmp hr];simp [Array.getD_eq_getD_getElem?,ha.val t v hv]) ha.df (h w hm)
theorem nU{t u:Nat}{v v':Value}(hr:fn.results=#[.tmp t,.tmp u])(hv:look S t=some v)(hv':look S u=some v')(h:∀w,gB c K L O X w->R (.returned (.tuple #[v,v'])) w):Nx c (bodyPost P fn R) .ret S K L O X:=fun a w ha hm=>
 bodyPost_ret (by rw [results_tmp2 hr];simp [Array.getD_eq_getD_getElem?,ha.val t v hv,ha.val u v' hv']) ha.df (h w hm)
theorem dS5{t u r:Nat}{v v' v'':Value}(hr:fn.results=#[.tmp t,.tmp u,.tmp r])(hv:look S t=some v)(hv':look S u=some v')(hv'':look S r=some v'')(h:∀w,gB c K L O X w->R (.returned (.tuple #[v,v',v''])) w):Nx c (bodyPost P fn R) .ret S K L O X:=fun a w ha hm=>
 bodyPost_ret (by rw [results_tmp3 hr];simp [Array.getD_eq_getD_getElem?,ha.val t v hv,ha.val u v' hv',ha.val r v'' hv'']) ha.df (h w hm)
theorem bU9{p:Nat}{t T:TypeId}{g n:Nat}{cs:List Value}(i:Nat)(hr:fn.results=#[.cell p t])(hs:kP P t=some n)(hp:look S p=some (.pointer (some ⟨g,0,none⟩)))(hL:L[i]?=some (g,T,cs))(hn:cs.length=n)(h:∀w,gB c K L O X w->R (.returned (.agg cs.toArray)) w):Nx c (bodyPost P fn R) .ret S K L O X:=fun a w ha hm=>by
 obtain ⟨dd,hu,hd,hi⟩:=zZ hs
 exact bB6 hr g T cs dd (hm.blk (fZ9 hL)) (by simp [Array.getD_eq_getD_getElem?,ha.val p _ hp]) hu hd n hi hn ha.df (h w hm)
theorem fD{p u:Nat}{t T:TypeId}{g n:Nat}{cs:List Value}{v:Value}(i:Nat)(hr:fn.results=#[.cell p t,.tmp u])(hs:kP P t=some n)(hp:look S p=some (.pointer (some ⟨g,0,none⟩)))(hv:look S u=some v)(hL:L[i]?=some (g,T,cs))(hn:cs.length=n)
 (h:∀w,gB c K L O X w->R (.returned (.tuple #[.agg cs.toArray,v])) w):Nx c (bodyPost P fn R) .ret S K L O X:=fun a w ha hm=>by
 obtain ⟨dd,hu,hd,hi⟩:=zZ hs
 refine bodyPost_ret (?_:(results fn a.tmps).run P w= .ok (.tuple #[.agg cs.toArray,v]) w) ha.df (h w hm)
 have hl:=run_loadVar_row (P:=P) w g T t cs.toArray (0,0) dd (hm.blk (fZ9 hL)) hu (by cases dd <;> simp_all [TypeDesc.isRow]) (by simpa [hn] using hi)
 rw [results_cell_tmp hr]
 simp [Array.getD_eq_getD_getElem?,ha.val p _ hp,ha.val u _ hv,asAddr,hl]
end
def rB(S:List (Nat×Value)):List Operand->Option (List Value)
 | []=>some []
 |x::r=>match rd S x,rB S r with
  |some v,some l=>some (v::l)
  |_,_=>none
theorem Has.args{n:Nat}{a:Act}(ha:Has S n a):∀{ps:List Operand} {l:List Value},rB S ps=some l->ps.map a.eval=l
 | [],l,h=>by simp [rB] at h;simp [h]
 |x::r,l,h=>by
  simp only [rB] at h
  split at h
  ·rename_i v l' hv hl
   simp only [Option.some.injEq] at h
   subst h
   simp [ha.eval hv,Has.args ha hl]
  ·cases h
theorem cN7{f:FuncId}(hf:cF P f=true)(args:Array Value)(w:World):(callFunc f args).run P w= .ok (.enter f args) w:=by
 unfold cF at hf
 cases h:P.funcs[f]? with
 |none=>simp [h] at hf
 |some fn=>
  simp only [h,Bool.and_eq_true,Bool.not_eq_true'] at hf
  obtain ⟨h1,h2⟩:=hf
  have h3:fn.body.isNone=false:=by cases hb:fn.body <;> simp_all
  unfold callFunc
  rw [Sem.run_bind]
  simp only [run_program,Result.andThen_ok,h,h1,h3,Bool.false_eq_true,if_false]
  rfl
theorem fW{γ:Type}{f:FuncId}{x:Operand}{ags:List Operand}{ats:Array TypeId}{vs fs cs:List Value}{val:γ->Value}{φ:γ->Prop}{K':γ->World->Prop}{L':γ->List (Nat×TypeId×List Value)}{O':γ->List Own}{X':γ->List (World->Prop)}(hx:rd S x=some (.func (.func f) fs.toArray cs.toArray))(hf:cF P f=true)(ha:rB S ags=some vs)(hd:Nat.ble (d+1) c.n=true)
 (hC:∀w,gB c K L O X w->Calls P f (fs++vs++cs).toArray w (fun e w'=>∃g,e=.returned (val g)/\φ g/\gB c (K' g) (L' g) (O' g) (X' g) w')) (h:∀g,φ g->WL P c fL Q rest ((d,val g)::S) (K' g) (L' g) (O' g) (X' g)):
 WL P c fL Q (⟨some d,.call ⟨.value x,ags.toArray,ats⟩,ty,pos,aft,none⟩::rest) S K L O X:=by
 intro a w hh hm
 refine wpList_plain D fun K'' hK=>?_
 unfold Oper.wp
 have:(execOp a.eval ⟨some d,.call ⟨.value x,ags.toArray,ats⟩,ty,pos,aft,none⟩).run P w= .ok (.enter f (fs++vs++cs).toArray) w:=by
  have e:ags.toArray.map a.eval=vs.toArray:=by rw [<-hh.args ha];simp
  simp only [execOp,resolve,hh.eval hx,e,Deferred.ofValue,Sem.run_bind,Sem.run_pure,Result.andThen_ok,invoke]
  rw [cN7 hf]
  simp
 rw [this]
 refine (hC w hm).mono ?_
 rintro e w' ⟨g,rfl,hφ,hm'⟩
 exact hK _ _ (h g hφ _ _ (hh.put hd _) hm')
theorem cR{f:FuncId}{x:Operand}{ags:List Operand}{ats:Array TypeId}{vs fs cs:List Value}{v:Value}(hx:rd S x=some (.func (.func f) fs.toArray cs.toArray))(hf:cF P f=true)(ha:rB S ags=some vs)(hd:Nat.ble (d+1) c.n=true)
 (hC:∀w,gB c K L O X w->Calls P f (fs++vs++cs).toArray w (fun e w'=>e=.returned v/\w.grownBy w' none)) (h:WL P c fL Q rest ((d,v)::S) K L O X):
 WL P c fL Q (⟨some d,.call ⟨.value x,ags.toArray,ats⟩,ty,pos,aft,none⟩::rest) S K L O X:=
 fW (γ:=Unit) (val:=fun _=>v) (φ:=fun _=>True) (K':=fun _=>K) (L':=fun _=>L) (O':=fun _=>O) (X':=fun _=>X) hx hf ha hd (fun w hm=>(hC w hm).mono fun _ _ ⟨he,hg⟩=>⟨(),he,bB,hm.grow hg⟩) (fun _ _=>h)
theorem dC{f:FuncId}{x:Operand}{ags:List Operand}{ats:Array TypeId}{vs fs cs:List Value}{v:Value}(hx:rd S x=some (.func (.func f) fs.toArray cs.toArray))(hf:cF P f=true)(ha:rB S ags=some vs)(hd:Nat.ble (d+1) c.n=true)
 (hC:∀w,gB c K L O X w->Calls P f (fs++vs++cs).toArray w (fun e w'=>e=.returned v/\w=w')) (h:WL P c fL Q rest ((d,v)::S) K L O X):
 WL P c fL Q (⟨some d,.call ⟨.value x,ags.toArray,ats⟩,ty,pos,aft,none⟩::rest) S K L O X:=
 cR hx hf ha hd (fun w hm=>(hC w hm).mono fun _ _ ⟨he,hg⟩=>⟨he,hg ▸ World.grownBy.refl _ _⟩) h
theorem fK{γ:Type}{f:FuncId}{x:Operand}{ags:List Operand}{ats:Array TypeId}{vs fs cs:List Value}{val:γ->Value}{φ:γ->Prop}{Y:γ->World->Prop}(hx:rd S x=some (.func (.func f) fs.toArray cs.toArray))(hf:cF P f=true)(ha:rB S ags=some vs)(hd:Nat.ble (d+1) c.n=true)
 (hC:∀w,gB c K L O X w->Calls P f (fs++vs++cs).toArray w (fun e w'=>∃g,e=.returned (val g)/\φ g/\w.grownBy w' none/\Y g w')) (hl:∀g,Lasts2 c.w0.heap.size c.row c.Tt (Y g)) (h:∀g,φ g->WL P c fL Q rest ((d,val g)::S) K L O (Y g::X)):
 WL P c fL Q (⟨some d,.call ⟨.value x,ags.toArray,ats⟩,ty,pos,aft,none⟩::rest) S K L O X:=
 fW (γ:=γ) (val:=val) (φ:=φ) (K':=fun _=>K) (L':=fun _=>L) (O':=fun _=>O) (X':=fun g=>Y g::X) hx hf ha hd (fun w hm=>(hC w hm).mono fun _ _ ⟨g,he,hφ,hg,hy⟩=>⟨g,he,hφ,(hm.grow hg).also (hl g) hy⟩) h
theorem gB.strm{TS:TypeId}{B sb m m':Nat}{w w':World}{Y:World->Prop}(h:gB c (fun w=>fQ TS w B sb m) L O X w)(uG:c.row=some sb)(hT:c.Tt.contains TS=false)(hS:fQ TS w' B sb m')(hg:w.grownBy w' (some sb))(hl:Lasts2 c.w0.heap.size c.row c.Tt Y)(hy:Y w'):gB c (fun w=>fQ TS w B sb m') L O (Y::X) w':=by
 obtain ⟨A,n,cc,k,hh,_⟩:=h.k.pos
 have hlt:=h.rs sb uG
 refine ⟨grow_trans h.g (uG ▸ hg),hS,fun x hx=>⟨(h.b x hx).1,(h.b x hx).2.grown hg (fun e=>?_)⟩,h.nd,fun r hr=>(h.o r hr).kept hg ?_,h.od,h.oo,fun A hA=>?_,bF3.strm hlt,fun A hA=>?_,h.rs⟩
 ·have:=(h.b x hx).1;injection e with e;omega
 ·cases hv:r.v.ownBlock with
  |none=>exact .inl rfl
  |some g=>exact .inr (fun e=>by have:=((h.o r hr).lt g hv).1;injection e with e;omega)
 ·rcases List.mem_cons.1 hA with rfl|hA
  ·exact hy
  ·exact (h.l A hA).st w w' sb TS _ hh (fun e=>by simp [e] at hT) (.inr uG) hg (h.x A hA)
 ·rcases List.mem_cons.1 hA with rfl|hA
  ·exact hl
  ·exact h.l A hA
theorem pH{γ:Type}{TS:TypeId}{B sb m m':Nat}{f:FuncId}{x:Operand}{ags:List Operand}{ats:Array TypeId}{vs fs cs:List Value}{val:γ->Value}{φ:γ->Prop}{Y:γ->World->Prop}(hx:rd S x=some (.func (.func f) fs.toArray cs.toArray))(hf:cF P f=true)(ha:rB S ags=some vs)(hd:Nat.ble (d+1) c.n=true)(uG:c.row=some sb)(hT:c.Tt.contains TS=false)
 (hC:∀w,gB c (fun w=>fQ TS w B sb m) L O X w->Calls P f (fs++vs++cs).toArray w (fun e w'=>∃g,e=.returned (val g)/\φ g/\fQ TS w' B sb m'/\w.grownBy w' (some sb)/\Y g w')) (hl:∀g,Lasts2 c.w0.heap.size c.row c.Tt (Y g)) (h:∀g,φ g->WL P c fL Q rest ((d,val g)::S) (fun w=>fQ TS w B sb m') L O (Y g::X)):
 WL P c fL Q (⟨some d,.call ⟨.value x,ags.toArray,ats⟩,ty,pos,aft,none⟩::rest) S (fun w=>fQ TS w B sb m) L O X:=
 fW (γ:=γ) (val:=val) (φ:=φ) (K':=fun _ w=>fQ TS w B sb m') (L':=fun _=>L) (O':=fun _=>O) (X':=fun g=>Y g::X) hx hf ha hd (fun w hm=>(hC w hm).mono fun _ _ ⟨g,he,hφ,hS,hg,hy⟩=>⟨g,he,hφ,hm.strm uG hT hS hg (hl g) hy⟩) h
theorem dP{t e:TypeId}{sz:Nat}{x:Operand}{A:Option Addr}{n eX:Nat}(he:kH P t=some (e,sz))(hx:rd S x=some (H A n eX)):OV P nn S Z ⟨some d,.call ⟨.builtin .len,#[x],#[t]⟩,ty,pos,aft,none⟩ (J (n:Int)):=
 (fun a w ha hm=>by
  have hu:∃e',P.underlying t=some (.slice e'):=by
   unfold kH at he
   split at he
   ·exact ⟨_,by assumption⟩
   ·cases he
  obtain ⟨e',hu⟩:=hu
  simp [execOp,resolve,invoke,builtin,ha.eval hx,Builtin.len_,run_underlying hu,goInt])
theorem zT{t:TypeId}{x:Operand}{s:M}(ht:P.underlying t=some .string)(hx:rd S x=some (U s)):OV P nn S Z ⟨some d,.call ⟨.builtin .len,#[x],#[t]⟩,ty,pos,aft,none⟩ (J (s.size:Int)):=
 (fun a w ha hm=>by
  simp [execOp,resolve,invoke,builtin,ha.eval hx,Builtin.len_,run_underlying ht,goInt])
theorem eV2{ts:Array TypeId}{x y:Operand}{m n:Int}(hx:rd S x=some (J m))(hy:rd S y=some (J n)):OV P nn S Z ⟨some d,.call ⟨.builtin .max,#[x,y],ts⟩,ty,pos,aft,none⟩ (J (max m n)):=
 (fun a w ha hm=>by
  have e:(if n > m then n else m)=max m n:=by split <;> omega
  simp only [execOp,resolve,invoke,builtin,List.map_toArray,List.map_cons,List.map_nil,ha.eval hx,ha.eval hy,Sem.run_bind,Sem.run_pure,Result.andThen_ok,run_max_int2,e])
theorem eW2{ts:Array TypeId}{x y:Operand}{m n:Int}(hx:rd S x=some (J m))(hy:rd S y=some (J n)):OV P nn S Z ⟨some d,.call ⟨.builtin .min,#[x,y],ts⟩,ty,pos,aft,none⟩ (J (min m n)):=
 (fun a w ha hm=>by
  have e:(if n < m then n else m)=min m n:=by split <;> omega
  simp only [execOp,resolve,invoke,builtin,List.map_toArray,List.map_cons,List.map_nil,ha.eval hx,ha.eval hy,Sem.run_bind,Sem.run_pure,Result.andThen_ok,run_min_int2,e])
def xQ(P:Program)(t:TypeId):Option (TypeId×Nat×Nat):=
 match P.underlying t with
 |some (.slice e)=>match P.info? e with
  |some i=>match i.zero with
   |some z=>if z.cells.size=i.size/\0 < i.size then some (e,i.size,i.bytes) else none
   |none=>none
  |none=>none
 |_=>none
theorem eP{t e:TypeId}{sz by_:Nat}{x y:Operand}{g m n eX:Nat}{v:Value}{xs cs news:List Value}{T:TypeId}(i j:Nat)(ht:xQ P t=some (e,sz,by_))(hx:rd S x=some v)(hO:O[i]?=some ⟨v,e,sz,n,xs⟩)(hy:rd S y=some (H (some ⟨g,0,none⟩) m eX))(hL:L[j]?=some (g,T,cs))(hnews:cs.take (m *sz)=news)(hln:news.length=m *sz)
 (h1:news.all (·.oneCell')=true) (hb:(n+m) *by_<=140737488355328) (h63:n+m<=maxLen) (hT:c.Tt.contains e=false) (hd:Nat.ble (d+1) c.n=true)
 (h:∀v',(v'=H none 0 0↔v=H none 0 0/\m=0)->WL P c fL Q rest ((d,v')::S) K L (vH ⟨v',e,sz,n+m,xs++news⟩ O i) X):WL P c fL Q (⟨some d,.call ⟨.builtin .append,#[x,y],#[t,t]⟩,ty,pos,aft,none⟩::rest) S K L O X:=by
 intro a w ha hm
 unfold xQ at ht
 split at ht
 ·rename_i e' hu
  split at ht
  ·rename_i inf hi
   split at ht
   ·rename_i z hz
    split at ht
    ·rename_i hzz
     simp only [Option.some.injEq,Prod.mk.injEq] at ht
     obtain ⟨rfl,rfl,rfl⟩:=ht
     have hown:=hm.o _ (fZ9 hO)
     have hblk:=hm.blk (fZ9 hL)
     refine wpList_append_own_at _ D x y t D c.w0.heap.size e' inf z inf.size inf.bytes hu hi hz D D hzz.1 hzz.2 v n xs (ha.eval hx) hown ⟨g,0,none⟩ m eX news (ha.eval hy) hln (fun k u hk=>?_) (by simpa using h1) h63 hb hm.g.size fun v' w' h2 h3 h4 h5=>?_
     ·rw [rZ,Nat.zero_add]
      refine hblk.cell_of ?_
      subst hnews
      rw [List.getElem?_take] at hk
      split at hk
      ·exact hk
      ·cases hk
     ·exact h v' h4 _ _ (ha.put hd _) (hm.append hO hT h2 h3 h5)
    ·cases ht
   ·cases ht
  ·cases ht
 ·cases ht
theorem pB{γ:Type}{x y:Code}{I':γ->Prop}{S':γ->List (Nat×Value)}{K':γ->World->Prop}{L':γ->List (Nat×TypeId×List Value)}{O':γ->List Own}{X':γ->List (World->Prop)}
 (h1:Gw P c (Exit.then (fun a w=>∃g,I' g/\Has (S' g) c.n a/\gB c (K' g) (L' g) (O' g) (X' g) w) Q) x S K L O X) (h2:∀g,I' g->Gw P c Q y (S' g) (K' g) (L' g) (O' g) (X' g)):Gw P c Q (.seq x y) S K L O X:=fun a w ha hm=>
 wp_seq (Code.wp_mono (fun e a' w' hq=>by
  cases e with
  |normal=>obtain ⟨g,hI,hs,hmm⟩:=hq;exact h2 g hI a' w' hs hmm
  |_=>exact hq) (h1 a w ha hm))
theorem fH{γ:Type}{I':γ->Prop}{S':γ->List (Nat×Value)}{K':γ->World->Prop}{L':γ->List (Nat×TypeId×List Value)}{O':γ->List Own}{X':γ->List (World->Prop)}(g:γ)(hI:I' g)(hs:Sub S (S' g))(hM:∀w,gB c K L O X w->gB c (K' g) (L' g) (O' g) (X' g) w):
 Nx c (Exit.then (fun a w=>∃g,I' g/\Has (S' g) c.n a/\gB c (K' g) (L' g) (O' g) (X' g) w) Q) .normal S K L O X:=fun _ w ha hm=>⟨g,hI,ha.sub hs.look,hM w hm⟩
theorem cQ{γ:Type}{μ:γ->Nat}{k:Nat}{I':γ->Prop}{S':γ->List (Nat×Value)}{K':γ->World->Prop}{L':γ->List (Nat×TypeId×List Value)}{O':γ->List Own}{X':γ->List (World->Prop)}(g:γ)(hI:I' g)(hlt:μ g < k)(hs:Sub S (S' g))(hM:∀w,gB c K L O X w->gB c (K' g) (L' g) (O' g) (X' g) w):
 Nx c (Exit.then (fun a w=>∃g',(I' g'/\Has (S' g') c.n a/\gB c (K' g') (L' g') (O' g') (X' g') w)/\μ g' < k) Q) .normal S K L O X:=fun _ w ha hm=>⟨g,⟨hI,ha.sub hs.look,hM w hm⟩,hlt⟩
theorem gB.blkI{w:World}(h:gB c K L O X w)(i:Nat){g:Nat}{T:TypeId}{cs:List Value}(hi:L[i]?=some (g,T,cs)):Blk w g T cs:=h.blk (fZ9 hi)
theorem gB.more{TS:TypeId}{B sb m m':Nat}{w:World}(h:gB c (fun w=>fQ TS w B sb m) L O X w)(uG:c.row=some sb)(hm:m<=m'):gB c (fun w=>fQ TS w B sb m') L O X w:=⟨h.g,h.k.more hm,h.b,h.nd,h.o,h.od,h.oo,h.x,bF3.strm (h.rs sb uG),h.l,h.rs⟩
theorem dX{γ:Type}{TS:TypeId}{B sb m m':Nat}{f:FuncId}{x:Operand}{ags:List Operand}{ats:Array TypeId}{vs fs cs:List Value}{val:γ->Value}{φ:γ->Prop}(hx:rd S x=some (.func (.func f) fs.toArray cs.toArray))(hf:cF P f=true)(ha:rB S ags=some vs)(hd:Nat.ble (d+1) c.n=true)(uG:c.row=some sb)(hT:c.Tt.contains TS=false)
 (hC:∀w,gB c (fun w=>fQ TS w B sb m) L O X w->Calls P f (fs++vs++cs).toArray w (fun e w'=>∃g,φ g/\e=.returned (val g)/\fQ TS w' B sb m'/\w.grownBy w' (some sb))) (h:∀g,φ g->WL P c fL Q rest ((d,val g)::S) (fun w=>fQ TS w B sb m') L O X):
 WL P c fL Q (⟨some d,.call ⟨.value x,ags.toArray,ats⟩,ty,pos,aft,none⟩::rest) S (fun w=>fQ TS w B sb m) L O X:=
 fW (γ:=γ) (val:=val) (φ:=φ) (K':=fun _ w=>fQ TS w B sb m') (L':=fun _=>L) (O':=fun _=>O) (X':=fun _=>X) hx hf ha hd (fun w hm=>(hC w hm).mono fun _ _ ⟨g,hφ,he,hS,hg⟩=>⟨g,he,hφ,(by
  have h1:=hm.strm uG hT hS hg (Y:=fun _=>True) Lasts2.true_ bB
  exact ⟨h1.g,h1.k,h1.b,h1.nd,h1.o,h1.od,h1.oo,fun A hA=>h1.x A (List.mem_cons_of_mem _ hA),h1.kk,hm.l,h1.rs⟩)⟩) h
theorem bO{l:List Oper}{v v':Value}(t:Nat)(hv:look S t=some v)(e:v=v')(h:WL P c fL Q l ((t,v')::S) K L O X):WL P c fL Q l S K L O X:=fun a w ha hm=>
 h a w ⟨ha.size,fun t' u hu=>by
  rcases yF hu with ⟨rfl,rfl⟩|⟨_,hu⟩
  ·exact e ▸ ha.val _ _ hv
  ·exact ha.val t' u hu,ha.df⟩ hm
theorem kR{code:Code}{v v':Value}(t:Nat)(hv:look S t=some v)(e:v=v')(h:Gw P c Q code ((t,v')::S) K L O X):Gw P c Q code S K L O X:=fun a w ha hm=>
 h a w ⟨ha.size,fun t' u hu=>by
  rcases yF hu with ⟨rfl,rfl⟩|⟨_,hu⟩
  ·exact e ▸ ha.val _ _ hv
  ·exact ha.val t' u hu,ha.df⟩ hm
theorem cZ{w:World}:∀A∈([]:List (World->Prop)),A w:=fun _ h=>by cases h
theorem cC{w:World}{A:World->Prop}{l:List (World->Prop)}(h:A w)(t:∀B∈l,B w):∀B∈A::l,B w:=fun B hB=>by
 rcases List.mem_cons.1 hB with rfl|hB
 ·exact h
 ·exact t B hB
theorem dA{N:Nat}{row:Option Nat}{Tt:List TypeId}:∀A∈([]:List (World->Prop)),Lasts2 N row Tt A:=fun _ h=>by cases h
theorem cE{N:Nat}{row:Option Nat}{Tt:List TypeId}{A:World->Prop}{l:List (World->Prop)}(h:Lasts2 N row Tt A)(t:∀B∈l,Lasts2 N row Tt B):∀B∈A::l,Lasts2 N row Tt B:=fun B hB=>by
 rcases List.mem_cons.1 hB with rfl|hB
 ·exact h
 ·exact t B hB
theorem cP{k:IntKind}{a b:Int}(h:a=b):some (Value.int k a)=some (.int k b):=by rw [h]
def Gr(P:Program)(c:Cx)(code:Code)(Q:Exit->Act->World->Prop)(m:Nat)(S:List (Nat×Value))(K:World->Prop)(L:List (Nat×TypeId×List Value))(O:List Own)(X:List (World->Prop)):Prop:=
 ∀a w,Has S c.n a->gB c K L O X w->Code.rounds P code Q m a w
theorem fF{code:Code}(m:Nat)(h:Gr P c code Q m S K L O X):Gw P c Q (.loop code) S K L O X:=fun a w ha hm=>wp_loop_rounds m (h a w ha hm)
theorem eK{code:Code}{m:Nat}(h:Gw P c (Exit.then (Code.rounds P code Q m) Q) code S K L O X):Gr P c code Q (m+1) S K L O X:=fun a w ha hm=>by rw [rounds_succ];exact h a w ha hm
theorem jL{code:Code}{m:Nat}(h:Gr P c code Q m S K L O X):Nx c (Exit.then (Code.rounds P code Q m) Q) .normal S K L O X:=h
theorem mA{l:List Oper}(e:TypeId)(sz:Nat)(h:WL P c fL Q l S K L (⟨H none 0 0,e,sz,0, []⟩::O) X):WL P c fL Q l S K L O X:=fun a w ha hm=>h a w ha (hm.nilOwn e sz)
theorem qU{code:Code}(e:TypeId)(sz:Nat)(h:Gw P c Q code S K L (⟨H none 0 0,e,sz,0, []⟩::O) X):Gw P c Q code S K L O X:=fun a w ha hm=>h a w ha (hm.nilOwn e sz)
theorem gB.ownI{w:World}(h:gB c K L O X w)(i:Nat){v:Value}{e:TypeId}{sz n:Nat}{xs:List Value}(hi:O[i]?=some ⟨v,e,sz,n,xs⟩):w.ownsRow c.w0.heap.size e sz v n xs:=h.o _ (fZ9 hi)
theorem dW{w:World}{base:Nat}{e:TypeId}{sz n:Nat}{v:Value}{xs:List Value}(h:w.ownsRow base e sz v n xs):∃A cc,v=H A n cc:=by
 rcases h.2 with ⟨rfl,rfl⟩|⟨g,eX,uY,rfl,_⟩
 ·exact ⟨none,0,D⟩
 ·exact ⟨_,_,D⟩
end
section
variable {P:Program} {c:Cx} {fL:Array Oper} {Q:Exit->Act->World->Prop} {S:List (Nat×Value)} {K:World->Prop} {L:List (Nat×TypeId×List Value)} {O:List Own} {X:List (World->Prop)} {Z:World->Prop}
variable {d:Nat} {ty:TypeId} {pos:String} {aft:Array Edge}
def WA(P:Program)(c:Cx)(fL:Array Oper)(Q:Exit->Act->World->Prop)(Z:World->Prop)(fuel:Nat)(eI:Array Bool)(S:List (Nat×Value))(K:World->Prop)(L:List (Nat×TypeId×List Value))(O:List Own)(X:List (World->Prop)):Prop:=
 ∀a w,Has S c.n a->gB c K L O X w->wpAnyH P .any fL Q Z fuel eI a w
theorem eZ5{id:Nat}{l:List Oper}(Z:World->Prop)(hm:P.follows .mixedOrders=true)(h:WA P c l.toArray Q Z l.length (Array.replicate l.length false) S K L O X):Gw P c Q (.region id l.toArray true) S K L O X:=
 fun a w ha hmm=>wp_region_held (S:=Z) hm (by simpa using h a _ ha (hmm.grow (pY (World.grownBy.refl w none))))
theorem eA8{fuel:Nat}{eI:Array Bool}(h:∀W',W'=WA P c fL Q Z->W' fuel eI S K L O X):WA P c fL Q Z fuel eI S K L O X:=h _ rfl
theorem eB8{op:Op}{v:Value}{fuel:Nat}{eI listed':Array Bool}(i:Nat)(hi:fL[i]?=some ⟨some d,op,ty,pos,aft,none⟩)(hs:Region.noSelect fL=true)(hf:Region.free .any fL eI i=true)(hr:(Region.ready .any fL eI).contains i=true)(hl:eI.setIfInBounds i true=listed')
 (hQ:∀cc a w,Q (.panic cc) (a.put (some d) v) w->Q (.panic cc) a w) (hZ:∀w,gB c K L O X w->Z w) (ho:OV P c.n S Z ⟨some d,op,ty,pos,aft,none⟩ v) (hd:Nat.ble (d+1) c.n=true) (h:WA P c fL Q Z fuel listed' ((d,v)::S) K L O X):WA P c fL Q Z (fuel+1) eI S K L O X:=by
 intro a w ha hm
 subst hl
 exact wpAnyH_take hi hs hf hr hQ (.inl ⟨by simp [Region.wanted],fun w' hz=>ho a w' ha hz⟩) (hZ w hm) (h _ _ (ha.put hd v) hm)
theorem dK4{op:Op}{v:Value}{fuel:Nat}{eI listed':Array Bool}{j t:Nat}{b:Bool}(i:Nat)(hi:fL[i]?=some ⟨some d,op,ty,pos,aft,some (j,b)⟩)(hj:(fL[j]?).bind (·.dst)=some t)(hb:look S t=some (.bool b))(hs:Region.noSelect fL=true)(hf:Region.free .any fL eI i=true)(hr:(Region.ready .any fL eI).contains i=true)(hl:eI.setIfInBounds i true=listed')
 (hQ:∀cc a w,Q (.panic cc) (a.put (some d) v) w->Q (.panic cc) a w) (hZ:∀w,gB c K L O X w->Z w) (ho:OV P c.n S Z ⟨some d,op,ty,pos,aft,none⟩ v) (hd:Nat.ble (d+1) c.n=true) (h:WA P c fL Q Z fuel listed' ((d,v)::S) K L O X):WA P c fL Q Z (fuel+1) eI S K L O X:=by
 intro a w ha hm
 subst hl
 have hy:yielded fL a.tmps j=some b:=by
  unfold yielded
  rw [hj]
  simp [ha.val t _ hb]
 exact wpAnyH_take hi hs hf hr hQ (.inl ⟨by simp [Region.wanted,hy],fun w' hz=>ho a w' ha hz⟩) (hZ w hm) (h _ _ (ha.put hd v) hm)
theorem dB1{op:Op}{fuel:Nat}{eI listed':Array Bool}{j t:Nat}{b b':Bool}(i:Nat)(hi:fL[i]?=some ⟨some d,op,ty,pos,aft,some (j,b)⟩)(hj:(fL[j]?).bind (·.dst)=some t)(hb:look S t=some (.bool b'))(hne:b'≠b)(hs:Region.noSelect fL=true)(hf:Region.free .any fL eI i=true)(hr:(Region.ready .any fL eI).contains i=true)(hl:eI.setIfInBounds i true=listed')
 (hQ:∀cc a w,Q (.panic cc) (a.put (some d) undef) w->Q (.panic cc) a w) (hZ:∀w,gB c K L O X w->Z w) (hd:Nat.ble (d+1) c.n=true) (h:WA P c fL Q Z fuel listed' ((d,undef)::S) K L O X):WA P c fL Q Z (fuel+1) eI S K L O X:=by
 intro a w ha hm
 subst hl
 have hy:yielded fL a.tmps j=some b':=by
  unfold yielded
  rw [hj]
  simp [ha.val t _ hb]
 exact wpAnyH_take hi hs hf hr hQ (.inr ⟨by simp [Region.wanted,hy,hne],rfl⟩) (hZ w hm) (h _ _ (ha.put hd undef) hm)
theorem cZ7{i:Nat}{o:Oper}{KK:Act->World->Prop}{a:Act}{w:World}(hi:fL[i]?=some o)(h:wpList P fL (Exit.then KK Q) [o] a w):wpOp P fL Q i KK a w:=by
 unfold wpOp
 simp only [hi]
 unfold wpList at h
 split at h
 ·rename_i hw
  rw [if_pos hw]
  rcases h with h|⟨h1,h2⟩
  ·refine .inl ?_
   unfold Oper.wp at *
   generalize (execOp a.eval o).run P w=r at *
   cases r with
   |ok n w'=>
    cases n <;> simp only [Oper.upon] at h ⊢ <;> exact h
   |halt x w'=>cases x <;> simp only [Oper.upon] at h ⊢ <;> exact h
  ·exact .inr ⟨h1,h2⟩
 ·rename_i hw
  rw [if_neg hw]
  exact h
def Evs(P:Program)(c:Cx)(fL:Array Oper)(Q:Exit->Act->World->Prop)(Z:World->Prop)(fuel:Nat)(eI:Array Bool)(S:List (Nat×Value))(K:World->Prop)(L:List (Nat×TypeId×List Value))(O:List Own)(X:List (World->Prop)):List Nat->Prop
 | []=>True
 |i::r=>(∃o,fL[i]?=some o/\WL P c fL (Exit.then (fun a w=>Z w/\wpAnyH P .any fL Q Z fuel (eI.setIfInBounds i true) a w) Q) [o] S K L O X)/\Evs P c fL Q Z fuel eI S K L O X r
theorem Evs.get{fuel:Nat}{eI:Array Bool}:∀{rs:List Nat},Evs P c fL Q Z fuel eI S K L O X rs->∀i∈rs,∃o,fL[i]?=some o/\WL P c fL (Exit.then (fun a w=>Z w/\wpAnyH P .any fL Q Z fuel (eI.setIfInBounds i true) a w) Q) [o] S K L O X
 | [],_,i,hi=>by cases hi
 |j::r,h,i,hi=>by
  rcases List.mem_cons.1 hi with rfl|hi
  ·exact h.1
  ·exact Evs.get h.2 i hi
theorem jC{fuel:Nat}{eI:Array Bool}(rs:List Nat)(hr:Region.ready .any fL eI=rs)(hne:rs.isEmpty=false)(h:Evs P c fL Q Z fuel eI S K L O X rs):WA P c fL Q Z (fuel+1) eI S K L O X:=by
 intro a w ha hm
 refine wpAnyH_all hr (fun e=>by subst e;simp at hne) fun i hi=>?_
 obtain ⟨o,ho,hwl⟩:=h.get i hi
 exact cZ7 ho (hwl a w ha hm)
theorem jM{fuel:Nat}{eI:Array Bool}{S':List (Nat×Value)}{K':World->Prop}{L':List (Nat×TypeId×List Value)}{O':List Own}{X':List (World->Prop)}(hs:Sub S S')(hM:∀w,gB c K L O X w->gB c K' L' O' X' w)(J':WA P c fL Q Z fuel eI S' K' L' O' X'):
 WA P c fL Q Z fuel eI S K L O X:=fun a w ha hm=>J' a w (ha.sub hs.look) (hM w hm)
theorem eZ7{fuel:Nat}{eI:Array Bool}(hr:Region.ready .any fL eI= [])(h:Nx c Q .normal S K L O X):WA P c fL Q Z fuel eI S K L O X:=fun a w ha hm=>wpAnyH_done hr (h a w ha hm) _
theorem fE1{fuel:Nat}{eI:Array Bool}{listed':Array Bool}(hl:eI=listed')(hZ:∀w,gB c K L O X w->Z w)(J':WA P c fL Q Z fuel listed' S K L O X):
 Nx c (Exit.then (fun a w=>Z w/\wpAnyH P .any fL Q Z fuel eI a w) Q) .normal S K L O X:=fun a w ha hm=>by subst hl;exact ⟨hZ w hm,J' a w ha hm⟩
theorem dI{fuel:Nat}{eI:Array Bool}{v v':Value}(t:Nat)(hv:look S t=some v)(e:v=v')(h:WA P c fL Q Z fuel eI ((t,v')::S) K L O X):WA P c fL Q Z fuel eI S K L O X:=fun a w ha hm=>
 h a w ⟨ha.size,fun t' u hu=>by
  rcases yF hu with ⟨rfl,rfl⟩|⟨_,hu⟩
  ·exact e ▸ ha.val _ _ hv
  ·exact ha.val t' u hu,ha.df⟩ hm
def lb(n m:Nat):Array Bool:=((List.range n).map fun i=>m.testBit i).toArray
def tk(fL:Array Oper)(eI:Array Bool)(i:Nat)(listed':Array Bool):Bool:=Region.noSelect fL&&Region.free .any fL eI i&&(Region.ready .any fL eI).contains i&&decide (eI.setIfInBounds i true=listed')
theorem cU7{eI listed':Array Bool}{i:Nat}(h:tk fL eI i listed'=true):Region.noSelect fL=true/\Region.free .any fL eI i=true/\(Region.ready .any fL eI).contains i=true/\eI.setIfInBounds i true=listed':=by
 unfold tk at h
 simp only [Bool.and_eq_true,decide_eq_true_eq] at h
 exact ⟨h.1.1.1,h.1.1.2,h.1.2,h.2⟩
theorem gd{id:Nat}{l:List Oper}(Z:World->Prop)(hm:P.follows .mixedOrders=true)(hZ:∀w,gB c K L O X w->Z w)(h:(∀w,gB c K L O X w->Z w)->WA P c l.toArray Q Z l.length (Array.replicate l.length false) S K L O X):Gw P c Q (.region id l.toArray true) S K L O X:=eZ5 Z hm (h hZ)
theorem nw{fuel:Nat}{eI:Array Bool}(n m:Nat)(hZ:∀w,gB c K L O X w->Z w)(J':(∀w,gB c K L O X w->Z w)->WA P c fL Q Z fuel (lb n m) S K L O X)(hl:eI=lb n m:=by kernel_rfl):
 Nx c (Exit.then (fun a w=>Z w/\wpAnyH P .any fL Q Z fuel eI a w) Q) .normal S K L O X:=fE1 hl hZ (J' hZ)
theorem eD{fuel:Nat}{eI:Array Bool}(i:Nat){o:Oper}(ho:fL[i]?=some o)(h:WL P c fL (Exit.then (fun a w=>Z w/\wpAnyH P .any fL Q Z fuel (eI.setIfInBounds i true) a w) Q) [o] S K L O X)(hr:Region.ready .any fL eI= [i]:=by kernel_rfl):WA P c fL Q Z (fuel+1) eI S K L O X:=jC [i] hr rfl ⟨⟨o,ho,h⟩,bB⟩
end
theorem dD5{α:Type}(enc:α->List Value)(k:Nat)(hk:∀x,(enc x).length=k):∀(l:List α) (j:Nat) (u:Value),(l.flatMap enc)[j]?=some u->
 ∃i x r,l[i]?=some x/\(enc x)[r]?=some u/\j=i *k+r
 | [],j,u,h=>by simp at h
 |y::t,j,u,h=>by
  rw [List.flatMap_cons] at h
  by_cases hj:j < (enc y).length
  ·rw [List.getElem?_append_left hj] at h
   exact ⟨0,y,j,D,h,G⟩
  ·rw [List.getElem?_append_right G,hk] at h
   obtain ⟨i,x,r,h1,h2,h3⟩:=dD5 enc k hk t (j - k) u h
   refine ⟨i+1,x,r,by simpa using h1,h2,?_⟩
   rw [hk] at hj
   rw [Nat.add_mul];omega
theorem bC5{α:Type}(enc:α->List Value)(k:Nat)(hk:∀x,(enc x).length=k):∀l:List α,(l.flatMap enc).length=l.length *k
 | []=>by simp
 |y::t=>by rw [List.flatMap_cons,List.length_append,hk,bC5 enc k hk t,List.length_cons,Nat.add_mul];omega
theorem cH9{α:Type}(enc:α->List Value)(h:∀x,∀v∈enc x,v.oneCell'=true)(l:List α):∀v∈l.flatMap enc,v.oneCell'=true:=by
 intro v hv
 obtain ⟨x,_,hx⟩:=List.mem_flatMap.1 hv
 exact h x v hx
theorem SlT.flat{α:Type}{enc:α->List Value}{k:Nat}{T:TypeId}{w:World}{A:Option Addr}{n:Nat}{l:List α}(hl:SlT enc k T w A n l)(hk:∀x,(enc x).length=k)(hn:0 < n):
 ∃b off,A=some ⟨b,off,none⟩/\b < w.heap.size/\∀j u,(l.flatMap enc)[j]?=some u->w.cell? ((⟨b,off,none⟩:Addr).add j)=some u:=by
 obtain ⟨b,off,hA,hb,hr⟩:=hl.get hn
 refine ⟨b,off,hA,hb,fun j u hj=>?_⟩
 obtain ⟨i,x,r,h1,h2,h3⟩:=dD5 enc k hk l j u hj
 have:=hr i x h1 r u h2
 have ha:(⟨b,off,none⟩:Addr).add j=⟨b,off+i *k+r,none⟩:=by
  unfold Addr.add
  split
  ·rename_i h0
   have e:off=off+i *k+r:=G
   rw [<-e]
  ·simp;omega
 rw [ha];exact this
theorem bK4{α:Type}{cs:List α}{o:Nat}{vs:List α}{m:Nat}(ho:o<=cs.length)(h:m < o):(kI cs o vs)[m]?=cs[m]?:=by
 unfold kI
 rw [List.append_assoc]
 have hl:m < (cs.take o).length:=by simp;omega
 rw [List.getElem?_append_left hl,List.getElem?_take,if_pos h]
theorem cF2{α:Type}{cs:List α}{o:Nat}{vs:List α}{m:Nat}(ho:o<=cs.length)(h:m < vs.length):(kI cs o vs)[o+m]?=vs[m]?:=by
 unfold kI
 have hl:(cs.take o).length=o:=by simp;omega
 rw [List.append_assoc,List.getElem?_append_right G,hl,Nat.add_sub_cancel_left,List.getElem?_append_left h]
theorem dR2{P:Program}{T:TypeId}{s b c:Nat}(h:(P.info? T).map (fun i=>(i.zero.map fun z=>z.cells.size,i.size,i.bytes))=some (some c,s,b)):
 ∃i z,P.info? T=some i/\i.zero=some z/\i.size=s/\i.bytes=b/\z.cells.size=c:=by
 cases hi:P.info? T with
 |none=>rw [hi] at h;cases h
 |some i=>
  rw [hi] at h
  simp only [Option.map_some,Option.some.injEq,Prod.mk.injEq] at h
  obtain ⟨h1,h2,h3⟩:=h
  cases hz:i.zero with
  |none=>rw [hz] at h1;cases h1
  |some z=>
   rw [hz] at h1
   exact ⟨i,z,D,hz,h2,h3,by simpa using h1⟩
def OwnT{α:Type}(enc:α->List Value)(k:Nat)(T:TypeId)(w:World)(base g n c:Nat)(l:List α):Prop:=base<=g/\w.ownsRow base T k (H (some ⟨g,0,none⟩) n c) n (l.flatMap enc)
theorem OwnT.kept{α:Type}{enc:α->List Value}{k:Nat}{T:TypeId}{w w':World}{base base' g n c:Nat}{l:List α}(h:OwnT enc k T w base g n c l)(hb:w'.heap[g]?=w.heap[g]?)(hle:base'<=base):OwnT enc k T w' base' g n c l:=by
 obtain ⟨h0,h1,h2⟩:=h
 refine ⟨G,h1,?_⟩
 rcases h2 with ⟨h2,_⟩|⟨g',eX,uY,hv,hbase,hh,hle2,hcap,hsz,htk⟩
 ·cases h2
 ·injection hv with hA hn hc
  injection hA with hA
  injection hA with hg _ _
  subst hg
  exact .inr ⟨g,eX,uY,by rw [hc],G,hb.trans hh,hle2,hcap,hsz,htk⟩
theorem OwnT.lt{α:Type}{enc:α->List Value}{k:Nat}{T:TypeId}{w:World}{base g n c:Nat}{l:List α}(h:OwnT enc k T w base g n c l):g < w.heap.size:=by
 obtain ⟨h0,h1,h2⟩:=h
 rcases h2 with ⟨h2,_⟩|⟨g',eX,uY,hv,hbase,hh,_⟩
 ·cases h2
 ·injection hv with hA hn hc
  injection hA with hA
  injection hA with hg _ _
  subst hg
  exact lt_of_block hh
theorem bA2{α:Type}{cs:List α}{o:Nat}{vs:List α}{m:Nat}(ho:o<=cs.length)(h:o+vs.length<=m):(kI cs o vs)[m]?=cs[m]?:=by
 unfold kI
 have hl:(cs.take o++vs).length=o+vs.length:=by simp;omega
 rw [List.getElem?_append_right G,hl,List.getElem?_drop]
 congr 1
 omega
theorem OwnT.blk{α:Type}{enc:α->List Value}{k:Nat}{T:TypeId}{w:World}{base g n c:Nat}{l:List α}(h:OwnT enc k T w base g n c l):
 ∃cs,Blk w g T cs/\n *k<=cs.length/\cs.take (n *k)=l.flatMap enc:=by
 obtain ⟨h0,h1,h2⟩:=h
 rcases h2 with ⟨h2,_⟩|⟨g',eX,uY,hv,hbase,hh,hle,_,hsz,htk⟩
 ·cases h2
 ·injection hv with hA hn hc
  injection hA with hA
  injection hA with hg _ _
  subst hg
  refine ⟨uY.toList,by unfold Blk;rw [Array.toArray_toList];exact hh,?_,htk⟩
  have:=Nat.mul_le_mul_right k hle
  simp [hsz];exact this
theorem SlT.spliced{α:Type}{enc:α->List Value}{k:Nat}{T:TypeId}{w':World}{g n:Nat}{l:List α}{cs:List Value}(hk:∀x,(enc x).length=k)(hcs:n *k<=cs.length)(htk:cs.take (n *k)=l.flatMap enc)(hl:l.length=n)
 {i0 r:Nat} {x y:α} {vs:List Value} (hx:l[i0]?=some x) (hy:enc y=kI (enc x) r vs) (hr:r+vs.length<=k) (hb:Blk w' g T (kI cs (i0 *k+r) vs)):
 SlT enc k T w' (some ⟨g,0,none⟩) n (l.set i0 y):=by
 have hi0:i0 < n:=by have:=(List.getElem?_eq_some_iff.1 hx).1;omega
 have hik:i0 *k+k<=n *k:=by
  have:=Nat.mul_le_mul_right k (show i0+1<=n by omega)
  rw [Nat.add_mul] at this;omega
 have dJ7:∀i z,l[i]?=some z->∀j v,(enc z)[j]?=some v->cs[i *k+j]?=some v:=fun i z hz j v hv=>by
  have:=bB5 enc k hk l i z hz j v hv
  rw [<-htk,List.getElem?_take] at this
  split at this
  ·exact this
  ·cases this
 refine ⟨by simpa using hl,fun _=>⟨g,0,_,_,rfl,hb,fun i z hz j v hv=>?_⟩⟩
 rw [List.getElem?_toArray,Nat.zero_add]
 have hj:j < k:=by have:=(List.getElem?_eq_some_iff.1 hv).1;rw [hk] at this;exact this
 rw [List.getElem?_set] at hz
 split at hz
 ·rename_i he
  subst he
  split at hz
  ·obtain rfl:=Option.some.inj hz
   rw [hy] at hv
   have hex:=hk x
   by_cases h1:j < r
   ·rw [bK4 G h1] at hv
    rw [bK4 G G]
    exact dJ7 _ _ hx _ _ hv
   ·by_cases h2:j < r+vs.length
    ·obtain ⟨m,rfl⟩:∃m,j=r+m:=⟨j - r,G⟩
     rw [cF2 G G] at hv
     rw [<-Nat.add_assoc,cF2 G G]
     exact hv
    ·rw [bA2 G G] at hv
     rw [bA2 G G]
     exact dJ7 _ _ hx _ _ hv
  ·cases hz
 ·rename_i hne
  have ho:=dJ7 _ _ hz _ _ hv
  rcases Nat.lt_or_ge i i0 with h|h
  ·have:i *k+k<=i0 *k:=by
    have:=Nat.mul_le_mul_right k (show i+1<=i0 by omega)
    rw [Nat.add_mul] at this;omega
   rw [bK4 G G]
   exact ho
  ·have:i0 *k+k<=i *k:=by
    have:=Nat.mul_le_mul_right k (show i0+1<=i by omega)
    rw [Nat.add_mul] at this;omega
   rw [bA2 G G]
   exact ho
theorem gB.neRow{c:Cx}{K:World->Prop}{L:List (Nat×TypeId×List Value)}{O:List Own}{X:List (World->Prop)}{w:World}(h:gB c K L O X w)(i:Nat){g sb:Nat}{T:TypeId}{cs:List Value}(hi:L[i]?=some (g,T,cs))(uG:c.row=some sb):g≠sb:=by
 have h1:=(h.b _ (fZ9 hi)).1
 have h2:=h.rs sb uG
 have h3:c.w0.heap.size<=g:=h1
 omega
theorem jP{xs:List Int}{v lo hi:Int}(h:v∈xs)(hb:∀x∈xs,lo<=x/\x<=hi):lo<=v/\v<=hi:=hb v h
theorem kX{xs:List M}{v:M}(hv:v∈xs)(h:∀x∈xs,x.size<=100):v.size<=100:=h v hv
section
variable {P:Program} {c:Cx} {fL:Array Oper} {Q:Exit->Act->World->Prop} {rest:List Oper} {S:List (Nat×Value)} {K:World->Prop} {L:List (Nat×TypeId×List Value)} {O:List Own} {X:List (World->Prop)}
variable {nn:Nat} {Z:World->Prop} {d:Nat} {ty:TypeId} {pos:String} {aft:Array Edge}
theorem cU{x:Operand}{a:Addr}(hx:rd S x=some (.pointer (some a))):OV P nn S Z ⟨some d,.nilCheck x,ty,pos,aft,none⟩ (.pointer (some a)):=fun a w ha hm=>by
 simp [execOp,ha.eval hx]
theorem bE7{α:Type}(enc:α->List Value)(k:Nat)(hk:∀x,(enc x).length=k){x':α}{r:Nat}{v:Value}:∀{l:List α} {j:Nat} {x:α},l[j]?=some x->(enc x).set r v=enc x'->r < k->(l.flatMap enc).set (j *k+r) v=(l.set j x').flatMap enc
 | [],j,x,h,_,_=>by simp at h
 |y::t,0,x,h,he,hr=>by
  simp at h;subst h
  rw [Nat.zero_mul,Nat.zero_add,List.flatMap_cons,List.set_cons_zero,List.flatMap_cons,List.set_append_left _ _ (by rw [hk];exact hr),he]
 |y::t,j+1,x,h,he,hr=>by
  have ih:=bE7 enc k hk (l:=t) (j:=j) (by simpa using h) he hr
  rw [List.flatMap_cons,List.set_cons_succ,List.flatMap_cons,List.set_append_right _ _ (by rw [hk,Nat.add_mul];omega),hk]
  rw [show (j+1) *k+r - k=j *k+r by rw [Nat.add_mul];omega,ih]
theorem jG{α:Type}{enc:α->List Value}{t:TypeId}{x y:Operand}{g n eX sz o j r:Nat}{e:TypeId}{v:Value}{l:List α}{el el':α}(i:Nat)(hs:gQ P t=true)(hx:rd S x=some (.pointer (some ⟨g,o,none⟩)))(hy:rd S y=some v)(h1:v.oneCell'=true)(hO:O[i]?=some ⟨H (some ⟨g,0,none⟩) n eX,e,sz,n,l.flatMap enc⟩)
 (hk:∀x,(enc x).length=sz) (ho:0+j *sz+r=o) (hj:l[j]?=some el) (hl:l.length=n) (hr:r < sz) (he:(enc el).set r v=enc el') (hT:c.Tt.contains e=false)
 (h:WL P c fL Q rest S K L (vH ⟨H (some ⟨g,0,none⟩) n eX,e,sz,n,(l.set j el').flatMap enc⟩ O i) X):WL P c fL Q (⟨none,.store t x y,ty,pos,aft,none⟩::rest) S K L O X:=by
 intro a w ha hm
 refine wpList_plain D fun K' hK=>?_
 have hown:=hm.ownI i hO
 have hjl:=(List.getElem?_eq_some_iff.1 hj).1
 have hlt:j *sz+r < n *sz:=by
  have:(j+1) *sz<=n *sz:=Nat.mul_le_mul_right sz G
  rw [Nat.add_mul] at this
  omega
 have ho':o=j *sz+r:=G
 obtain ⟨u,hu⟩:∃u,(l.flatMap enc)[o]?=some u:=⟨_,fY9 (by rw [hown.1];omega)⟩
 have hc:w.cell? ⟨g,o,none⟩=some u:=by rw [hown.cellAt o G];exact hu
 have hst:(store ⟨g,o,none⟩ v).run P w= .ok () (w.setCell ⟨g,o,none⟩ v):=by
  rw [run_store P w _ _ _ h1]
  simp [hc,hown.frozenAt]
 have hv1:v.cells=#[v]:=by cases v <;> simp_all [Value.cells,Value.oneCell']
 unfold Oper.wp
 have:(execOp a.eval ⟨none,.store t x y,ty,pos,aft,none⟩).run P w= .ok .skip (w.setCell ⟨g,o,none⟩ v):=by
  simp only [execOp,ha.eval hx,ha.eval hy,Instr.storeAt,Instr.sureAddr,storeVar,hv1]
  simp [(bA0 hs w).2,storeCells,rZ,hst]
 rw [this]
 have hs2:=hown.stored o v
 rw [ho',bE7 enc sz hk hj he hr,<-ho'] at hs2
 exact hK _ _ (h _ _ ⟨ha.size,ha.val,ha.df⟩ (hm.append hO hT hs2.1 hs2.2 (.inl D)))
end
theorem rG{w:World}{base:Nat}{e:TypeId}{sz n:Nat}{A:Option Addr}{cc:Nat}{xs:List Value}(h:w.ownsRow base e sz (H A n cc) n xs)(hn:0 < n):∃g,A=some ⟨g,0,none⟩:=by
 rcases h.2 with ⟨_,h0⟩|⟨g,eX,uY,h1,_⟩
 ·omega
 ·injection h1 with h1 _ _
  exact ⟨g,h1⟩
def RowIn(w:World)(a:Option Addr)(len eX:Nat)(zs:List Int):Prop:=
 (a=none/\len=0/\eX=0/\zs= [])∨
 ∃x,a=some x/\len<=eX/\eX<=maxLen/\zs.length=eX/\(∀i,i < zs.length->w.cell? (x.add i)=some (J (zs.getD i 0)))/\∀n∈zs,(Lit.int .i64 n).wf=true
theorem eD4{n:Int}(h:(Lit.int .i64 n).wf=true): -9223372036854775808<=n/\n<=9223372036854775807:=by
 simp [Lit.wf,IntKind.min,IntKind.max,IntKind.signed,IntKind.bits] at h
 omega
theorem fQ.start{TS:TypeId}{w:World}{A:Option Addr}{n c:Nat}{zs:List Int}(h:RowIn w A n c zs):
 fQ TS (w.alloc (.cells #[H A n c,J 0] TS)) w.heap.size w.heap.size 0:=by
 refine ⟨Nat.le_refl _,A,n,c,0,heap_alloc_new w _,Int.le_refl _,Int.le_refl _,?_,fun hn=>?_⟩
 ·rcases h with ⟨_,rfl,_⟩|⟨x,_,h1,h2,_⟩
  ·omega
  ·unfold maxLen at h2;omega
 ·rcases h with ⟨_,rfl,_⟩|⟨x,rfl,h1,h2,h3,h4,h5⟩
  ·omega
  ·have h0:=h4 0 G
   have hx:x.spot=none:=by
    have:x.add 0=x:=rfl
    rw [this] at h0
    unfold World.cell? at h0
    split at h0
    ·cases hs:x.spot with
     |none=>rfl
     |some y=>rw [hs] at h0;simp at h0
    ·cases h0
   obtain ⟨b,off,sp⟩:=x
   subst hx
   refine ⟨b,off,D,World.block_lt_of_cell? w _ h0,fun i hi=>?_⟩
   have hz:=h4 i G
   have hm:zs.getD i 0∈zs:=by
    rw [List.getD_eq_getElem?_getD,fY9 G]
    exact List.getElem_mem _
   have hr:=eD4 (h5 _ hm)
   refine ⟨zs.getD i 0,hr.1,hr.2,?_⟩
   have ha:(⟨b,off,none⟩:Addr).add i=⟨b,off+i,none⟩:=by
    unfold Addr.add
    split
    ·rename_i h;subst h;rfl
    ·rfl
   rw [ha] at hz
   exact (World.cell?_of_block (Below.heap_alloc w _ b (World.block_lt_of_cell? w _ h0))).trans hz
theorem fQ.ofBlk{TS:TypeId}{w w1:World}{A:Option Addr}{n c sb:Nat}{zs:List Int}(h:RowIn w A n c zs)(hg:w.grownBy w1 none)(hb:Blk w1 sb TS [H A n c,J 0])(hsb:w.heap.size<=sb):fQ TS w1 w.heap.size sb 0:=by
 obtain ⟨_,A',n',c',k,hh,h0,h1,h2,h3⟩:=fQ.start (TS:=TS) h
 rw [heap_alloc_new] at hh
 simp only [Option.some.injEq,Obj.cells.injEq,Array.mk.injEq,List.cons.injEq,Value.slice.injEq,Value.int.injEq,true_and,and_true] at hh
 obtain ⟨⟨rfl,rfl,rfl⟩,rfl⟩:=hh
 refine ⟨hsb,A,n,c,0,hb,Int.le_refl _,Int.le_refl _,h2,fun hn=>?_⟩
 obtain ⟨b,off,e,hbB,hc⟩:=h3 hn
 refine ⟨b,off,e,hbB,fun i hi=>?_⟩
 obtain ⟨z,z1,z2,hz⟩:=hc i hi
 refine ⟨z,z1,z2,?_⟩
 rw [World.cell?_of_block (hg.block b hbB (by simp)),<-hz]
 exact (World.cell?_of_block (Below.heap_alloc w _ b hbB)).symm
theorem cE7{w w1 w':World}{sb:Nat}(h1:w.grownBy w1 none)(hs:w.heap.size<=sb)(hg:w1.grownBy w' (some sb)):Below w.heap.size w w':=
 cZ2 (grow_own h1 hg (fun k h=>by cases h;exact hs))
section
variable {P:Program} {fL:Array Oper} {Q:Exit->Act->World->Prop} {S:List (Nat×Value)} {K:World->Prop} {L:List (Nat×TypeId×List Value)} {O:List Own} {X:List (World->Prop)}
theorem fI2{TS:TypeId}{l:List Oper}{n:Nat}{w:World}{T0:List TypeId}{A:Option Addr}{len eX sb:Nat}{zs:List Int}(Tt:List TypeId)(h0:RowIn w A len eX zs)(i:Nat)(hi:L[i]?=some (sb,TS, [H A len eX,J 0]))
 (h:∀(w1:World) (B:Nat),w.grownBy w1 none->w.heap.size<=sb->WL P ⟨n,w1,some sb,Tt⟩ fL Q l S (fun w=>fQ TS w B sb 0) [] [] []):WL P ⟨n,w,none,T0⟩ fL Q l S K L O X:=fun a w1 ha hm=>by
 have hb:=hm.b _ (fZ9 hi)
 have hb1:w.heap.size<=sb:=hb.1
 have hS:=fQ.ofBlk h0 hm.g hb.2 hb1
 exact h w1 w.heap.size hm.g hb1 a w1 ha (bU5 hS cZ dA)
end
theorem bL0{α:Type}{cs ds:List α}{o:Nat}{vs:List α}(ho:o+vs.length<=cs.length):kI (cs++ds) o vs=kI cs o vs++ds:=by
 unfold kI
 rw [List.take_append_of_le_length G,List.drop_append_of_le_length G]
 simp [List.append_assoc]
theorem bR7{α:Type}{cs ds:List α}{o:Nat}{vs:List α}:kI (cs++ds) (cs.length+o) vs=cs++kI ds o vs:=by
 unfold kI
 rw [List.take_length_add_append,show cs.length+o+vs.length=cs.length+(o+vs.length) by omega,List.drop_length_add_append]
 simp [List.append_assoc]
theorem vZ{α:Type}(enc:α->List Value)(k:Nat)(hk:∀x,(enc x).length=k){x':α}{r:Nat}{vs:List Value}:∀{l:List α} {j:Nat} {x:α},l[j]?=some x->kI (enc x) r vs=enc x'->r+vs.length<=k->kI (l.flatMap enc) (j *k+r) vs=(l.set j x').flatMap enc
 | [],j,x,h,_,_=>by simp at h
 |y::t,0,x,h,he,hr=>by
  simp at h;subst h
  rw [Nat.zero_mul,Nat.zero_add,List.flatMap_cons,List.set_cons_zero,List.flatMap_cons,bL0 (by rw [hk];exact hr),he]
 |y::t,j+1,x,h,he,hr=>by
  have ih:=vZ enc k hk (l:=t) (j:=j) (by simpa using h) he hr
  rw [List.flatMap_cons,List.set_cons_succ,List.flatMap_cons,show (j+1) *k+r=(enc y).length+(j *k+r) by rw [hk,Nat.add_mul];omega,bR7,ih]
theorem bM0{α:Type}{cs:List α}{o m:Nat}{vs:List α}(hm:m<=cs.length)(ho:o+vs.length<=m):(kI cs o vs).take m=kI (cs.take m) o vs:=by
 have h:cs=cs.take m++cs.drop m:=(List.take_append_drop m cs).symm
 have hl:(cs.take m).length=m:=by simp;omega
 conv=>lhs;rw [h]
 rw [bL0 G]
 have h2:=yA (cs.take m) o vs G
 rw [List.take_append_of_le_length G,List.take_of_length_le G]
section
variable {P:Program} {c:Cx} {fL:Array Oper} {Q:Exit->Act->World->Prop} {rest:List Oper} {S:List (Nat×Value)} {K:World->Prop} {L:List (Nat×TypeId×List Value)} {O:List Own} {X:List (World->Prop)}
variable {ty:TypeId} {pos:String} {aft:Array Edge}
theorem dN4{α:Type}{enc:α->List Value}{t:TypeId}{x y:Operand}{g n eX sz o j r m:Nat}{e:TypeId}{vs:List Value}{l:List α}{el el':α}(i:Nat)(hs:kP P t=some m)(hx:rd S x=some (.pointer (some ⟨g,o,none⟩)))(hy:rd S y=some (.agg vs.toArray))(h1:vs.all (·.oneCell')=true)(hn:vs.length=m)
 (hO:O[i]?=some ⟨H (some ⟨g,0,none⟩) n eX,e,sz,n,l.flatMap enc⟩)
 (hk:∀x,(enc x).length=sz) (ho:0+j *sz+r=o) (hj:l[j]?=some el) (hl:l.length=n) (hr:r+m<=sz) (he:kI (enc el) r vs=enc el') (hT:c.Tt.contains e=false)
 (h:WL P c fL Q rest S K L (vH ⟨H (some ⟨g,0,none⟩) n eX,e,sz,n,(l.set j el').flatMap enc⟩ O i) X):WL P c fL Q (⟨none,.store t x y,ty,pos,aft,none⟩::rest) S K L O X:=by
 intro a w ha hm
 have hown:=hm.ownI i hO
 have hjl:=(List.getElem?_eq_some_iff.1 hj).1
 have hlt:o+m<=n *sz:=by
  have:(j+1) *sz<=n *sz:=Nat.mul_le_mul_right sz G
  rw [Nat.add_mul] at this
  omega
 obtain ⟨dd,hu,_,hi⟩:=zZ hs
 rcases hown.2 with ⟨h',_⟩|⟨g',cap',uY,h',hb,hg,hnc,hcm,hcs,htake⟩
 ·simp at h'
 ·simp only [Value.slice.injEq,Option.some.injEq,Addr.mk.injEq,and_true,true_and] at h'
  obtain ⟨rfl,rfl⟩:=h'
  have hbk:Blk w g e uY.toList:=by unfold Blk;rw [Array.toArray_toList];exact hg
  have hcl:n *sz<=uY.toList.length:=by
   have:=Nat.mul_le_mul_right sz hnc
   simp [hcs];exact this
  refine wpList_store_blk D t x y D g o e uY.toList vs hbk (ha.eval hx) (ha.eval hy) m hi hn G (by simpa using h1) fun w' hb' hgr=>?_
  have hsl:=yA uY.toList o vs G
  have hfl:=bC5 enc sz hk (l.set j el')
  rw [List.length_set,hl] at hfl
  refine h _ _ ⟨ha.size,ha.val,ha.df⟩ (hm.append hO hT ⟨hfl,.inr ⟨g,eX,(kI uY.toList o vs).toArray,D,hb,hb',hnc,hcm,by simpa [hsl] using hcs,?_⟩⟩ hgr (.inl D))
  rw [List.toList_toArray,bM0 hcl G,htake,<-ho,Nat.zero_add,vZ enc sz hk hj he G]
section
variable {d nn:Nat} {Z:World->Prop}
theorem cO2{o:Oper}{j:Nat}{b:Bool}{t:Nat}{op:Op}(ho:o=⟨some d,op,ty,pos,aft,some (j,b)⟩)(hj:(fL[j]?).bind (·.dst)=some t)(hb:look S t=some undef)(hd:Nat.ble (d+1) c.n=true)(h:WL P c fL Q rest ((d,undef)::S) K L O X):WL P c fL Q (o::rest) S K L O X:=by
 subst ho
 intro a w ha hm
 unfold wpList
 have hy:yielded fL a.tmps j=none:=by
  unfold yielded
  rw [hj]
  simp [ha.val t _ hb,undef]
 rw [if_neg (by simp [Region.wanted,hy])]
 exact h _ _ (ha.put hd _) hm
theorem cR3{Z:World->Prop}{op:Op}{fuel:Nat}{eI listed':Array Bool}{j t:Nat}{b:Bool}(i:Nat)(hi:fL[i]?=some ⟨some d,op,ty,pos,aft,some (j,b)⟩)(hj:(fL[j]?).bind (·.dst)=some t)(hb:look S t=some undef)(hs:Region.noSelect fL=true)(hf:Region.free .any fL eI i=true)(hr:(Region.ready .any fL eI).contains i=true)(hl:eI.setIfInBounds i true=listed')
 (hQ:∀cc a w,Q (.panic cc) (a.put (some d) undef) w->Q (.panic cc) a w) (hZ:∀w,gB c K L O X w->Z w) (hd:Nat.ble (d+1) c.n=true) (h:WA P c fL Q Z fuel listed' ((d,undef)::S) K L O X):WA P c fL Q Z (fuel+1) eI S K L O X:=by
 intro a w ha hm
 subst hl
 have hy:yielded fL a.tmps j=none:=by
  unfold yielded
  rw [hj]
  simp [ha.val t _ hb,undef]
 exact wpAnyH_take hi hs hf hr hQ (.inr ⟨by simp [Region.wanted,hy],rfl⟩) (hZ w hm) (h _ _ (ha.put hd undef) hm)
end
theorem qX{γ:Type}{f:FuncId}{x:Operand}{ags:List Operand}{ats:Array TypeId}{vs fs cs:List Value}{d:Nat}{val:γ->Value}{φ:γ->Prop}(r:γ->Own)(hx:rd S x=some (.func (.func f) fs.toArray cs.toArray))(hf:cF P f=true)(ha:rB S ags=some vs)(hd:Nat.ble (d+1) c.n=true)
 (hC:∀w,gB c K L O X w->Calls P f (fs++vs++cs).toArray w (fun e w'=>∃g,e=.returned (val g)/\φ g/\w'.ownsRow w.heap.size (r g).e (r g).sz (r g).v (r g).n (r g).xs/\w.grownBy w' none)) (h:∀g,φ g->WL P c fL Q rest ((d,val g)::S) K L (r g::O) X):
 WL P c fL Q (⟨some d,.call ⟨.value x,ags.toArray,ats⟩,ty,pos,aft,none⟩::rest) S K L O X:=
 fW (γ:=γ) (val:=val) (φ:=φ) (K':=fun _=>K) (L':=fun _=>L) (O':=fun g=>r g::O) (X':=fun _=>X) hx hf ha hd (fun w hm=>(hC w hm).mono fun _ _ ⟨g,he,hφ,ho,hg⟩=>⟨g,he,hφ,hm.newOwn hg ho⟩) h
end
section
variable {P:Program} {c:Cx} {fL:Array Oper} {Q:Exit->Act->World->Prop} {rest:List Oper} {S:List (Nat×Value)} {K:World->Prop} {L:List (Nat×TypeId×List Value)} {O:List Own} {X:List (World->Prop)} {Z:World->Prop}
variable {d:Nat} {ty:TypeId} {pos:String} {aft:Array Edge}
theorem bS{x:Operand}{v:Value}(hx:rd S x=some v)(h:WL P c fL Q rest ((d,v)::S) K L O X)(hd:Nat.ble (d+1) c.n=true:=by exact rfl):WL P c fL Q (⟨some d,.move x,ty,pos,aft,none⟩::rest) S K L O X:=W (bL hx) hd h
theorem cG{x:Operand}{v:Value}(hx:rd S x=some v)(h:WL P c fL Q rest ((d,v)::S) K L O X)(hd:Nat.ble (d+1) c.n=true:=by exact rfl):WL P c fL Q (⟨some d,.assign x,ty,pos,aft,none⟩::rest) S K L O X:=W (dB hx) hd h
theorem mS{x y z:Operand}{v:Value}(hx:rd S x=some (.bool true))(hy:rd S y=some v)(h:WL P c fL Q rest ((d,v)::S) K L O X)(hd:Nat.ble (d+1) c.n=true:=by exact rfl):WL P c fL Q (⟨some d,.pick x y z,ty,pos,aft,none⟩::rest) S K L O X:=W (fG hx hy) hd h
theorem nV{x y z:Operand}{v:Value}(hx:rd S x=some (.bool false))(hz:rd S z=some v)(h:WL P c fL Q rest ((d,v)::S) K L O X)(hd:Nat.ble (d+1) c.n=true:=by exact rfl):WL P c fL Q (⟨some d,.pick x y z,ty,pos,aft,none⟩::rest) S K L O X:=W (eZ hx hz) hd h
theorem dZ{t:TypeId}{x:Operand}{i off g o o':Nat}(hf:dJ P t i=some off)(hx:rd S x=some (.pointer (some ⟨g,o,none⟩)))(ho:o+off=o')(h:WL P c fL Q rest ((d,.pointer (some ⟨g,o',none⟩))::S) K L O X)(hd:Nat.ble (d+1) c.n=true:=by exact rfl):WL P c fL Q (⟨some d,.fieldAddr t x i,ty,pos,aft,none⟩::rest) S K L O X:=W (bW hf hx ho) hd h
theorem fY{t t':TypeId}{x y:Operand}{m n:Int}(hx:rd S x=some (J m))(hy:rd S y=some (J n))(h:WL P c fL Q rest ((d,J (m+n))::S) K L O X)(h0: -9223372036854775808<=m+n:=by omega)(h1:m+n<=9223372036854775807:=by omega)(hd:Nat.ble (d+1) c.n=true:=by exact rfl):WL P c fL Q (⟨some d,.binOp .add t x y t',ty,pos,aft,none⟩::rest) S K L O X:=W (ov_add hx hy h0 h1) hd h
theorem eO{t:TypeId}{x:Operand}{g o:Nat}{v:Value}{T:TypeId}{cs:List Value}(hs:gQ P t=true)(i:Nat)(hx:rd S x=some (.pointer (some ⟨g,o,none⟩)))(hi:L[i]?=some (g,T,cs))(hv:cs[o]?=some v)(h:WL P c fL Q rest ((d,v)::S) K L O X)(hd:Nat.ble (d+1) c.n=true:=by exact rfl):WL P c fL Q (⟨some d,.load t x,ty,pos,aft,none⟩::rest) S K L O X:=W (cH hs hx (fun _ hm=>hm.blkI i hi) hv) hd h
theorem gB.fa{w:World}{A:World->Prop}(h:gB c K L O X w)(i:Nat)(hi:X[i]?=some A:=by exact rfl):A w:=h.fact i hi
theorem gB.bl{w:World}{g:Nat}{T:TypeId}{cs:List Value}(h:gB c K L O X w)(i:Nat)(hi:L[i]?=some (g,T,cs):=by exact rfl):Blk w g T cs:=h.blkI i hi
theorem bU{y:Code}(h:Gw P c Q y S K L O X):WL P c fL (Exit.then (y.wp P Q) Q) [] S K L O X:=bH (bG h)
theorem bX{y:Code}{id:Nat}{l:List Oper}(h:WL P c l.toArray (Exit.then (y.wp P Q) Q) l S K L O X):Gw P c Q (.seq (.region id l.toArray false) y) S K L O X:=bJ (bM h)
theorem mT{x:Operand}{y z:Code}(hx:rd S x=some (.bool true))(h:Gw P c Q y S K L O X):Gw P c Q (.cond x y z) S K L O X:=dE hx (fun _=>h) (fun hh=>by cases hh)
theorem jK{x:Operand}{y z:Code}(hx:rd S x=some (.bool false))(h:Gw P c Q z S K L O X):Gw P c Q (.cond x y z) S K L O X:=dE hx (fun hh=>by cases hh) (fun _=>h)
theorem dL2{o:Oper}{j:Nat}{b b':Bool}{t:Nat}{op:Op}(ho:o=⟨some d,op,ty,pos,aft,some (j,b)⟩)(hj:(fL[j]?).bind (·.dst)=some t)(hb:look S t=some (.bool b'))(h:WL P c fL Q rest ((d,undef)::S) K L O X)(hne:b'≠b:=by decide)(hd:Nat.ble (d+1) c.n=true:=by exact rfl):WL P c fL Q (o::rest) S K L O X:=bN6 ho hj hb hne hd h
theorem gnd{o:Oper}{j:Nat}{b:Bool}{t:Nat}{op:Op}(ho:o=⟨some d,op,ty,pos,aft,some (j,b)⟩)(hj:(fL[j]?).bind (·.dst)=some t)(hb:look S t=some undef)(h:WL P c fL Q rest ((d,undef)::S) K L O X)(hd:Nat.ble (d+1) c.n=true:=by exact rfl):WL P c fL Q (o::rest) S K L O X:=cO2 ho hj hb hd h
theorem wq{op:Op}{v:Value}{fuel:Nat}{eI:Array Bool}{Z:World->Prop}(i:Nat)(hi:fL[i]?=some ⟨some d,op,ty,pos,aft,none⟩)(ho:OV P c.n S Z ⟨some d,op,ty,pos,aft,none⟩ v)(h:WA P c fL Q Z fuel (eI.setIfInBounds i true) ((d,v)::S) K L O X)(hZ:∀w,gB c K L O X w->Z w:=by assumption)(hk:tk fL eI i (eI.setIfInBounds i true)=true:=by kernel_rfl)(hQ:∀cc a w,Q (.panic cc) (a.put (some d) v) w->Q (.panic cc) a w:=by exact fun _ _ _ h=>h)(hd:Nat.ble (d+1) c.n=true:=by exact rfl):WA P c fL Q Z (fuel+1) eI S K L O X:=
 have ⟨h1,h2,h3,h4⟩:=cU7 hk
 eB8 i hi h1 h2 h3 h4 hQ hZ ho hd h
theorem eU{op:Op}{v:Value}{fuel:Nat}{eI:Array Bool}{Z:World->Prop}{j t:Nat}{b:Bool}(i:Nat)(hi:fL[i]?=some ⟨some d,op,ty,pos,aft,some (j,b)⟩)(ho:OV P c.n S Z ⟨some d,op,ty,pos,aft,none⟩ v)(h:WA P c fL Q Z fuel (eI.setIfInBounds i true) ((d,v)::S) K L O X)(hj:(fL[j]?).bind (·.dst)=some t:=by exact rfl)(hb:look S t=some (.bool b):=by exact rfl)(hZ:∀w,gB c K L O X w->Z w:=by assumption)(hk:tk fL eI i (eI.setIfInBounds i true)=true:=by kernel_rfl)(hQ:∀cc a w,Q (.panic cc) (a.put (some d) v) w->Q (.panic cc) a w:=by exact fun _ _ _ h=>h)(hd:Nat.ble (d+1) c.n=true:=by exact rfl):WA P c fL Q Z (fuel+1) eI S K L O X:=
 have ⟨h1,h2,h3,h4⟩:=cU7 hk
 dK4 i hi hj hb h1 h2 h3 h4 hQ hZ ho hd h
theorem eL{op:Op}{fuel:Nat}{eI:Array Bool}{Z:World->Prop}{j t:Nat}{b b':Bool}(i:Nat)(hi:fL[i]?=some ⟨some d,op,ty,pos,aft,some (j,b)⟩)(h:WA P c fL Q Z fuel (eI.setIfInBounds i true) ((d,undef)::S) K L O X)(hj:(fL[j]?).bind (·.dst)=some t:=by exact rfl)(hb:look S t=some (.bool b'):=by exact rfl)(hne:b'≠b:=by decide)(hZ:∀w,gB c K L O X w->Z w:=by assumption)(hk:tk fL eI i (eI.setIfInBounds i true)=true:=by kernel_rfl)(hQ:∀cc a w,Q (.panic cc) (a.put (some d) undef) w->Q (.panic cc) a w:=by exact fun _ _ _ h=>h)(hd:Nat.ble (d+1) c.n=true:=by exact rfl):WA P c fL Q Z (fuel+1) eI S K L O X:=
 have ⟨h1,h2,h3,h4⟩:=cU7 hk
 dB1 i hi hj hb hne h1 h2 h3 h4 hQ hZ hd h
theorem rY{op:Op}{fuel:Nat}{eI:Array Bool}{Z:World->Prop}{j t:Nat}{b:Bool}(i:Nat)(hi:fL[i]?=some ⟨some d,op,ty,pos,aft,some (j,b)⟩)(h:WA P c fL Q Z fuel (eI.setIfInBounds i true) ((d,undef)::S) K L O X)(hj:(fL[j]?).bind (·.dst)=some t:=by exact rfl)(hb:look S t=some undef:=by exact rfl)(hZ:∀w,gB c K L O X w->Z w:=by assumption)(hk:tk fL eI i (eI.setIfInBounds i true)=true:=by kernel_rfl)(hQ:∀cc a w,Q (.panic cc) (a.put (some d) undef) w->Q (.panic cc) a w:=by exact fun _ _ _ h=>h)(hd:Nat.ble (d+1) c.n=true:=by exact rfl):WA P c fL Q Z (fuel+1) eI S K L O X:=
 have ⟨h1,h2,h3,h4⟩:=cU7 hk
 cR3 i hi hj hb h1 h2 h3 h4 hQ hZ hd h
theorem gY{fuel:Nat}{eI:Array Bool}(h:Nx c Q .normal S K L O X)(hr:Region.ready .any fL eI= []:=by kernel_rfl):WA P c fL Q Z fuel eI S K L O X:=eZ7 hr h
theorem jN{t:TypeId}{len:Nat}{ps:List (Nat×Operand)}{l:List (Nat×Value)}(e:TypeId)(cs:List Value)(h:∀g,WL P c fL Q rest ((d,H (some ⟨g,0,none⟩) len len)::S) K ((g,e,cs)::L) O X)(hp:yZ S ps=some l:=by exact rfl)(hb:cE0 P t len l=some (e,cs):=by kernel_rfl)(hd:Nat.ble (d+1) c.n=true:=by exact rfl):WL P c fL Q (⟨some d,.buildSlice t len ps.toArray,ty,pos,aft,none⟩::rest) S K L O X:=cS3 hp hb hd h
theorem kE{t:TypeId}{x y:Operand}{g o n:Nat}{vs:List Value}(i:Nat){T:TypeId}{cs cs':List Value}(hs:kP P t=some n)(hx:rd S x=some (.pointer (some ⟨g,o,none⟩)))(hy:rd S y=some (.agg vs.toArray))(hL:L[i]?=some (g,T,cs))(hcs:kI cs o vs=cs')(h:WL P c fL Q rest S K (bB0 g cs' L i) O X)(h1:vs.all (·.oneCell')=true:=by exact rfl)(hn:vs.length=n:=by exact rfl)(ho:Nat.ble (o+n) cs.length=true:=by exact rfl)(hT:c.Tt.contains T=false:=by exact rfl):WL P c fL Q (⟨none,.store t x y,ty,pos,aft,none⟩::rest) S K L O X:=dO9 i hs hx hy h1 hn hL ho hT hcs h
theorem eE{o:Oper}{j:Nat}{b b':Bool}{t:Nat}{op:Op}(ho:o=⟨some d,op,ty,pos,aft,some (j,b)⟩)(h:WL P c fL Q rest ((d,undef)::S) K L O X)(hj:(fL[j]?).bind (·.dst)=some t:=by exact rfl)(hb:look S t=some (.bool b'):=by exact rfl)(hne:b'≠b:=by decide)(hd:Nat.ble (d+1) c.n=true:=by exact rfl):WL P c fL Q (o::rest) S K L O X:=bN6 ho hj hb hne hd h
theorem eN{o:Oper}{j:Nat}{b:Bool}{t:Nat}{op:Op}{dst:Option Nat}(ho:o=⟨dst,op,ty,pos,aft,some (j,b)⟩)(h:WL P c fL Q (⟨dst,op,ty,pos,aft,none⟩::rest) S K L O X)(hj:(fL[j]?).bind (·.dst)=some t:=by exact rfl)(hb:look S t=some (.bool b):=by exact rfl):WL P c fL Q (o::rest) S K L O X:=dI1 ho hj hb h
end
section
variable {P:Program} {c:Cx} {fL:Array Oper} {Q:Exit->Act->World->Prop} {rest:List Oper} {S:List (Nat×Value)} {K:World->Prop} {L:List (Nat×TypeId×List Value)} {O:List Own} {X:List (World->Prop)}
variable {d:Nat} {ty:TypeId} {pos:String} {aft:Array Edge}
theorem gP{t e:TypeId}{z:Value}{sz by_ n:Nat}{x y:Operand}{xs:List Value}{vx vy:Int}(ht:P.underlying t=some (.slice e))(hi:(P.info? e).map (fun i=>(i.zero,i.size,i.bytes))=some (some z,sz,by_))(hx:rd S x=some (J vx))(hy:rd S y=some (J vy))(hvx:vx=(n:Int))(hvy:vy=(n:Int))(hb:by_ *n<=281474976710656)(h63:n<=maxLen)(hxs:(madeCells z.cells (n *sz)).toList=xs)(hd:Nat.ble (d+1) c.n=true)
 (h:∀g,WL P c fL Q rest ((d,H (some ⟨g,0,none⟩) n n)::S) K L (⟨H (some ⟨g,0,none⟩) n n,e,sz,n,xs⟩::O) X):WL P c fL Q (⟨some d,.makeSlice t x y,ty,pos,aft,none⟩::rest) S K L O X:=by
 intro a w ha hm
 obtain ⟨i,hi',hzz⟩:=Option.map_eq_some_iff.1 hi
 simp only [Prod.mk.injEq] at hzz
 obtain ⟨hz1,hs,hb1⟩:=hzz
 refine wpList_make_full w D x y t D w.heap.size e i z sz ht hi' hz1 hs .i64 .i64 vx vy n (ha.eval hx) (ha.eval hy) hvx hvy (by rw [hb1];exact hb) h63 (Nat.le_refl _) fun w' ho hg=>?_
 rw [hxs] at ho
 exact h _ _ _ (ha.put hd _) (hm.newOwn hg ho)
end
theorem eO6{c:Cx}{Q:Exit->Act->World->Prop}{S:List (Nat×Value)}{K:World->Prop}{L:List (Nat×TypeId×List Value)}{O:List Own}{X:List (World->Prop)}{e:Exit}{R:Prop}(hr:∀w,gB c K L O X w->R)(h:R->Nx c Q e S K L O X):Nx c Q e S K L O X:=fun a w ha hm=>h (hr w hm) a w ha hm
theorem gB.rowOf{c:Cx}{K:World->Prop}{L:List (Nat×TypeId×List Value)}{O:List Own}{X:List (World->Prop)}{w:World}(h:gB c K L O X w)(i:Nat){g:Nat}{T:TypeId}{cs:List Value}(hi:L[i]?=some (g,T,cs)){n sz:Nat}(hcs:cs.length=n *sz)(hn:n<=maxLen):w.ownsRow c.w0.heap.size T sz (H (some ⟨g,0,none⟩) n n) n cs:=by
 have hb:=h.b _ (fZ9 hi)
 refine ⟨hcs,.inr ⟨g,n,cs.toArray,D,hb.1,hb.2,Nat.le_refl _,hn,by simpa using hcs,?_⟩⟩
 simp [<-hcs]
section
variable {P:Program} {nn:Nat} {S:List (Nat×Value)} {Z:World->Prop} {d:Nat} {ty:TypeId} {pos:String} {aft:Array Edge}
theorem pL{f:FuncId}{fs cs:List Operand}{vf vc:List Value}(hf:rB S fs=some vf)(hc:rB S cs=some vc):OV P nn S Z ⟨some d,.makeFunc (.func f) fs.toArray cs.toArray,ty,pos,aft,none⟩ (.func (.func f) vf.toArray vc.toArray):=fun a w ha hm=>by
 have e1:=ha.args hf
 have e2:=ha.args hc
 simp [execOp,e1,e2,Instr.makeFunc]
end
def eC(N:Nat)(row:Option Nat)(g:Nat)(T:TypeId)(cs:List Value)(w:World):Prop:=(g < N/\row≠some g)/\Blk w g T cs
theorem eC.lasts{N g:Nat}{row:Option Nat}{Tt:List TypeId}{T:TypeId}{cs:List Value}:Lasts2 N row Tt (eC N row g T cs):=
 ⟨fun _ _ h ⟨h1,h2⟩=>⟨h1,h2.grown h (by simp)⟩,fun _ _ r _ _ _ _ h3 h4 ⟨h1,h2⟩=>⟨h1,h2.grown h4 (fun e=>by
  cases e
  rcases h3 with h3|h3
  ·omega
  ·exact h1.2 h3)⟩⟩
theorem Blk.old{w:World}{g:Nat}{T:TypeId}{cs:List Value}(h:Blk w g T cs):eC w.heap.size none g T cs w:=⟨⟨h.lt,by simp⟩,h⟩
section
variable {P:Program} {nn:Nat} {S:List (Nat×Value)} {Z:World->Prop} {d:Nat} {ty:TypeId} {pos:String} {aft:Array Edge}
theorem bY4{t e:TypeId}{sz:Nat}(h:kH P t=some (e,sz)):P.underlying t=some (.slice (P.elem t))/\∀w,(sizeOf (P.elem t)).run P w= .ok sz w:=by
 unfold kH at h
 split at h
 ·rename_i e' hu
  have he:P.elem t=e':=by simp [Program.elem,hu]
  rw [he]
  refine ⟨hu,fun w=>?_⟩
  cases hi:P.info? e' with
  |none=>simp [hi] at h
  |some i=>
   simp [hi] at h
   simp [sizeOf,typeInfo,hi,h.2]
 ·cases h
theorem dM3{t e:TypeId}{sz:Nat}{x y:Operand}{A:Option Addr}{n eX lo:Nat}{v:Int}(he:kH P t=some (e,sz))(hx:rd S x=some (.slice A n eX))(hy:rd S y=some (.int .i64 v))(hv:v=(lo:Int))(hlo:lo<=n):OV P nn S Z ⟨some d,.slice t x (some y) none none,ty,pos,aft,none⟩ (.slice (if eX=lo then A else A.map (·.add (lo *sz))) (n - lo) (eX - lo)):=fun a w ha hm=>by
 obtain ⟨hu,hs⟩:=bY4 he
 subst hv
 have h1:(Instr.slice t (.slice A n eX) (some (.int .i64 (lo:Int))) none none).run P w= .ok (.slice (if eX=lo then A else A.map (·.add (lo *sz))) (n - lo) (eX - lo)) w:=by
  rw [run_slice_any w t A n eX hu]
  have hb:=run_sliceBound (P:=P) w .i64 (lo:Int) n .sliceB (by omega) (by omega)
  simp [Instr.sliceBounds,hs,sliced,hb]
 simp [execOp,ha.eval hx,ha.eval hy,run_sliceAt_slice w t _ _ _ _ hu,h1]
theorem qN{t e:TypeId}{sz:Nat}{x y:Operand}{b off:Nat}{n eX hi:Nat}{v:Int}(he:kH P t=some (e,sz))(hx:rd S x=some (.slice (some ⟨b,off,none⟩) n eX))(hy:rd S y=some (.int .i64 v))(hv:v=(hi:Int))(hhi:hi<=eX):OV P nn S Z ⟨some d,.slice t x none (some y) none,ty,pos,aft,none⟩ (.slice (some ⟨b,off,none⟩) hi eX):=fun a w ha hm=>by
 obtain ⟨hu,hs⟩:=bY4 he
 subst hv
 have h1:(Instr.slice t (.slice (some ⟨b,off,none⟩) n eX) none (some (.int .i64 (hi:Int))) none).run P w= .ok (.slice (some ⟨b,off,none⟩) hi eX) w:=by
  rw [run_slice_any w t _ n eX hu]
  have hb:=run_sliceBound (P:=P) w .i64 (hi:Int) eX .sliceAcap (by omega) (by omega)
  simp [Instr.sliceBounds,hs,sliced,hb,Addr.add]
 simp [execOp,ha.eval hx,ha.eval hy,run_sliceAt_slice w t _ _ _ _ hu,h1]
end
theorem SlT.dropS{α:Type}{enc:α->List Value}{k:Nat}{T:TypeId}{w:World}{A:Option Addr}{n c:Nat}{l:List α}(h:SlT enc k T w A n l)(lo:Nat)(hlo:lo<=n)(hc:n<=c):SlT enc k T w (if c=lo then A else A.map (·.add (lo *k))) (n - lo) (l.drop lo):=by
 refine ⟨by rw [List.length_drop,h.len],fun hn=>?_⟩
 obtain ⟨b,off,cells,fz,rfl,hh,hr⟩:=h.at_ G
 refine ⟨b,off+lo *k,cells,fz,?_,hh,fun i x hx j v hv=>?_⟩
 ·rw [if_neg G]
  simp only [Option.map_some,Option.some.injEq]
  unfold Addr.add
  split
  ·rename_i h0;rw [h0,Nat.add_zero]
  ·rfl
 ·rw [List.getElem?_drop] at hx
  have:=hr (lo+i) x hx j v hv
  rw [Nat.add_mul] at this
  rw [show off+lo *k+i *k+j=off+(lo *k+i *k)+j by omega]
  exact this
section
variable {P:Program} {c:Cx} {fL:Array Oper} {Q:Exit->Act->World->Prop} {S:List (Nat×Value)} {K:World->Prop} {L:List (Nat×TypeId×List Value)} {O:List Own} {X:List (World->Prop)}
theorem bY9{l:List Oper}{Y:World->Prop}(hl:Lasts2 c.w0.heap.size c.row c.Tt Y)(hy:∀w,gB c K L O X w->Y w)(h:WL P c fL Q l S K L O (Y::X)):WL P c fL Q l S K L O X:=fun a w ha hm=>h a w ha (hm.also hl (hy w hm))
theorem eY5{code:Code}{Y:World->Prop}(hl:Lasts2 c.w0.heap.size c.row c.Tt Y)(hy:∀w,gB c K L O X w->Y w)(h:Gw P c Q code S K L O (Y::X)):Gw P c Q code S K L O X:=fun a w ha hm=>h a w ha (hm.also hl (hy w hm))
theorem jQ{e:Exit}{Y:World->Prop}(hl:Lasts2 c.w0.heap.size c.row c.Tt Y)(hy:∀w,gB c K L O X w->Y w)(h:Nx c Q e S K L O (Y::X)):Nx c Q e S K L O X:=fun a w ha hm=>h a w ha (hm.also hl (hy w hm))
end
theorem bN7{α:Type}{N:Nat}{row:Option Nat}{Tt:List TypeId}{l:List α}{Y:α->World->Prop}(h:∀x∈l,Lasts2 N row Tt (Y x)):Lasts2 N row Tt (fun w=>∀x∈l,Y x w):=
 ⟨fun w w' hg hx x hm=>(h x hm).gr w w' hg (hx x hm),fun w w' r T c h1 h2 h3 h4 hx x hm=>(h x hm).st w w' r T c h1 h2 h3 h4 (hx x hm)⟩
theorem kK{w:World}{base:Nat}{e:TypeId}{sz n:Nat}{A:Option Addr}{cc:Nat}{xs:List Value}(h:w.ownsRow base e sz (H A n cc) n xs):n<=cc:=by
 rcases h.2 with ⟨h1,h0⟩|⟨g,eX,uY,h1,_,_,h2,_⟩
 ·omega
 ·injection h1 with _ _ h3
  omega
open Go.ChangeMaps (setBlock)
def bS5(P:Program)(t:TypeId):Option (TypeId×TypeId):=
 match P.underlying t with
 |some (.map k e)=>some (k,e)
 |_=>none
theorem rO{P:Program}{t k e:TypeId}(h:bS5 P t=some (k,e)):P.underlying t=some (.map k e):=by
 unfold bS5 at h
 cases hu:P.underlying t with
 |none=>simp [hu] at h
 |some dd=>cases dd <;> simp [hu] at h <;> simp [h]
def dV0(P:Program)(t:TypeId):Bool:=
 match P.underlying t with
 |some .string=>true
 |_=>false
theorem dE6{P:Program}{t:TypeId}(h:dV0 P t=true):P.underlying t=some .string:=by
 unfold dV0 at h
 cases hu:P.underlying t with
 |none=>simp [hu] at h
 |some dd=>cases dd <;> simp [hu] at h <;> rfl
theorem bJ5{w:World}{g:Nat}{es es':Array MapEntry}{ck ck':Nat}(hb:w.heap[g]?=some (.map es ck)):w.grownBy (setBlock w g (.map es' ck')) (some g):=
 ⟨rfl,rfl,rfl,by simp [setBlock],fun i _ hi=>ChangeMaps.heap_setBlock_other hb _ (fun e=>hi (by rw [e]))⟩
section
variable {P:Program} {c:Cx} {fL:Array Oper} {Q:Exit->Act->World->Prop} {rest:List Oper} {S:List (Nat×Value)} {K:World->Prop} {L:List (Nat×TypeId×List Value)} {O:List Own} {X X':List (World->Prop)} {Z:World->Prop} {nn:Nat}
variable {d:Nat} {ty:TypeId} {pos:String} {aft:Array Edge}
theorem gB.mapped{w:World}{g:Nat}{es es':Array MapEntry}{ck ck':Nat}(h:gB c K L O X w)(hg:c.w0.heap.size<=g)(hb:w.heap[g]?=some (.map es ck))(hX:∀A∈X',A (setBlock w g (.map es' ck'))/\Lasts2 c.w0.heap.size c.row c.Tt A):gB c K L O X' (setBlock w g (.map es' ck')):=by
 have hgr:w.grownBy (setBlock w g (.map es' ck')) (some g):=bJ5 hb
 have hne:∀(k:Nat) (cs:Array Value) (T:TypeId) (fz:Nat×Nat),w.heap[k]?=some (.cells cs T fz)->k≠g:=fun k cs T fz hk e=>by
  subst e
  rw [hb] at hk;cases hk
 refine ⟨grow_own h.g hgr (fun k e=>by cases e;exact hg),h.kk.st _ _ _ hg hgr h.k,fun x hx=>⟨(h.b x hx).1,(h.b x hx).2.grown hgr (fun e=>hne _ _ _ _ (h.b x hx).2 (Option.some.inj e))⟩,h.nd,fun s hs=>?_,h.od,h.oo,fun A hA=>(hX A hA).1,h.kk,fun A hA=>(hX A hA).2,h.rs⟩
 refine (h.o s hs).kept hgr ?_
 cases hv:s.v.ownBlock with
 |none=>exact .inl rfl
 |some k=>
  refine .inr (fun e=>?_)
  have e2:k=g:=by injection e
  rcases (h.o s hs).2 with ⟨hn,_⟩|⟨g',eX,uY,hn,_,hh,_⟩
  ·rw [hn] at hv;cases hv
  ·rw [hn] at hv
   have e3:g'=k:=by injection hv
   exact hne _ _ _ _ hh (e3.trans e2)
theorem dY6{k:TypeId}(hk:dV0 P k=true)(b:Bool)(s:M)(w:World):(Instr.checkKey b 10000 k (U s)).run P w= .ok () w:=by
 rw [show (10000:Nat)=9999+1 from rfl]
 unfold Instr.checkKey
 simp [run_underlying (dE6 hk)]
theorem cF9{k:TypeId}(hk:dV0 P k=true){s:ByteArray}{es:List MapEntry}{r:Option (Nat×Value)}(hf:Instr.findNow .string (.string s) es 0=some r)(w:World):(Instr.findKey k (.string s) es).run P w= .ok r w:=by
 simp [Instr.findKey,run_underlying (dE6 hk),hf]
end
open Go.RowKit Go.MapKept
open Go.ChangeMaps (setBlock)
theorem bX6{a b:M}(h:a.toList=b.toList):a=b:=by
 rw [ByteArray.toList_eq,ByteArray.toList_eq] at h
 cases a;cases b
 simp only at h
 exact congrArg ByteArray.mk (Array.toList_inj.1 h)
theorem cW3{a b:M}:(a.toList==b.toList)=true↔a=b:=
 ⟨fun h=>bX6 (by simpa using h),fun h=>by subst h;simp⟩
section
variable {α:Type} {enc:α->Value} {f:M->Option α} {es:Array MapEntry} {ck:Nat}
theorem dA0{es:Array MapEntry}(h:(es.toList.map (·.key)).Nodup){i j:Nat}{a b:MapEntry}(ha:es[i]?=some a)(hb:es[j]?=some b)(hk:a.key=b.key):i=j:=by
 have h1:(es.toList.map (·.key))[i]?=some a.key:=by rw [List.getElem?_map];simp [ha]
 have h2:(es.toList.map (·.key))[j]?=some a.key:=by rw [List.getElem?_map];simp [hb,hk]
 obtain ⟨hi,e1⟩:=List.getElem?_eq_some_iff.1 h1
 obtain ⟨hj,e2⟩:=List.getElem?_eq_some_iff.1 h2
 have hp:=List.pairwise_iff_getElem.1 h
 rcases Nat.lt_trichotomy i j with hlt|rfl|hlt
 ·exact absurd (e1.trans e2.symm) (hp i j hi hj hlt)
 ·rfl
 ·exact absurd (e2.trans e1.symm) (hp j i hj hi hlt)
theorem dE3{es:Array MapEntry}{e:MapEntry}(h:e∈es.toList):∃i:Nat,es[i]?=some e:=by
 obtain ⟨i,hi⟩:=List.getElem?_of_mem h
 exact ⟨i,by simpa using hi⟩
end
structure Ev where
 at_:Int
 veh:M
 sta:M
 kd:Int
 to_:M
def eF(x:Ev):List Value:= [J x.at_,U x.veh,U x.sta,J x.kd,U x.to_]
theorem fT(x:Ev):(eF x).length=5:=rfl
def fR2(x:Ev):Prop:=(-4000000000000000000<=x.at_/\x.at_<=4000000000000000000)/\(-4000000000000000000<=x.kd/\x.kd<=4000000000000000000)/\x.veh.size<=1000000/\x.sta.size<=1000000/\x.to_.size<=1000000
structure Sa where
 st:Int
 sta:M
 since:Int
def mB(x:Sa):List Value:= [J x.st,U x.sta,J x.since]
def sa0:Sa:=⟨0,⟨#[]⟩,0⟩
def mL(a b:Ev):Int:=dK [pT a.at_ b.at_,qC a.veh b.veh]
theorem eM0{a b:Int}:pT a b < 0↔a < b:=by unfold pT;split <;> (try split) <;> omega
theorem uV{a b:Int}:pT a b=0↔a=b:=by unfold pT;split <;> (try split) <;> omega
theorem bC2{a b:Ev}:mL a b < 0↔a.at_ < b.at_∨(a.at_=b.at_/\Go.Op.bytesLess a.veh.toList b.veh.toList=true):=by
 unfold mL
 by_cases h:pT a.at_ b.at_=0
 ·have e:=uV.1 h
  have e2:dK [pT a.at_ b.at_,qC a.veh b.veh]=qC a.veh b.veh:=by
   by_cases h2:qC a.veh b.veh=0
   ·simp [dK,h,h2]
   ·simp only [dK,if_pos h,if_neg h2]
  rw [e2,eN0]
  exact ⟨fun h4=> .inr ⟨e,h4⟩,fun h4=>by
   rcases h4 with h4|h4
   ·omega
   ·exact h4.2⟩
 ·have e2:dK [pT a.at_ b.at_,qC a.veh b.veh]=pT a.at_ b.at_:=by simp [dK,h]
  rw [e2,eM0]
  have:a.at_≠b.at_:=fun e=>h (uV.2 e)
  exact ⟨.inl,fun h4=>by
   rcases h4 with h4|h4
   ·exact h4
   ·exact absurd h4.1 this⟩
theorem bU3{a b:Ev}:mL a b=0↔a.at_=b.at_/\a.veh=b.veh:=by
 unfold mL
 by_cases h:pT a.at_ b.at_=0
 ·have e:=uV.1 h
  have e2:dK [pT a.at_ b.at_,qC a.veh b.veh]=qC a.veh b.veh:=by
   by_cases h2:qC a.veh b.veh=0
   ·simp [dK,h,h2]
   ·simp only [dK,if_pos h,if_neg h2]
  rw [e2]
  exact ⟨fun h3=>⟨e,bX6 (uW.1 h3).2⟩,fun h3=>uW.2 ⟨by rw [h3.2];exact uT _,by rw [h3.2]⟩⟩
 ·have e2:dK [pT a.at_ b.at_,qC a.veh b.veh]=pT a.at_ b.at_:=by simp [dK,h]
  rw [e2]
  exact ⟨fun h3=>absurd h3 h,fun h3=>absurd (uV.2 h3.1) h⟩
theorem bD8{a b d:Ev}(h1:mL a b < 0)(h2:mL b d < 0):mL a d < 0:=by
 rw [bC2] at *
 rcases h1 with h1|⟨h1,h3⟩ <;> rcases h2 with h2|⟨h2,h4⟩
 ·exact .inl G
 ·exact .inl G
 ·exact .inl G
 ·exact .inr ⟨G,bQ4 h3 h4⟩
theorem cZ5{a:Ev}:¬mL a a < 0:=by
 rw [bC2]
 rintro (h|⟨_,h⟩)
 ·omega
 ·rw [uT] at h;cases h
theorem bC8{a b:Ev}(h:¬mL a b < 0)(h0:mL a b≠0):mL b a < 0:=by
 rw [bC2] at *
 rw [Ne,bU3] at h0
 rcases Int.lt_trichotomy a.at_ b.at_ with h1|h1|h1
 ·exact absurd (.inl h1) h
 ·refine .inr ⟨h1.symm,?_⟩
  cases h2:Go.Op.bytesLess b.veh.toList a.veh.toList with
  |true=>rfl
  |false=>
   cases h3:Go.Op.bytesLess a.veh.toList b.veh.toList with
   |true=>exact absurd (.inr ⟨h1,h3⟩) h
   |false=>exact absurd ⟨h1,bX6 (bV6 h3 h2)⟩ h0
 ·exact .inl h1
def kB(s:Sa)(x:Ev):Bool:=
 if x.kd=1 then decide (s.st=0) else if x.kd=3 then decide (s.st=2) else if x.kd=5 then decide (s.st=3)&&s.sta.toList==x.sta.toList else if x.kd=7 then decide (s.st=4)&&s.sta.toList==x.sta.toList
 else if x.kd=2∨x.kd=4∨x.kd=6∨x.kd=8 then decide (s.st=1)&&s.sta.toList==x.sta.toList else false
def yL(x:Ev):Sa:=
 if x.kd=2 then ⟨2,⟨#[]⟩,x.at_⟩ else if x.kd=4 then ⟨3,x.sta,x.at_⟩ else if x.kd=6 then ⟨4,x.to_,x.at_⟩ else if x.kd=8 then ⟨5,⟨#[]⟩,x.at_⟩ else ⟨1,x.sta,x.at_⟩
def jJ(s:Sa)(x:Ev):Sa:=if kB s x=true then yL x else s
end Go.Proofs.YtapdhfjfgpbnnaaGreatDoor
