/- Several texts as one: Mk Ty Hd He Hf Hg Hh Xho Pv Rt Fm Dka Dkk Shx Nm Txt Bt Ifc Sv Rs Rn Sz Wn Xb Xc Aw Dkb Dkn Dkz Dkt -/
import Derived.Test.YtmifpfcmldflkaaGreatDoorS1a
import Derived.Laws.StructEq
import Derived.Test.YtmifpfcmldflkaaGreatDoorProg
import Derived.Deep.RegionHeld3
import Derived.Laws.ResultCell
import Derived.Ground.NamesProg
import Derived.Shelf.Strings.Cut
import Derived.Shelf.Strings.Split
import Derived.Shelf.Strings.Prefix
import Derived.Shelf.Strings.OnBuilder
import Derived.Shelf.Strings.Builder1
import Derived.Shelf.Strconv.Itoa3
import Derived.Shelf.Strconv.AtoiAll
import Derived.Shelf.Strconv.ErrVarAll
import Derived.Lib.ItoaNum
import Derived.Lib.AtoiAll
import Derived.Lib.Strings
import Derived.Laws.BitsLemmas
import Derived.Laws.Shifts
import Derived.Laws.Build
import Derived.Laws.Slices
import Derived.Laws.Strings
import Derived.Laws.Runes
import Derived.Laws.Concat
import Derived.Laws.AppendOwnNone
set_option maxRecDepth 100000
set_option maxHeartbeats 4000000
namespace Go.Proofs.YtmifpfcmldflkaaGreatDoor
open Tryz
open Go.RowKit Go.MapKept
open Go.ChangeMaps (setBlock)
structure bJ7 (P:Program) (k:TypeId) {κ:Type} (ek:κ->Value):Prop where
 inj:∀{a b:κ},ek a=ek b->a=b
 chk:∀(em:Bool) (a:κ) (w:World),(Instr.checkKey em 10000 k (ek a)).run P w= .ok () w
 find:∀(a:κ) (es:List MapEntry) (w:World),(∀x∈es,∃b,x.key=ek b)->((Instr.findKey k (ek a) es).run P w= .ok none w/\∀x∈es,x.key≠ek a)∨∃j e,(Instr.findKey k (ek a) es).run P w= .ok (some (j,e.val)) w/\es[j]?=some e/\e.key=ek a
 stay:∀(a:κ) (w:World),(Instr.keyThatStays (ek a) (ek a)).run P w= .ok (ek a) w
theorem yW {P:Program} {k:TypeId} {κ:Type} {ek:κ->Value} {eqb:κ->κ->Bool} (heq:∀a b w,(Op.equal k (ek a) (ek b)).run P w= .ok (eqb a b) w) (hb:∀a b,eqb a b=true↔a=b) (inj:∀{a b:κ},ek a=ek b->a=b) (a:κ) (w:World):∀(es:List MapEntry) (i:Nat),(∀x∈es,∃b,x.key=ek b)->
 ((Instr.findAsking k (ek a) es i).run P w= .ok none w/\∀x∈es,x.key≠ek a)∨∃j e,(Instr.findAsking k (ek a) es i).run P w= .ok (some (i+j,e.val)) w/\es[j]?=some e/\e.key=ek a
 | [],i,_=> .inl ⟨by simp [Instr.findAsking],by simp⟩
 |e::es,i,h=>by
  obtain ⟨b,hbk⟩:=h e (.head _)
  have hq:=heq a b w
  cases hr:eqb a b with
  |true=>
   refine .inr ⟨0,e,?_,U,by rw [hbk,(hb a b).1 hr]⟩
   simp [Instr.findAsking,hbk,hq,hr,Result.andThen]
  |false=>
   have hne:e.key≠ek a:=fun q=>by
    have h3:=inj (hbk.symm.trans q)
    rw [(hb a b).2 h3.symm] at hr;cases hr
   rcases yW heq hb inj a w es (i+1) (fun x hx=>h x (.tail _ hx)) with ⟨h1,h2⟩|⟨j,e',h1,h2,h3⟩
   ·refine .inl ⟨by simp [Instr.findAsking,hbk,hq,hr,h1,Result.andThen],fun x hx=>?_⟩
    rcases List.mem_cons.1 hx with rfl|hx
    ·exact hne
    ·exact h2 x hx
   ·exact .inr ⟨j+1,e',by simp [Instr.findAsking,hbk,hq,hr,h1,Result.andThen];omega,by simpa using h2,h3⟩
theorem bD9 {P:Program} {k:TypeId} {fs:Array Field} (hu:P.underlying k=some (.struct fs)) (v:Value) (es:List MapEntry) (w:World):(Instr.findKey k v es).run P w=(Instr.findAsking k v es 0).run P w:=by
 cases es with
 |nil=>simp [Instr.findKey,run_underlying hu,Instr.findNow,Instr.findAsking]
 |cons e es=>simp [Instr.findKey,run_underlying hu,Instr.findNow,Instr.sameNow]
theorem bV6 {P:Program} {k:TypeId} {fs:Array Field} {κ:Type} {ek:κ->Value} {eqb:κ->κ->Bool} (hu:P.underlying k=some (.struct fs)) (heq:∀a b w,(Op.equal k (ek a) (ek b)).run P w= .ok (eqb a b) w) (hb:∀a b,eqb a b=true↔a=b) (inj:∀{a b:κ},ek a=ek b->a=b)
 (chk:∀(em:Bool) (a:κ) (w:World),(Instr.checkKey em 10000 k (ek a)).run P w= .ok () w) (hs:∀a,Instr.sameBits 10000 (ek a) (ek a)=true):bJ7 P k ek:=
 ⟨inj,chk,fun a es w h=>by
  rw [bD9 hu]
  rcases yW heq hb inj a w es 0 h with h1|⟨j,e,h1,h2,h3⟩
  ·exact .inl h1
  ·exact .inr ⟨j,e,by simpa using h1,h2,h3⟩,fun a w=>by simp [Instr.keyThatStays,hs a]⟩
theorem dF8 {P:Program} {k:TypeId} (hk:cP7 P k=true):bJ7 P k (fun s:ByteArray=>Value.string s):=
 ⟨fun h=>by injection h,fun em a w=>dH3 hk em a w,fun a es w h=>by
  have hk2:∀x∈es,IsKey .string x.key:=fun x hx=>by
   obtain ⟨b,hb⟩:=h x hx
   rw [hb];trivial
  rcases findNow_spec (show IsKey .string (.string a) from trivial) es 0 hk2 with ⟨h1,h2⟩|⟨j,e,h1,h2,h3⟩
  ·exact .inl ⟨cZ5 hk h1 w,h2⟩
  ·exact .inr ⟨j,e,by rw [cZ5 hk h1 w,Nat.zero_add],h2,h3⟩,fun a w=>run_keyThatStays (show IsKey .string (.string a) from trivial)⟩
section
variable {κ α:Type}
open Classical in
noncomputable def fQ (f:κ->Option α) (k:κ) (x:α):κ->Option α:=fun j=>if j=k then some x else f j
open Classical in
noncomputable def yB (f:κ->Option α) (k:κ):κ->Option α:=fun j=>if j=k then none else f j
def mY:κ->Option α:=fun _=>none
theorem hU (f:κ->Option α) (k:κ) (x:α):fQ f k x k=some x:=by unfold fQ;rw [if_pos rfl]
theorem dB (f:κ->Option α) {k j:κ} (x:α) (h:j≠k):fQ f k x j=f j:=by unfold fQ;rw [if_neg h]
theorem bC1 (f:κ->Option α) (k:κ):yB f k k=none:=by unfold yB;rw [if_pos rfl]
theorem yC (f:κ->Option α) {k j:κ} (h:j≠k):yB f k j=f j:=by unfold yB;rw [if_neg h]
def jV (enc:α->Value) (ek:κ->Value) (f:κ->Option α) (es:Array MapEntry) (ck:Nat):Prop:=
 Stamped es ck/\(∀x∈es.toList,∃b,x.key=ek b)/\∀k v,(∃e∈es.toList,e.key=ek k/\e.val=v)↔∃x,f k=some x/\v=enc x
def bU (enc:α->Value) (ek:κ->Value) (N g:Nat) (f:κ->Option α) (w:World):Prop:=
 N<=g/\∃es ck,w.heap[g]?=some (.map es ck)/\jV enc ek f es ck
theorem bU.lt {enc:α->Value} {ek:κ->Value} {N g:Nat} {f:κ->Option α} {w:World} (h:bU enc ek N g f w):g < w.heap.size:=by
 obtain ⟨_,es,ck,hb,_⟩:=h
 exact (Array.getElem?_eq_some_iff.1 hb).1
theorem bU.kept {enc:α->Value} {ek:κ->Value} {N g:Nat} {f:κ->Option α} {w w':World} {row:Option Nat} (h:bU enc ek N g f w) (hg:w.grownBy w' row) (hne:some g≠row):bU enc ek N g f w':=by
 have hlt:=h.lt
 obtain ⟨h0,es,ck,hb,he⟩:=h
 exact ⟨h0,es,ck,(hg.block g hlt hne).trans hb,he⟩
theorem bU.lower {enc:α->Value} {ek:κ->Value} {N M g:Nat} {f:κ->Option α} {w:World} (h:bU enc ek N g f w) (hM:M<=N):bU enc ek M g f w:=⟨Nat.le_trans hM h.1,h.2⟩
theorem bU.lasts2 {enc:α->Value} {ek:κ->Value} {N M:Nat} {row:Option Nat} {Tt:List TypeId} {g:Nat} {f:κ->Option α}:Lasts2 N row Tt (bU enc ek M g f):=
 ⟨fun w w' h hx=>hx.kept h (by simp),
  fun w w' r T c h1 _ _ h3 hx=>hx.kept h3 (fun e=>by
   have e2:g=r:=by injection e
   subst e2
   obtain ⟨_,es,ck,hb,_⟩:=hx
   rw [h1] at hb;cases hb)⟩
theorem bU.far {enc:α->Value} {ek:κ->Value} {N M g g1:Nat} {f:κ->Option α} (hne:g1≠g):∀w w':World,N<=g->w.grownBy w' (some g)->bU enc ek M g1 f w->bU enc ek M g1 f w':=
 fun _ _ _ hg h=>h.kept hg (fun e=>hne (by injection e))
end
section
variable {κ α:Type} {enc:α->Value} {ek:κ->Value} {f:κ->Option α} {es:Array MapEntry} {ck:Nat} {P:Program} {kt:TypeId}
theorem jV.nil:jV enc ek (mY:κ->Option α) #[] 0:=⟨stamped_empty 0,by simp,fun k v=>by simp [mY]⟩
theorem jV.find (h:jV enc ek f es ck) (hK:bJ7 P kt ek) (k:κ) (w:World):((Instr.findKey kt (ek k) es.toList).run P w= .ok none w/\f k=none/\∀x∈es.toList,x.key≠ek k)∨∃j e x,(Instr.findKey kt (ek k) es.toList).run P w= .ok (some (j,e.val)) w/\es[j]?=some e/\e.key=ek k/\f k=some x/\e.val=enc x:=by
 rcases hK.find k es.toList w h.2.1 with ⟨h1,h2⟩|⟨j,e,h1,h2,h3⟩
 ·left
  refine ⟨h1,?_,h2⟩
  cases hf:f k with
  |none=>rfl
  |some x=>
   obtain ⟨e,he,hek,_⟩:=(h.2.2 k (enc x)).2 ⟨x,hf,rfl⟩
   exact absurd hek (h2 e he)
 ·right
  obtain ⟨x,hx,hv⟩:=(h.2.2 k e.val).1 ⟨e,fX3 h2,h3,rfl⟩
  exact ⟨j,e,x,h1,by simpa using h2,h3,hx,hv⟩
theorem jV.push (h:jV enc ek f es ck) (hK:∀{a b:κ},ek a=ek b->a=b) {k:κ} (x:α) (hn:∀y∈es.toList,y.key≠ek k):jV enc ek (fQ f k x) (es.push ⟨ek k,enc x,ck⟩) (ck+1):=by
 refine ⟨stamped_push h.1 hn,fun y hy=>?_,fun j v=>?_⟩
 ·simp only [Array.toList_push,List.mem_append,List.mem_singleton] at hy
  rcases hy with hy|rfl
  ·exact h.2.1 y hy
  ·exact ⟨k,U⟩
 ·simp only [Array.toList_push,List.mem_append,List.mem_singleton]
  by_cases hj:j=k
  ·subst hj
   rw [hU]
   constructor
   ·rintro ⟨e,he|rfl,h1,h2⟩
    ·exact absurd h1 (hn e he)
    ·exact ⟨x,U,h2.symm⟩
   ·rintro ⟨y,hy,rfl⟩
    cases hy
    exact ⟨_,.inr U,U,U⟩
  ·rw [dB _ _ hj,<-h.2.2 j v]
   constructor
   ·rintro ⟨e,he|rfl,h1,h2⟩
    ·exact ⟨e,he,h1,h2⟩
    ·exact absurd (hK h1).symm hj
   ·rintro ⟨e,he,h1,h2⟩
    exact ⟨e,.inl he,h1,h2⟩
theorem jV.modify (h:jV enc ek f es ck) (hK:∀{a b:κ},ek a=ek b->a=b) {k:κ} (x:α) {j:Nat} {e:MapEntry} (he:es[j]?=some e) (hk:e.key=ek k):jV enc ek (fQ f k x) (es.modify j fun e=>{ e with key:=ek k,val:=enc x }) ck:=by
 have hkey:∀e',es[j]?=some e'->({ e' with key:=ek k,val:=enc x }:MapEntry).key=e'.key:=fun e' he'=>by rw [he] at he';cases he';exact hk.symm
 have hat:∀q,(es.modify j fun e=>{ e with key:=ek k,val:=enc x })[q]?=if j=q then (es[q]?).map (fun e=>{ e with key:=ek k,val:=enc x }) else es[q]?:=fun q=>by rw [Array.getElem?_modify]
 have wK:∀y,y∈(es.modify j fun e=>{ e with key:=ek k,val:=enc x }).toList↔∃q,(es.modify j fun e=>{ e with key:=ek k,val:=enc x })[q]?=some y:=fun y=>
  ⟨fun hy=>cT9 hy,fun ⟨q,hq⟩=>by
   have:(es.modify j fun e=>{ e with key:=ek k,val:=enc x }).toList[q]?=some y:=by rw [Array.getElem?_toList];exact hq
   exact fX3 this⟩
 refine ⟨stamped_modify h.1 _ _ (fun _ _=>U) (fun e' _ he'=>hkey e' he'),fun y hy=>?_,fun i v=>?_⟩
 ·obtain ⟨q,hq⟩:=(wK y).1 hy
  rw [hat] at hq
  split at hq
  ·rename_i hjq
   subst hjq
   rw [he] at hq
   cases hq
   exact ⟨k,U⟩
  ·exact h.2.1 y (fX3 (i:=q) (by simpa using hq))
 by_cases hi:i=k
 ·subst hi
  rw [hU]
  constructor
  ·rintro ⟨y,hy,h1,h2⟩
   obtain ⟨q,hq⟩:=(wK y).1 hy
   rw [hat] at hq
   split at hq
   ·rename_i hjq
    subst hjq
    rw [he] at hq
    cases hq
    exact ⟨x,U,h2.symm⟩
   ·rename_i hjq
    exact absurd (cY6 h.1.2.2 he hq (hk.trans h1.symm)) hjq
  ·rintro ⟨y,hy,rfl⟩
   cases hy
   exact ⟨{ e with key:=ek i,val:=enc x },(wK _).2 ⟨j,by rw [hat,if_pos rfl,he];rfl⟩,U,U⟩
 ·rw [dB _ _ hi,<-h.2.2 i v]
  constructor
  ·rintro ⟨y,hy,h1,h2⟩
   obtain ⟨q,hq⟩:=(wK y).1 hy
   rw [hat] at hq
   split at hq
   ·rename_i hjq
    subst hjq
    rw [he] at hq
    cases hq
    exact absurd (hK h1).symm hi
   ·exact ⟨y,fX3 (i:=q) (by simpa using hq),h1,h2⟩
  ·rintro ⟨y,hy,h1,h2⟩
   obtain ⟨q,hq⟩:=cT9 hy
   refine ⟨y,(wK y).2 ⟨q,?_⟩,h1,h2⟩
   rw [hat,if_neg (fun e2=>?_),hq]
   subst e2
   rw [he] at hq
   cases hq
   rw [hk] at h1
   exact hi (hK h1).symm
theorem jV.erase (h:jV enc ek f es ck) (hK:∀{a b:κ},ek a=ek b->a=b) {k:κ} {j:Nat} {e:MapEntry} (he:es[j]?=some e) (hk:e.key=ek k):jV enc ek (yB f k) (es.eraseIdxIfInBounds j) ck:=by
 have hjlt:j < es.size:=(Array.getElem?_eq_some_iff.1 he).1
 have hl:(es.eraseIdxIfInBounds j).toList=es.toList.eraseIdx j:=by
  unfold Array.eraseIdxIfInBounds
  rw [dif_pos hjlt,Array.toList_eraseIdx]
 have wK:∀y,y∈(es.eraseIdxIfInBounds j).toList↔∃q,q≠j/\es[q]?=some y:=fun y=>by
  rw [hl,List.mem_eraseIdx_iff_getElem?]
  simp
 have hsub:∀x∈(es.eraseIdxIfInBounds j).toList,x∈es.toList:=fun x hx=>by
  rw [hl] at hx
  exact (List.eraseIdx_sublist _ _).subset hx
 refine ⟨stamped_erase h.1 _,fun x hx=>h.2.1 x (hsub x hx),fun i v=>?_⟩
 by_cases hi:i=k
 ·subst hi
  rw [bC1]
  constructor
  ·rintro ⟨y,hy,h1,h2⟩
   obtain ⟨q,hq,hy2⟩:=(wK y).1 hy
   exact absurd (cY6 h.1.2.2 hy2 he (h1.trans hk.symm)) hq
  ·rintro ⟨y,hy,_⟩
   cases hy
 ·rw [yC _ hi,<-h.2.2 i v]
  constructor
  ·rintro ⟨y,hy,h1,h2⟩
   exact ⟨y,hsub y hy,h1,h2⟩
  ·rintro ⟨y,hy,h1,h2⟩
   obtain ⟨q,hq⟩:=cT9 hy
   refine ⟨y,(wK y).2 ⟨q,fun e2=>?_,hq⟩,h1,h2⟩
   subst e2
   rw [he] at hq
   cases hq
   rw [hk] at h1
   exact hi (hK h1).symm
theorem jV.same (h:jV enc ek f es ck) {k:κ} (hn:f k=none):jV enc ek (yB f k) es ck:=by
 have e:yB f k=f:=by
  funext j
  by_cases hj:j=k
  ·subst hj;rw [bC1,hn]
  ·rw [yC _ hj]
 rw [e];exact h
end
def bI8 (N g:Nat) (A:World->Prop):Prop:=∀w w':World,N<=g->(∃es ck,w.heap[g]?=some (.map es ck))->w.grownBy w' (some g)->A w->A w'
def bK2 (A:World->Prop):Prop:=∀N g,bI8 N g A
theorem SlT.mfar {α:Type} {enc:α->List Value} {k:Nat} {T:TypeId} {A:Option Addr} {n:Nat} {l:List α}:bK2 (fun w=>SlT enc k T w A n l):=fun N g w w' _ ⟨es,ck,hb⟩ hg h=>by
 refine ⟨h.len,fun hn=>?_⟩
 obtain ⟨b,off,cells,fz,e,hh,hr⟩:=h.at_ hn
 exact ⟨b,off,cells,fz,e,(hg.block b (Array.getElem?_eq_some_iff.1 hh).1 (fun e2=>by
  have e3:b=g:=by injection e2
  subst e3
  rw [hb] at hh;cases hh)).trans hh,hr⟩
theorem bW.mfar {α:Type} {enc:α->List Value} {k N0:Nat} {T:TypeId} {row:Option Nat} {A:Option Addr} {n:Nat} {l:List α}:bK2 (bW enc k T N0 row A n l):=fun N g w w' h1 h2 h3 ⟨h4,h5⟩=>⟨SlT.mfar N g w w' h1 h2 h3 h4,h5⟩
theorem bK2.far {A:World->Prop} (h:bK2 A) {N g:Nat}:bI8 N g A:=h N g
theorem bU.farK {κ α:Type} {enc:α->Value} {ek:κ->Value} {N M g g1:Nat} {f:κ->Option α} (hne:g1≠g):bI8 N g (bU enc ek M g1 f):=fun w w' h1 _ h3 h4=>bU.far hne w w' h1 h3 h4
theorem gB {N g:Nat} {X:List (World->Prop)}:∀A∈([]:List (World->Prop)),bI8 N g A/\A∈X:=fun _ h=>by cases h
theorem cL {N g:Nat} {X X':List (World->Prop)} {A:World->Prop} {i:Nat} (h:bI8 N g A) (hi:X[i]?=some A) (ht:∀B∈X',bI8 N g B/\B∈X):∀B∈A::X',bI8 N g B/\B∈X:=fun B hB=>by
 rcases List.mem_cons.1 hB with rfl|hB
 ·exact ⟨h,fX3 hi⟩
 ·exact ht B hB
theorem cV1 {N g:Nat} {X X1:List (World->Prop)} (n:Nat) (hd:X.drop n=X1) (h:∀A∈X1,bK2 A):∀B∈X1,bI8 N g B/\B∈X:=fun B hB=>⟨h B hB N g,List.mem_of_mem_drop (by rw [hd];exact hB)⟩
def rX (g n:Nat) (w:World):Prop:=∃es ck,w.heap[g]?=some (.map es ck)/\es.size=n
theorem rX.lasts2 {N:Nat} {row:Option Nat} {Tt:List TypeId} {g n:Nat}:Lasts2 N row Tt (rX g n):=
 ⟨fun w w' h ⟨es,ck,hx,hn⟩=>⟨es,ck,(h.block g (Array.getElem?_eq_some_iff.1 hx).1 (by simp)).trans hx,hn⟩,
  fun w w' r T c h1 _ _ h3 ⟨es,ck,hx,hn⟩=>⟨es,ck,(h3.block g (Array.getElem?_eq_some_iff.1 hx).1 (fun e=>by
   have e2:g=r:=by injection e
   subst e2
   rw [h1] at hx;cases hx)).trans hx,hn⟩⟩
section
variable {P:Program} {c:Cx} {eZ:Array Oper} {Q:Exit->Act->World->Prop} {rest:List Oper} {S:List (Nat×Value)} {K:World->Prop} {L:List (Nat×TypeId×List Value)} {O:List Own} {X X':List (World->Prop)} {Z:World->Prop} {nn:Nat}
variable {d:Nat} {ty:TypeId} {pos:String} {aft:Array Edge} {κ α:Type} {enc:α->Value} {ek:κ->Value} {f:κ->Option α}
theorem kT {t k e:TypeId} {x y:Operand} {N g:Nat} {s:κ} (z:α) (hK:bJ7 P k ek) (ht:bE4 P t=some (k,e)) (hzz:(P.info? e).bind (·.zero)=some (enc z)) (hx:rd S x=some (.map (some g))) (hy:rd S y=some (ek s)) (hm:∀w,Z w->bU enc ek N g f w):
 OV P nn S Z ⟨some d,.lookup t x y false,ty,pos,aft,none⟩ (enc ((f s).getD z)):=fun a w ha hz=>by
 obtain ⟨_,es,ck,hb,he⟩:=hm w hz
 have hzero:(zeroValue e).run P w= .ok (enc z) w:=by
  cases hi:P.info? e with
  |none=>simp [hi] at hzz
  |some inf=>simp [zeroValue,typeInfo,hi,(by simpa [hi] using hzz:inf.zero=some (enc z))]
 rcases he.find hK s w with ⟨hf,hn,_⟩|⟨j,en,xv,hf,_,_,hn,hv⟩
 ·simp [execOp,ha.eval hx,ha.eval hy,Instr.lookup,run_underlying (qX ht),MapKept.run_getObj_map hb,hK.chk,hf,hzero,hn,Result.andThen]
 ·simp [execOp,ha.eval hx,ha.eval hy,Instr.lookup,run_underlying (qX ht),MapKept.run_getObj_map hb,hK.chk,hf,hn,hv,Result.andThen]
theorem gX {t k e:TypeId} {x y:Operand} {N g:Nat} {s:κ} (z:α) (hK:bJ7 P k ek) (ht:bE4 P t=some (k,e)) (hzz:(P.info? e).bind (·.zero)=some (enc z)) (hx:rd S x=some (.map (some g))) (hy:rd S y=some (ek s)) (hm:∀w,Z w->bU enc ek N g f w):
 OV P nn S Z ⟨some d,.lookup t x y true,ty,pos,aft,none⟩ (.tuple #[enc ((f s).getD z),.bool (f s).isSome]):=fun a w ha hz=>by
 obtain ⟨_,es,ck,hb,he⟩:=hm w hz
 have hzero:(zeroValue e).run P w= .ok (enc z) w:=by
  cases hi:P.info? e with
  |none=>simp [hi] at hzz
  |some inf=>simp [zeroValue,typeInfo,hi,(by simpa [hi] using hzz:inf.zero=some (enc z))]
 rcases he.find hK s w with ⟨hf,hn,_⟩|⟨j,en,xv,hf,_,_,hn,hv⟩
 ·simp [execOp,ha.eval hx,ha.eval hy,Instr.lookup,run_underlying (qX ht),MapKept.run_getObj_map hb,hK.chk,hf,hzero,hn,Result.andThen]
 ·simp [execOp,ha.eval hx,ha.eval hy,Instr.lookup,run_underlying (qX ht),MapKept.run_getObj_map hb,hK.chk,hf,hn,hv,Result.andThen]
theorem kV {t:TypeId} (R:Nat->Prop) (hR:∀w,gV c K L O X w->R w.heap.size) (hd:Nat.ble (d+1) c.n=true) (h:∀g,R g->WL P c eZ Q rest ((d,.map (some g))::S) K L O (bU enc ek c.w0.heap.size g mY::X)):WL P c eZ Q (⟨some d,.makeMap t none,ty,pos,aft,none⟩::rest) S K L O X:=by
 intro a w ha hm
 refine wpList_plain U fun K' hK=>?_
 unfold Oper.wp
 have:(execOp a.eval ⟨some d,.makeMap t none,ty,pos,aft,none⟩).run P w= .ok (.value (.map (some w.heap.size))) (w.alloc (.map #[] 0)):=by
  simp [execOp,Instr.makeMap]
 rw [this]
 exact hK _ _ (h _ (hR w hm) _ _ (ha.put hd _) ((hm.grow (grow_alloc (World.grownBy.refl w none) _)).also bU.lasts2 ⟨hm.g.size,_,_,(MapKept.heap_alloc w _).1,jV.nil⟩))
theorem kO {t k e:TypeId} {x y z:Operand} {g:Nat} {s:κ} {v:α} (i:Nat) (hK:bJ7 P k ek) (ht:bE4 P t=some (k,e)) (hx:rd S x=some (.map (some g))) (hy:rd S y=some (ek s)) (hz:rd S z=some (enc v)) (hi:X[i]?=some (bU enc ek c.w0.heap.size g f))
 (hX:∀A∈X',bI8 c.w0.heap.size g A/\A∈X)
 (h:WL P c eZ Q rest S K L O (bU enc ek c.w0.heap.size g (fQ f s v)::X')):WL P c eZ Q (⟨none,.mapUpdate t x y z,ty,pos,aft,none⟩::rest) S K L O X:=by
 intro a w ha hm
 refine wpList_plain U fun K' hK'=>?_
 obtain ⟨hg,es,ck,hb,he⟩:=hm.fact i hi
 have bR6:∀es' ck',jV enc ek (fQ f s v) es' ck'->gV c K L O (bU enc ek c.w0.heap.size g (fQ f s v)::X') (setBlock w g (.map es' ck')):=fun es' ck' he'=>hm.mapped hg hb fun A hA=>by
  rcases List.mem_cons.1 hA with rfl|hA
  ·exact ⟨⟨hg,_,_,ChangeMaps.heap_setBlock_same hb _,he'⟩,bU.lasts2⟩
  ·exact ⟨(hX A hA).1 _ _ hg ⟨_,_,hb⟩ (bV3 hb) (hm.x A (hX A hA).2),hm.l A (hX A hA).2⟩
 unfold Oper.wp
 rcases he.find hK s w with ⟨hf,_,hn⟩|⟨j,en,xv,hf,hj,yX,_,_⟩
 ·have:(execOp a.eval ⟨none,.mapUpdate t x y z,ty,pos,aft,none⟩).run P w= .ok .skip (setBlock w g (.map (es.push ⟨ek s,enc v,ck⟩) (ck+1))):=by
   simp [execOp,ha.eval hx,ha.eval hy,ha.eval hz,Instr.mapUpdate,run_underlying (qX ht),MapKept.run_getObj_map hb,MapKept.run_setObj_map _ hb,hK.chk,hf,Result.andThen,setBlock]
  rw [this]
  exact hK' _ _ (h _ _ ha (bR6 _ _ (he.push hK.inj v hn)))
 ·have:(execOp a.eval ⟨none,.mapUpdate t x y z,ty,pos,aft,none⟩).run P w= .ok .skip (setBlock w g (.map (es.modify j fun e=>{ e with key:=ek s,val:=enc v }) ck)):=by
   simp [execOp,ha.eval hx,ha.eval hy,ha.eval hz,Instr.mapUpdate,run_underlying (qX ht),MapKept.run_getObj_map hb,MapKept.run_setObj_map _ hb,hK.chk,hf,hj,yX,hK.stay,Result.andThen,setBlock]
  rw [this]
  exact hK' _ _ (h _ _ ha (bR6 _ _ (he.modify hK.inj v hj yX)))
theorem jD {t k e:TypeId} {x y z:Operand} {g:Nat} {s:κ} {v:α} (i:Nat) (hK:bJ7 P k ek) (ht:bE4 P t=some (k,e)) (hx:rd S x=some (.map (some g))) (hy:rd S y=some (ek s)) (hz:rd S z=some (enc v)) (hi:X[i]?=some (bU enc ek c.w0.heap.size g f))
 (hX:∀A∈X',bI8 c.w0.heap.size g A/\A∈X)
 (h:WL P c eZ Q rest S K L O (bU enc ek c.w0.heap.size g (fQ f s v)::X')):WL P c eZ Q (⟨none,.insert t x y z,ty,pos,aft,none⟩::rest) S K L O X:=by
 intro a w ha hm
 refine wpList_plain U fun K' hK'=>?_
 obtain ⟨hg,es,ck,hb,he⟩:=hm.fact i hi
 have bR6:∀es' ck',jV enc ek (fQ f s v) es' ck'->gV c K L O (bU enc ek c.w0.heap.size g (fQ f s v)::X') (setBlock w g (.map es' ck')):=fun es' ck' he'=>hm.mapped hg hb fun A hA=>by
  rcases List.mem_cons.1 hA with rfl|hA
  ·exact ⟨⟨hg,_,_,ChangeMaps.heap_setBlock_same hb _,he'⟩,bU.lasts2⟩
  ·exact ⟨(hX A hA).1 _ _ hg ⟨_,_,hb⟩ (bV3 hb) (hm.x A (hX A hA).2),hm.l A (hX A hA).2⟩
 unfold Oper.wp
 rcases he.find hK s w with ⟨hf,_,hn⟩|⟨j,en,xv,hf,hj,yX,_,_⟩
 ·have:(execOp a.eval ⟨none,.insert t x y z,ty,pos,aft,none⟩).run P w= .ok .skip (setBlock w g (.map (es.push ⟨ek s,enc v,ck⟩) (ck+1))):=by
   simp [execOp,ha.eval hx,ha.eval hy,ha.eval hz,Instr.mapUpdate,run_underlying (qX ht),MapKept.run_getObj_map hb,MapKept.run_setObj_map _ hb,hK.chk,hf,Result.andThen,setBlock]
  rw [this]
  exact hK' _ _ (h _ _ ha (bR6 _ _ (he.push hK.inj v hn)))
 ·have:(execOp a.eval ⟨none,.insert t x y z,ty,pos,aft,none⟩).run P w= .ok .skip (setBlock w g (.map (es.modify j fun e=>{ e with key:=ek s,val:=enc v }) ck)):=by
   simp [execOp,ha.eval hx,ha.eval hy,ha.eval hz,Instr.mapUpdate,run_underlying (qX ht),MapKept.run_getObj_map hb,MapKept.run_setObj_map _ hb,hK.chk,hf,hj,yX,hK.stay,Result.andThen,setBlock]
  rw [this]
  exact hK' _ _ (h _ _ ha (bR6 _ _ (he.modify hK.inj v hj yX)))
theorem cT0 {t k e:TypeId} {x y:Operand} {g:Nat} {s:κ} {dst:Option Nat} (i:Nat) (hK:bJ7 P k ek) (ht:bE4 P t=some (k,e)) (hx:rd S x=some (.map (some g))) (hy:rd S y=some (ek s)) (hdst:dst=none) (hi:X[i]?=some (bU enc ek c.w0.heap.size g f))
 (hX:∀A∈X',bI8 c.w0.heap.size g A/\A∈X)
 (h:WL P c eZ Q rest S K L O (bU enc ek c.w0.heap.size g (yB f s)::X')):WL P c eZ Q (⟨dst,.call ⟨.builtin .delete,#[x,y],#[t,k]⟩,ty,pos,aft,none⟩::rest) S K L O X:=by
 subst hdst
 intro a w ha hm
 refine wpList_plain U fun K' hK'=>?_
 obtain ⟨hg,es,ck,hb,he⟩:=hm.fact i hi
 have bR6:∀es' ck',jV enc ek (yB f s) es' ck'->gV c K L O (bU enc ek c.w0.heap.size g (yB f s)::X') (setBlock w g (.map es' ck')):=fun es' ck' he'=>hm.mapped hg hb fun A hA=>by
  rcases List.mem_cons.1 hA with rfl|hA
  ·exact ⟨⟨hg,_,_,ChangeMaps.heap_setBlock_same hb _,he'⟩,bU.lasts2⟩
  ·exact ⟨(hX A hA).1 _ _ hg ⟨_,_,hb⟩ (bV3 hb) (hm.x A (hX A hA).2),hm.l A (hX A hA).2⟩
 unfold Oper.wp
 rcases he.find hK s w with ⟨hf,hn0,_⟩|⟨j,en,xv,hf,hj,yX,_,_⟩
 ·have:(execOp a.eval ⟨none,.call ⟨.builtin .delete,#[x,y],#[t,k]⟩,ty,pos,aft,none⟩).run P w= .ok (.value (.tuple #[])) (setBlock w g (.map es ck)):=by
   simp [execOp,resolve,invoke,builtin,ha.eval hx,ha.eval hy,Builtin.delete_,run_underlying (qX ht),MapKept.run_getObj_map hb,MapKept.run_setObj_map _ hb,hK.chk,hf,Result.andThen,setBlock]
  rw [this]
  exact hK' _ _ (h _ _ ha (bR6 _ _ (he.same hn0)))
 ·have:(execOp a.eval ⟨none,.call ⟨.builtin .delete,#[x,y],#[t,k]⟩,ty,pos,aft,none⟩).run P w= .ok (.value (.tuple #[])) (setBlock w g (.map (es.eraseIdxIfInBounds j) ck)):=by
   simp [execOp,resolve,invoke,builtin,ha.eval hx,ha.eval hy,Builtin.delete_,run_underlying (qX ht),MapKept.run_getObj_map hb,MapKept.run_setObj_map _ hb,hK.chk,hf,Result.andThen,setBlock]
  rw [this]
  exact hK' _ _ (h _ _ ha (bR6 _ _ (he.erase hK.inj hj yX)))
theorem bE1 {t k e:TypeId} {x:Operand} {g n:Nat} (ht:bE4 P t=some (k,e)) (hx:rd S x=some (.map (some g))) (hm:∀w,Z w->rX g n w):OV P nn S Z ⟨some d,.call ⟨.builtin .len,#[x],#[t]⟩,ty,pos,aft,none⟩ (.int .i64 (n:Int)):=fun a w ha hz=>by
 obtain ⟨es,ck,hb,hn⟩:=hm w hz
 simp [execOp,resolve,invoke,builtin,ha.eval hx,Builtin.len_,run_underlying (qX ht),MapKept.run_getObj_map hb,goInt,hn,Result.andThen]
theorem yT {γ:Type} {l:List Oper} (Y:γ->World->Prop) (hY:∀w,gV c K L O X w->∃g,Y g w) (hl:∀g,Lasts2 c.w0.heap.size c.row c.Tt (Y g)) (h:∀g,WL P c eZ Q l S K L O (Y g::X)):WL P c eZ Q l S K L O X:=fun a w ha hm=>by
 obtain ⟨g,hg⟩:=hY w hm
 exact h g a w ha (hm.also (hl g) hg)
theorem cD4 {γ:Type} {code:Code} (Y:γ->World->Prop) (hY:∀w,gV c K L O X w->∃g,Y g w) (hl:∀g,Lasts2 c.w0.heap.size c.row c.Tt (Y g)) (h:∀g,Gw P c Q code S K L O (Y g::X)):Gw P c Q code S K L O X:=fun a w ha hm=>by
 obtain ⟨g,hg⟩:=hY w hm
 exact h g a w ha (hm.also (hl g) hg)
theorem gV.tailL {x:Nat×TypeId×List Value} {w:World} (h:gV c K (x::L) O X w):gV c K L O X w:=h.sub (List.sublist_cons_self ..)
end
theorem fP:jB prog 3=true:=by kernel_rfl
theorem fC:jB prog 9=true:=by kernel_rfl
theorem us9:prog.underlying 9=some .string:=by kernel_rfl
theorem kZ:jB prog 22=true:=by kernel_rfl
theorem pD:kJ prog 22=some (3,1):=by kernel_rfl
theorem bV1:bM2 prog 22=some (3,1,8):=by kernel_rfl
theorem eL6:jB prog 26=true:=by kernel_rfl
theorem eC1:kJ prog 26=some (99,15):=by kernel_rfl
theorem eP2:jB prog 27=true:=by kernel_rfl
theorem zV:kJ prog 27=some (84,2):=by kernel_rfl
theorem bM4:jB prog 28=true:=by kernel_rfl
theorem bZ8:kJ prog 28=some (57,2):=by kernel_rfl
theorem eR0:bM2 prog 28=some (57,2,32):=by kernel_rfl
theorem fA1:jB prog 29=true:=by kernel_rfl
theorem fB0:kJ prog 29=some (293,3):=by kernel_rfl
theorem bF6:kX prog 31=some 4:=by kernel_rfl
theorem cU8:dF prog 31 0=some 0:=by kernel_rfl
theorem cZ3:dF prog 31 1=some 1:=by kernel_rfl
theorem vL:dF prog 31 2=some 2:=by kernel_rfl
theorem dG7:dF prog 31 3=some 3:=by kernel_rfl
theorem fB3:kY prog 31=some [.slice none 0 0,.slice none 0 0,.slice none 0 0,.slice none 0 0]:=by kernel_rfl
theorem fB1:jB prog 32=true:=by kernel_rfl
theorem bP7:kJ prog 32=some (219,7):=by kernel_rfl
theorem eL7:bM2 prog 32=some (219,7,64):=by kernel_rfl
theorem fC1:jB prog 33=true:=by kernel_rfl
theorem cF1:kJ prog 33=some (254,4):=by kernel_rfl
theorem fD1:jB prog 34=true:=by kernel_rfl
theorem bA9:kJ prog 34=some (258,3):=by kernel_rfl
theorem eM7:bM2 prog 34=some (258,3,40):=by kernel_rfl
theorem fE1:jB prog 35=true:=by kernel_rfl
theorem cG1:kJ prog 35=some (260,6):=by kernel_rfl
theorem fQ1:bM2 prog 35=some (260,6,64):=by kernel_rfl
theorem fF1:jB prog 36=true:=by kernel_rfl
theorem zW:kJ prog 36=some (263,4):=by kernel_rfl
theorem eU4:bM2 prog 36=some (263,4,56):=by kernel_rfl
theorem cM1:kX prog 38=some 5:=by kernel_rfl
theorem dH7:dF prog 38 0=some 0:=by kernel_rfl
theorem dI7:dF prog 38 1=some 1:=by kernel_rfl
theorem dJ7:dF prog 38 2=some 2:=by kernel_rfl
theorem dK7:dF prog 38 3=some 3:=by kernel_rfl
theorem dL7:dF prog 38 4=some 4:=by kernel_rfl
theorem eY6:kY prog 38=some [.slice none 0 0,.slice none 0 0,.slice none 0 0,.slice none 0 0,.slice none 0 0]:=by kernel_rfl
theorem fA3:kX prog 40=some 7:=by kernel_rfl
theorem cN1:kX prog 42=some 16:=by kernel_rfl
theorem bN5:dF prog 42 0=some 0:=by kernel_rfl
theorem eK5:dF prog 42 1=some 4:=by kernel_rfl
theorem eL5:dF prog 42 2=some 9:=by kernel_rfl
theorem fH1:kY prog 42=some [.slice none 0 0,.slice none 0 0,.slice none 0 0,.slice none 0 0,.slice none 0 0,.slice none 0 0,.slice none 0 0,.slice none 0 0,.slice none 0 0,.int .i64 0,.int .i64 0,.int .i64 0,.int .i64 0,.int .i64 0,.int .i64 0,.int .i64 0]:=by kernel_rfl
theorem uO:kJ prog 44=some (171,4):=by kernel_rfl
theorem cY0:bM2 prog 44=some (171,4,48):=by kernel_rfl
theorem dA5:jB prog 47=true:=by kernel_rfl
theorem jW:kJ prog 47=some (74,5):=by kernel_rfl
theorem eS0:bM2 prog 47=some (74,5,64):=by kernel_rfl
theorem dL9:jB prog 48=true:=by kernel_rfl
theorem fC0:kJ prog 51=some (64,5):=by kernel_rfl
theorem fR1:bM2 prog 51=some (64,5,72):=by kernel_rfl
theorem bO5:dF prog 55 0=some 0:=by kernel_rfl
theorem bF9:dF prog 55 1=some 1:=by kernel_rfl
theorem cH7:kX prog 57=some 2:=by kernel_rfl
theorem bP5:dF prog 57 0=some 0:=by kernel_rfl
theorem cV8:dF prog 57 1=some 1:=by kernel_rfl
theorem eZ6:kY prog 57=some [.string ⟨#[]⟩,.string ⟨#[]⟩]:=by kernel_rfl
theorem bV7:jB prog 62=true:=by kernel_rfl
theorem bB9:kJ prog 62=some (68,9):=by kernel_rfl
theorem fS1:bM2 prog 62=some (68,9,96):=by kernel_rfl
theorem nF:kX prog 64=some 5:=by kernel_rfl
theorem eM5:dF prog 64 2=some 2:=by kernel_rfl
theorem uP:dF prog 64 3=some 4:=by kernel_rfl
theorem bZ4:kY prog 64=some [.string ⟨#[]⟩,.string ⟨#[]⟩,.int .i64 0,.int .i64 0,.slice none 0 0]:=by kernel_rfl
theorem dC0:kX prog 66=some 4:=by kernel_rfl
theorem cW8:dF prog 66 0=some 0:=by kernel_rfl
theorem dM7:dF prog 66 1=some 1:=by kernel_rfl
theorem fI1:kY prog 66=some [.int .i64 0,.string ⟨#[]⟩,.int .i64 0,.int .i64 0]:=by kernel_rfl
theorem fZ0:kX prog 68=some 9:=by kernel_rfl
theorem bG9:dF prog 68 0=some 0:=by kernel_rfl
theorem dN7:dF prog 68 1=some 1:=by kernel_rfl
theorem cA4:dF prog 68 2=some 5:=by kernel_rfl
theorem fC3:kY prog 68=some [.string ⟨#[]⟩,.int .i64 0,.string ⟨#[]⟩,.int .i64 0,.int .i64 0,.int .i64 0,.string ⟨#[]⟩,.int .i64 0,.int .i64 0]:=by kernel_rfl
theorem fJ:kX prog 74=some 5:=by kernel_rfl
theorem mD:dF prog 74 0=some 0:=by kernel_rfl
theorem qZ:dF prog 74 1=some 1:=by kernel_rfl
theorem rN:dF prog 74 2=some 2:=by kernel_rfl
theorem bR2:dF prog 74 3=some 3:=by kernel_rfl
theorem rZ:dF prog 74 4=some 4:=by kernel_rfl
theorem bX7:kY prog 74=some [.int .i64 0,.string ⟨#[]⟩,.string ⟨#[]⟩,.int .i64 0,.string ⟨#[]⟩]:=by kernel_rfl
theorem eH5:kJ prog 76=some (142,4):=by kernel_rfl
theorem fT1:bM2 prog 76=some (142,4,48):=by kernel_rfl
theorem dO3:kJ prog 79=some (146,6):=by kernel_rfl
theorem cI7:kX prog 84=some 2:=by kernel_rfl
theorem zY:dF prog 84 0=some 0:=by kernel_rfl
theorem zZ:dF prog 84 1=some 1:=by kernel_rfl
theorem eA7:kY prog 84=some [.string ⟨#[]⟩,.string ⟨#[]⟩]:=by kernel_rfl
theorem eK6:kX prog 99=some 15:=by kernel_rfl
theorem dO7:dF prog 99 0=some 0:=by kernel_rfl
theorem fD3:kY prog 99=some [.string ⟨#[]⟩,.int .i64 0,.int .i64 0,.int .i64 0,.int .i64 0,.int .i64 0,.int .i64 0,.int .i64 0,.int .i64 0,.int .i64 0,.int .i64 0,.int .i64 0,.int .i64 0,.int .i64 0,.int .i64 0]:=by kernel_rfl
theorem qH:jB prog 101=true:=by kernel_rfl
theorem jX:kJ prog 101=some (9,1):=by kernel_rfl
theorem dY5:bM2 prog 101=some (9,1,16):=by kernel_rfl
theorem dH2:jB prog 110=true:=by kernel_rfl
theorem cJ0:jB prog 111=true:=by kernel_rfl
theorem dJ9:jB prog 112=true:=by kernel_rfl
theorem dK9:jB prog 113=true:=by kernel_rfl
theorem cR2:jB prog 114=true:=by kernel_rfl
theorem zC:jB prog 115=true:=by kernel_rfl
theorem eK4:jB prog 116=true:=by kernel_rfl
theorem eL4:jB prog 117=true:=by kernel_rfl
theorem eK7:bM2 prog 117=some (226,2,16):=by kernel_rfl
theorem eJ1:dF prog 119 0=some 0:=by kernel_rfl
theorem bZ7:dF prog 119 1=some 16:=by kernel_rfl
theorem xR:dF prog 119 2=some 17:=by kernel_rfl
theorem cR3:dF prog 119 3=some 18:=by kernel_rfl
theorem bS3:dF prog 119 4=some 19:=by kernel_rfl
theorem cS3:dF prog 119 5=some 20:=by kernel_rfl
theorem bT0:dF prog 119 6=some 21:=by kernel_rfl
theorem qT:dF prog 119 7=some 22:=by kernel_rfl
theorem dJ1:dF prog 119 8=some 23:=by kernel_rfl
theorem dK1:dF prog 119 9=some 24:=by kernel_rfl
theorem eI:kX prog 138=some 3:=by kernel_rfl
theorem uY:dF prog 138 0=some 0:=by kernel_rfl
theorem eK1:dF prog 138 1=some 1:=by kernel_rfl
theorem cZ7:kY prog 138=some [.int .i64 0,.string ⟨#[]⟩,.int .i64 0]:=by kernel_rfl
theorem eL1:dF prog 142 1=some 1:=by kernel_rfl
theorem eM1:dF prog 142 3=some 3:=by kernel_rfl
theorem bC7:kX prog 146=some 6:=by kernel_rfl
theorem bU0:dF prog 146 0=some 0:=by kernel_rfl
theorem dL1:dF prog 146 1=some 1:=by kernel_rfl
theorem uE:dF prog 146 2=some 2:=by kernel_rfl
theorem dM1:dF prog 146 3=some 4:=by kernel_rfl
theorem dN1:dF prog 146 4=some 5:=by kernel_rfl
theorem dV2:kY prog 146=some [.string ⟨#[]⟩,.string ⟨#[]⟩,.int .i64 0,.int .i64 0,.int .i64 0,.int .i64 0]:=by kernel_rfl
theorem kM:kX prog 171=some 4:=by kernel_rfl
theorem mO:dF prog 171 0=some 0:=by kernel_rfl
theorem nY:dF prog 171 1=some 1:=by kernel_rfl
theorem qD:dF prog 171 2=some 2:=by kernel_rfl
theorem qU:dF prog 171 3=some 3:=by kernel_rfl
theorem cX2:kY prog 171=some [.int .i64 0,.string ⟨#[]⟩,.int .i64 0,.string ⟨#[]⟩]:=by kernel_rfl
theorem cT1:kJ prog 181=some (48,1):=by kernel_rfl
theorem bM0:kX prog 219=some 7:=by kernel_rfl
theorem nZ:dF prog 219 0=some 0:=by kernel_rfl
theorem qE:dF prog 219 1=some 1:=by kernel_rfl
theorem qV:dF prog 219 2=some 2:=by kernel_rfl
theorem cT3:dF prog 219 3=some 3:=by kernel_rfl
theorem bA8:dF prog 219 4=some 4:=by kernel_rfl
theorem cU3:dF prog 219 5=some 5:=by kernel_rfl
theorem cV3:dF prog 219 6=some 6:=by kernel_rfl
theorem cA8:kY prog 219=some [.string ⟨#[]⟩,.int .i64 0,.int .i64 0,.int .i64 0,.int .i64 0,.int .i64 0,.int .i64 0]:=by kernel_rfl
theorem cP2:kX prog 224=some 2:=by kernel_rfl
theorem eN4:kY prog 224=some [.string ⟨#[]⟩,.int .i64 0]:=by kernel_rfl
theorem cG7:kX prog 254=some 4:=by kernel_rfl
theorem bV0:dF prog 254 0=some 0:=by kernel_rfl
theorem cW3:dF prog 254 1=some 1:=by kernel_rfl
theorem cX3:dF prog 254 2=some 2:=by kernel_rfl
theorem cY3:dF prog 254 3=some 3:=by kernel_rfl
theorem eO4:kY prog 254=some [.string ⟨#[]⟩,.int .i64 0,.int .i64 0,.int .i64 0]:=by kernel_rfl
theorem eJ4:kX prog 255=some 2:=by kernel_rfl
theorem fG1:kY prog 255=some [.string ⟨#[]⟩,.string ⟨#[]⟩]:=by kernel_rfl
theorem eE4:kJ prog 256=some (255,2):=by kernel_rfl
theorem dF2:kX prog 258=some 3:=by kernel_rfl
theorem uF:dF prog 258 0=some 0:=by kernel_rfl
theorem wD:dF prog 258 1=some 1:=by kernel_rfl
theorem bT3:dF prog 258 2=some 2:=by kernel_rfl
theorem eP4:kY prog 258=some [.string ⟨#[]⟩,.string ⟨#[]⟩,.int .i64 0]:=by kernel_rfl
theorem dG2:kX prog 260=some 6:=by kernel_rfl
theorem uZ:dF prog 260 0=some 0:=by kernel_rfl
theorem bW0:dF prog 260 1=some 1:=by kernel_rfl
theorem bX0:dF prog 260 2=some 2:=by kernel_rfl
theorem qW:dF prog 260 3=some 3:=by kernel_rfl
theorem xS:dF prog 260 4=some 4:=by kernel_rfl
theorem xT:dF prog 260 5=some 5:=by kernel_rfl
theorem eQ4:kY prog 260=some [.string ⟨#[]⟩,.string ⟨#[]⟩,.int .i64 0,.int .i64 0,.int .i64 0,.int .i64 0]:=by kernel_rfl
theorem zB:kX prog 263=some 4:=by kernel_rfl
theorem vC:dF prog 263 0=some 0:=by kernel_rfl
theorem bU3:dF prog 263 1=some 1:=by kernel_rfl
theorem kB:dF prog 263 2=some 2:=by kernel_rfl
theorem cB8:kY prog 263=some [.string ⟨#[]⟩,.int .i64 0,.slice none 0 0,.bool false]:=by kernel_rfl
theorem rP:kX prog 271=some 3:=by kernel_rfl
theorem mC:dF prog 271 0=some 0:=by kernel_rfl
theorem kL:dF prog 271 1=some 1:=by kernel_rfl
theorem nI:dF prog 271 2=some 2:=by kernel_rfl
theorem cC8:kY prog 271=some [.string ⟨#[]⟩,.slice none 0 0,.slice none 0 0]:=by kernel_rfl
theorem cb6:bZ prog 6=true:=by kernel_rfl
theorem cb7:bZ prog 7=true:=by kernel_rfl
theorem cb8:bZ prog 8=true:=by kernel_rfl
theorem cb9:bZ prog 9=true:=by kernel_rfl
theorem fU1:bZ prog 10=true:=by kernel_rfl
theorem fV1:bZ prog 13=true:=by kernel_rfl
theorem fW1:bZ prog 14=true:=by kernel_rfl
theorem fX1:bZ prog 15=true:=by kernel_rfl
theorem fY1:bZ prog 16=true:=by kernel_rfl
theorem fZ1:bZ prog 24=true:=by kernel_rfl
theorem rK:bZ prog 25=true:=by kernel_rfl
theorem fA2:bZ prog 26=true:=by kernel_rfl
theorem fB2:bZ prog 27=true:=by kernel_rfl
theorem fC2:bZ prog 28=true:=by kernel_rfl
theorem fD2:bZ prog 29=true:=by kernel_rfl
theorem bP8:bZ prog 30=true:=by kernel_rfl
theorem eL9:bZ prog 31=true:=by kernel_rfl
theorem fE2:bZ prog 32=true:=by kernel_rfl
theorem fF2:bZ prog 33=true:=by kernel_rfl
theorem wH:bZ prog 34=true:=by kernel_rfl
theorem qN:bZ prog 35=true:=by kernel_rfl
theorem eM9:bZ prog 36=true:=by kernel_rfl
theorem fG2:bZ prog 39=true:=by kernel_rfl
theorem fH2:bZ prog 40=true:=by kernel_rfl
theorem eU0:bZ prog 41=true:=by kernel_rfl
theorem fI2:bZ prog 42=true:=by kernel_rfl
theorem dE3:bZ prog 43=true:=by kernel_rfl
theorem dF3:bZ prog 44=true:=by kernel_rfl
theorem cM5:bZ prog 45=true:=by kernel_rfl
theorem fJ2:bZ prog 46=true:=by kernel_rfl
theorem eV0:bZ prog 47=true:=by kernel_rfl
theorem fK2:bZ prog 51=true:=by kernel_rfl
theorem fL2:bZ prog 52=true:=by kernel_rfl
theorem qA:bZ prog 59=true:=by kernel_rfl
theorem xN:bZ prog 61=true:=by kernel_rfl
theorem fM2:bZ prog 62=true:=by kernel_rfl
theorem fN2:bZ prog 63=true:=by kernel_rfl
theorem eN9:bZ prog 64=true:=by kernel_rfl
theorem pO:bZ prog 67=true:=by kernel_rfl
theorem eO9:bZ prog 68=true:=by kernel_rfl
theorem bO2:bZ prog 69=true:=by kernel_rfl
theorem eP9:bZ prog 70=true:=by kernel_rfl
theorem eQ9:bZ prog 71=true:=by kernel_rfl
theorem fO2:bZ prog 72=true:=by kernel_rfl
theorem eR9:bZ prog 73=true:=by kernel_rfl
theorem fP2:bZ prog 74=true:=by kernel_rfl
theorem fQ2:bZ prog 76=true:=by kernel_rfl
theorem fR2:bZ prog 77=true:=by kernel_rfl
theorem fS2:bZ prog 78=true:=by kernel_rfl
theorem eS9:bZ prog 79=true:=by kernel_rfl
theorem eT9:bZ prog 80=true:=by kernel_rfl
theorem fT2:bZ prog 81=true:=by kernel_rfl
theorem fU2:bZ prog 83=true:=by kernel_rfl
theorem eU9:bZ prog 84=true:=by kernel_rfl
theorem bW1:bZ prog 90=true:=by kernel_rfl
theorem eV9:bZ prog 93=true:=by kernel_rfl
theorem eW9:bZ prog 94=true:=by kernel_rfl
theorem eX9:bZ prog 95=true:=by kernel_rfl
theorem eR3:bZ prog 100=true:=by kernel_rfl
theorem eP7:bZ prog 101=true:=by kernel_rfl
theorem eQ7:bZ prog 102=true:=by kernel_rfl
theorem eR7:bZ prog 103=true:=by kernel_rfl
theorem eS7:bZ prog 106=true:=by kernel_rfl
theorem eT7:bZ prog 107=true:=by kernel_rfl
theorem eU7:bZ prog 108=true:=by kernel_rfl
theorem eV7:bZ prog 109=true:=by kernel_rfl
theorem eW7:bZ prog 110=true:=by kernel_rfl
theorem eX7:bZ prog 111=true:=by kernel_rfl
theorem eY7:bZ prog 112=true:=by kernel_rfl
theorem eZ7:bZ prog 113=true:=by kernel_rfl
theorem eA8:bZ prog 114=true:=by kernel_rfl
theorem eB8:bZ prog 115=true:=by kernel_rfl
theorem vY:bZ prog 116=true:=by kernel_rfl
theorem dD6:bZ prog 117=true:=by kernel_rfl
theorem eS3:bZ prog 118=true:=by kernel_rfl
theorem eT3:bZ prog 119=true:=by kernel_rfl
theorem eC8:bZ prog 120=true:=by kernel_rfl
theorem eD8:bZ prog 121=true:=by kernel_rfl
theorem bN6:bZ prog 122=true:=by kernel_rfl
theorem dE6:bZ prog 123=true:=by kernel_rfl
theorem eE8:bZ prog 124=true:=by kernel_rfl
theorem eF8:bZ prog 125=true:=by kernel_rfl
theorem eG8:bZ prog 126=true:=by kernel_rfl
theorem dF6:bZ prog 127=true:=by kernel_rfl
theorem eU3:bZ prog 128=true:=by kernel_rfl
theorem eH8:bZ prog 129=true:=by kernel_rfl
theorem eI8:bZ prog 130=true:=by kernel_rfl
theorem eJ8:bZ prog 131=true:=by kernel_rfl
theorem eK8:bZ prog 134=true:=by kernel_rfl
theorem dV0:bZ prog 135=true:=by kernel_rfl
theorem eL8:bZ prog 136=true:=by kernel_rfl
theorem dG6:bZ prog 137=true:=by kernel_rfl
theorem dH6:bZ prog 138=true:=by kernel_rfl
theorem bK3:bZ prog 141=true:=by kernel_rfl
theorem dW0:bZ prog 142=true:=by kernel_rfl
theorem eV3:bZ prog 149=true:=by kernel_rfl
theorem eM8:bZ prog 150=true:=by kernel_rfl
theorem eN8:bZ prog 151=true:=by kernel_rfl
theorem eW3:bZ prog 152=true:=by kernel_rfl
theorem eX3:bZ prog 156=true:=by kernel_rfl
theorem eO8:bZ prog 157=true:=by kernel_rfl
theorem dX0:bZ prog 159=true:=by kernel_rfl
theorem eP8:bZ prog 163=true:=by kernel_rfl
theorem eQ8:bZ prog 164=true:=by kernel_rfl
theorem eR8:bZ prog 165=true:=by kernel_rfl
theorem eS8:bZ prog 166=true:=by kernel_rfl
theorem eT8:bZ prog 167=true:=by kernel_rfl
theorem dI6:bZ prog 168=true:=by kernel_rfl
theorem eY3:bZ prog 169=true:=by kernel_rfl
theorem bL3:bZ prog 170=true:=by kernel_rfl
theorem eZ3:bZ prog 171=true:=by kernel_rfl
theorem eU8:bZ prog 172=true:=by kernel_rfl
theorem eV8:bZ prog 173=true:=by kernel_rfl
theorem eW8:bZ prog 174=true:=by kernel_rfl
theorem dJ6:bZ prog 175=true:=by kernel_rfl
theorem eX8:bZ prog 187=true:=by kernel_rfl
theorem eY8:bZ prog 189=true:=by kernel_rfl
theorem eZ8:bZ prog 190=true:=by kernel_rfl
theorem eA9:bZ prog 191=true:=by kernel_rfl
theorem eA4:bZ prog 193=true:=by kernel_rfl
theorem eB4:bZ prog 203=true:=by kernel_rfl
theorem eB9:bZ prog 208=true:=by kernel_rfl
theorem eC9:bZ prog 209=true:=by kernel_rfl
theorem eD9:bZ prog 210=true:=by kernel_rfl
theorem zQ:bZ prog 211=true:=by kernel_rfl
theorem cL5:bZ prog 212=true:=by kernel_rfl
theorem eC4:bZ prog 213=true:=by kernel_rfl
theorem eE9:bZ prog 214=true:=by kernel_rfl
theorem eF9:bZ prog 215=true:=by kernel_rfl
theorem eG9:bZ prog 216=true:=by kernel_rfl
theorem eH9:bZ prog 222=true:=by kernel_rfl
theorem dK6:bZ prog 223=true:=by kernel_rfl
theorem eI9:bZ prog 241=true:=by kernel_rfl
theorem eJ9:bZ prog 242=true:=by kernel_rfl
theorem eK9:bZ prog 243=true:=by kernel_rfl
theorem dY0:bZ prog 244=true:=by kernel_rfl
theorem eD4:bZ prog 245=true:=by kernel_rfl
theorem mixed:prog.follows .mixedOrders=true:=by kernel_rfl
theorem dO1:(prog.info? 68).map (·.size)=some 9:=by kernel_rfl
theorem eH6 (at_:Int) (st:ByteArray) (m f:Int) (w:World):
 (binOp .neq 66 (.agg #[.int .i64 at_,.string st,.int .i64 m,.int .i64 f]) (.agg #[.int .i64 (-1),.string ⟨#[]⟩,.int .i64 0,.int .i64 0])).run prog w= .ok (.bool (dZ1 ⟨at_,st,m,f⟩)) w:=by
 have hS:prog.underlying 66=some (.struct (prog.fieldsOf 66)):=by kernel_rfl
 have hp:prog.stoodInHeld 66=false:=by kernel_rfl
 rw [run_neq_struct,show (10000:Nat)=9999+1 from rfl,run_equalIn_agg w 9999 66 _ _ hS hp]
 simp only [Program.fieldsOf,Tryz.underlying66]
 have u3:=Tryz.underlying3
 have u9:=Tryz.underlying9
 go_simp
 by_cases h1:at_= -1 <;> by_cases h2:st.toList= [] <;> by_cases h3:m=0 <;> by_cases h4:f=0 <;> simp [dZ1,h1,h2,h3,h4]
theorem bO6 (x:Int):dG [0,x]=x:=by
 simp only [dG];split <;> simp_all
theorem cR9 {fr:Int} {p:Option Lg} {last:Bool} {g:Lg} {e:Int} (h:dG [dI (!keyB g.veh) 5,pV g.out]=e) (hne:e≠0):bU9 fr p last g=e:=by
 unfold bU9
 simp only [dG] at h ⊢
 split
 ·rename_i h1
  rw [if_pos h1] at h
  split
  ·rename_i h2
   rw [if_pos h2] at h
   exact absurd h.symm hne
  ·rename_i h2
   rw [if_neg h2] at h
   exact h
 ·rename_i h1
  rw [if_neg h1] at h
  exact h
theorem cQ9 {fr:Int} {p:Option Lg} {last:Bool} {g:Lg} (h:dG [dI (!keyB g.veh) 5,pV g.out]=0):bU9 fr p last g=dG [vQ fr p g,bW9 last g]:=by
 have:=bQ2 h
 unfold bU9
 rw [this.1,this.2]
 rfl
theorem cI3 (key driver:ByteArray) (fr to_:Int) (l:List Lg) (A:Option Addr) (n c i:Nat) (g:Lg) (w:World) (hl:SlT lgEnc 9 68 w A n l) (hi:l[i]?=some g) (hok:∀g∈l,cF8 g) (hn:n<=1000000):
 Calls prog 92 #[.agg #[.string key,.string driver,.int .i64 fr,.int .i64 to_,.slice A n c],.int .i64 (i:Int)] w (mP w (bU9 fr (prevOf l i) (decide (i+1=n)) g)):=by
 have hin:i < n:=by have:=(List.getElem?_eq_some_iff.1 hi).1;have:=hl.len;omega
 obtain ⟨b,off,rfl,hbl,hrg⟩:=hl.get (by omega)
 have hgo:=hok g (fX3 hi)
 have hpv:∀q,l[i - 1]?=some q->cF8 q:=fun q hq=>hok q (fX3 hq)
 have hr0:=hrg i g hi
 obtain ⟨E1,hE1⟩:∃E,E=dG [dI (!keyB g.veh) 5,pV g.out]:=⟨_,rfl⟩
 have hstop:=fun (h:E1≠0)=>cR9 (fr:=fr) (p:=prevOf l i) (last:=decide (i+1=n)) hE1.symm h
 have hpass:=fun (h:E1=0)=>cQ9 (fr:=fr) (p:=prevOf l i) (last:=decide (i+1=n)) (g:=g) (hE1.symm.trans h)
 have Hstop:=Lib.hid hstop
 have Hpass:=Lib.hid hpass
 obtain ⟨R,hR⟩:∃R,R=bU9 fr (prevOf l i) (decide (i+1=n)) g:=⟨_,rfl⟩
 rw [<-hR] at Hstop Hpass ⊢
 obtain ⟨veh,⟨a1,s1,m1,f1⟩,⟨a2,s2,m2,f2⟩⟩:=g
 have cK:∀w,Calls prog 90 #[.string veh] w fun e w'=>e=.returned (.bool (keyB veh))/\w'=w:=fun w=>nE (isKey_any _ _ (by have:=hgo.1;simp at this;omega))
 have hE1':E1=dG [dI (!keyB veh) 5,pV ⟨a1,s1,m1,f1⟩]:=hE1
 generalize keyB veh=K at cK hE1'
 have hr:w.rangeAt b (off+i *9) [.string veh,.int .i64 a1,.string s1,.int .i64 m1,.int .i64 f1,.int .i64 a2,.string s2,.int .i64 m2,.int .i64 f2]:=hr0
 have ho1:RdOk ⟨a1,s1,m1,f1⟩:=hgo.2.1
 have ho2:RdOk ⟨a2,s2,m2,f2⟩:=hgo.2.2
 have CK:=Lib.hid cK
 have HE1:=Lib.hid hE1'
 have Hrg:=Lib.hid hrg
 have Ho1:=Lib.hid ho1
 have Ho2:=Lib.hid ho2
 have hr':=fun (o:Obj)=>(show (w.alloc o).rangeAt b (off+i *9) [.string veh,.int .i64 a1,.string s1,.int .i64 m1,.int .i64 f1,.int .i64 a2,.string s2,.int .i64 m2,.int .i64 f2] from fun j v hv=>(World.cell?_alloc_lt w o _ hbl).trans (hr j v hv))
 clear hstop hpass hE1 hE1' cK hrg ho1 ho2 hr0 hr hgo hR
 go_enter func92,ntmps92
 go_wp2_with (with_reducible refine zF rfl 68 (.tmp 11) rfl b (off+i *9) rfl _ _ (hr' _) Tryz.underlying68 rfl 9 dO1 rfl ?_)
 refine wp_region_still_tail 7 (by kernel_rfl) (by kernel_rfl) ?_
 change wpStill _ _ (World.drew _) _ _ _
 simp only [List.take_succ_cons,List.take_zero,List.drop_succ_cons,List.drop_zero]
 repeat still_step
 still_call (CK.out _)
 repeat still_step
 still_call (nE (eH _ _ _))
 repeat still_step
 refine wpStill_nil ?_
 change wpList _ _ _ _ _ (World.drew _)
 go_wp2_with fail
 refine (wX ⟨a1,s1,m1,f1⟩ _ Ho1.out).mono ?_
 rintro e w1 ⟨rfl,hg1⟩
 obtain ⟨R1,hR1⟩:∃R,R=pV ⟨a1,s1,m1,f1⟩:=⟨_,rfl⟩
 rw [<-hR1] at HE1 ⊢
 clear hR1
 have hz:=hg1.size
 simp at hz
 have hb0:Blk w1 w.heap.size 64 [.string key,.string driver,.int .i64 fr,.int .i64 to_,.slice (some ⟨b,off,none⟩) n c]:=(((Blk.at_ w rfl _ _).alloc _).drew).grown hg1 (by simp)
 have hb1:Blk w1 (w.heap.size+1) 68 [.string veh,.int .i64 a1,.string s1,.int .i64 m1,.int .i64 f1,.int .i64 a2,.string s2,.int .i64 m2,.int .i64 f2]:=((Blk.at_ (w.alloc _) (by simp) _ _).drew).grown hg1 (by simp)
 have hgw:w.grownBy w1 none:=grow_trans (pG (grow_alloc (grow_alloc (World.grownBy.refl _ _) _) _)) hg1
 clear hg1 hr'
 go_wp2_with fail
 refine (fN [dI (!K) 5,R1] _ _ _ _ (Blk.at_ _ U _ _) (by simp)).mono ?_
 rintro e w2 ⟨rfl,rfl⟩
 rw [<-HE1.out]
 obtain ⟨w2,hw2⟩:∃w2,w2=w1.alloc (.cells (List.map (Value.int .i64) [dI (!K) 5,R1]).toArray 48):=⟨_,rfl⟩
 have hg2:w1.grownBy w2 none:=by rw [hw2];exact grow_alloc (World.grownBy.refl _ _) _
 rw [<-hw2]
 have hb0:=hb0.grown hg2 (by simp)
 have hb1:=hb1.grown hg2 (by simp)
 have hgw:=grow_trans hgw hg2
 have hz:=Nat.lt_of_lt_of_le (show w.heap.size+1 < w1.heap.size by omega) hg2.size
 clear hw2 hg2
 by_cases hE0:E1=0
 ·have hpass:=Hpass.out hE0
  have HP:=Lib.hid hpass
  subst hE0
  clear hpass
  have h2:=hb0.cell_of (i:=2) (v:= .int .i64 fr) rfl
  have h3:=hb0.cell_of (i:=3) (v:= .int .i64 to_) rfl
  have h4:=hb0.cell_of (i:=4) (v:= .slice (some ⟨b,off,none⟩) n c) rfl
  have g0:=hb1.cell_of (i:=0) (v:= .string veh) rfl
  have g1:=hb1.cell_of (i:=1) (v:= .int .i64 a1) rfl
  have g2:=hb1.cell_of (i:=2) (v:= .string s1) rfl
  have g3:=hb1.cell_of (i:=3) (v:= .int .i64 m1) rfl
  have g4:=hb1.cell_of (i:=4) (v:= .int .i64 f1) rfl
  have g5:=hb1.cell_of (i:=5) (v:= .int .i64 a2) rfl
  have g6:=hb1.cell_of (i:=6) (v:= .string s2) rfl
  have g7:=hb1.cell_of (i:=7) (v:= .int .i64 m2) rfl
  have g8:=hb1.cell_of (i:=8) (v:= .int .i64 f2) rfl
  go_upto_if 27 with fail
  go_cut [] (fun wx=>vQ fr (prevOf l i) ⟨veh,⟨a1,s1,m1,f1⟩,⟨a2,s2,m2,f2⟩⟩=0/\w2.grownBy wx none)
  case first=>
   by_cases hi0:i=0
   ·subst hi0
    have hq:(((0:Nat):Int)==0)=true:=rfl
    have hV:vQ fr (prevOf l 0) ⟨veh,⟨a1,s1,m1,f1⟩,⟨a2,s2,m2,f2⟩⟩=if a1=fr then 0 else 7:=rfl
    have HV:=Lib.hid hV
    by_cases hf:a1=fr
    ·have hne:(a1 !=fr)=false:=by simpa using hf
     have HW:=Lib.hid (show vQ fr (prevOf l 0) ⟨veh,⟨a1,s1,m1,f1⟩,⟨a2,s2,m2,f2⟩⟩=0 by rw [HV.out,if_pos hf])
     clear hV hf
     go_wp2_with fail
     go_meet
     exact ⟨HW.out,World.grownBy.refl _ _⟩
    ·have hne:(a1 !=fr)=true:=by simpa using hf
     have HW:=Lib.hid (show vQ fr (prevOf l 0) ⟨veh,⟨a1,s1,m1,f1⟩,⟨a2,s2,m2,f2⟩⟩=7 by rw [HV.out,if_neg hf])
     clear hV hf
     go_wp2_with fail
     go_ret
     exact ⟨bT (by rw [HP.out,HW.out];rfl),hgw⟩
   ·have hq:((i:Int)==0)=false:=by simpa using hi0
    obtain ⟨⟨qveh,⟨qa1,qs1,qm1,qf1⟩,⟨qa2,qs2,qm2,qf2⟩⟩,hq1⟩:∃q,l[i - 1]?=some q:=⟨_,fW3 (by have:=(List.getElem?_eq_some_iff.1 hi).1;omega)⟩
    have hpo:prevOf l i=some ⟨qveh,⟨qa1,qs1,qm1,qf1⟩,⟨qa2,qs2,qm2,qf2⟩⟩:=by simp [prevOf,hi0,hq1]
    have hrq0:=Hrg.out (i - 1) _ hq1
    have hrq:w.rangeAt b (off+(i - 1) *9) [.string qveh,.int .i64 qa1,.string qs1,.int .i64 qm1,.int .i64 qf1,.int .i64 qa2,.string qs2,.int .i64 qm2,.int .i64 qf2]:=hrq0
    have hki:(i:Int) - 1=((i - 1:Nat):Int):=by omega
    have hk1n:(i:Int) - 1 < (n:Int):=by omega
    have hr2:=cR4 hrq hbl hgw
    have hV:vQ fr (prevOf l i) ⟨veh,⟨a1,s1,m1,f1⟩,⟨a2,s2,m2,f2⟩⟩=if a1=qa2 then (if zH veh qveh then 16 else if zH s1 qs2 then 0 else 8) else 7:=by rw [hpo];rfl
    have HV:=Lib.hid hV
    clear hV hpo hrq hrq0 hq1 hi0
    go_wp2_with (with_reducible refine zF rfl 68 (.tmp 39) rfl b (off+(i - 1) *9) rfl _ _ hr2 Tryz.underlying68 rfl 9 dO1 rfl ?_)
    ·go_ret
     rename_i h1
     have h1':¬a1=qa2:=by simpa using h1
     exact ⟨bT (by rw [HP.out,HV.out,if_neg h1'];rfl),grow_alloc hgw _⟩
    ·go_ret
     rename_i h1 h2
     have h1':a1=qa2:=by simpa using h1
     have h2':zH veh qveh=true:=h2
     exact ⟨bT (by rw [HP.out,HV.out,if_pos h1',if_pos h2'];rfl),grow_alloc hgw _⟩
    ·go_ret
     rename_i h1 h2 h3
     have h1':a1=qa2:=by simpa using h1
     have h2':¬zH veh qveh=true:=by simpa [zH] using h2
     have h3':¬zH s1 qs2=true:=by simpa [zH] using h3
     exact ⟨bT (by rw [HP.out,HV.out,if_pos h1',if_neg h2',if_neg h3'];rfl),grow_alloc hgw _⟩
    ·go_meet
     rename_i h1 h2 h3
     have h1':a1=qa2:=by simpa using h1
     have h2':¬zH veh qveh=true:=by simpa [zH] using h2
     have h3':zH s1 qs2=true:=by simpa [zH] using h3
     exact ⟨by rw [HV.out,if_pos h1',if_neg h2',if_pos h3'],grow_alloc (World.grownBy.refl _ _) _⟩
  case rest=>
   obtain ⟨hp0,hg3⟩:=hcut
   obtain ⟨w3,hw3⟩:∃w3:World,w3=wc:=⟨_,rfl⟩
   rw [<-hw3] at hg3 ⊢
   clear hw3
   have hb0:=hb0.grown hg3 (by simp)
   have hb1:=hb1.grown hg3 (by simp)
   have hgw:=grow_trans hgw hg3
   have HR:=Lib.hid (show R=dG [0,bW9 (decide (i+1=n)) ⟨veh,⟨a1,s1,m1,f1⟩,⟨a2,s2,m2,f2⟩⟩] by rw [HP.out,hp0])
   have k4:=hb0.cell_of (i:=4) (v:= .slice (some ⟨b,off,none⟩) n c) rfl
   have k1:=hb1.cell_of (i:=1) (v:= .int .i64 a1) rfl
   have k5:=hb1.cell_of (i:=5) (v:= .int .i64 a2) rfl
   have k6:=hb1.cell_of (i:=6) (v:= .string s2) rfl
   have k7:=hb1.cell_of (i:=7) (v:= .int .i64 m2) rfl
   have k8:=hb1.cell_of (i:=8) (v:= .int .i64 f2) rfl
   clear hp0 HP h2 h3 h4 g0 g1 g2 g3 g4 g5 g6 g7 g8
   by_cases ha:a2= -1
   ·subst ha
    have hq:=fun w=>eH6 (-1) s2 m2 f2 w
    obtain ⟨Z,hZ⟩:∃Z,Z=dZ1 ⟨-1,s2,m2,f2⟩:=⟨_,rfl⟩
    rw [<-hZ] at hq
    have HZ:=Lib.hid hZ
    have hlt:decide ((i:Int) < (n:Int) - 1)= !decide (i+1=n):=by
     by_cases hl:i+1=n <;> simp [hl] <;> omega
    obtain ⟨L,hL⟩:∃L,L=decide (i+1=n):=⟨_,rfl⟩
    rw [<-hL] at hlt HR
    clear hZ hL
    go_wp2_with fail
    refine wp_region_still_tail 12 (by kernel_rfl) (by kernel_rfl) ?_
    change wpStill _ _ (World.drew _) _ _ _
    simp only [List.take_succ_cons,List.take_zero,List.drop_succ_cons,List.drop_zero]
    repeat still_step
    still_call (nE (eH _ _ _))
    repeat still_step
    still_call (nE (eH _ _ _))
    repeat still_step
    refine wpStill_nil ?_
    change wpList _ _ _ _ _ (World.drew _)
    go_wp2_with fail
    refine (fN [dI Z 3,dI (!L) 11] _ _ _ _ ((Blk.at_ _ U _ _).drew) (by simp)).mono ?_
    rintro e w4 ⟨rfl,rfl⟩
    go_wp2_with fail
    go_ret
    refine ⟨bT ?_,pG (grow_alloc hgw _)⟩
    rw [HR.out,HZ.out];simp [bW9,bO6]
   ·have hne:(a2== -1)=false:=by simpa using ha
    have hfin:=fun (e:Int) (h:e=dG [pV ⟨a2,s2,m2,f2⟩,dI (decide (a2<=a1)) 7])=>(show e=R by rw [HR.out,h];simp only [bW9,if_neg ha,bO6])
    have Hfin:=Lib.hid hfin
    clear hfin
    go_wp2_with fail
    go_region_held3 (fun wx=>wx.cell? ⟨w.heap.size+1,1,none⟩=some (.int .i64 a1)/\wx.cell? ⟨w.heap.size+1,5,none⟩=some (.int .i64 a2)/\wx.cell? ⟨w.heap.size+1,6,none⟩=some (.string s2)/\wx.cell? ⟨w.heap.size+1,7,none⟩=some (.int .i64 m2)/\wx.cell? ⟨w.heap.size+1,8,none⟩=some (.int .i64 f2))
     (first
      |exact ⟨k1,k5,k6,k7,k8⟩
      |exact q4
      |exact q5 _)
     (first
      |(go_at_call 140;refine (wX ⟨a2,s2,m2,f2⟩ _ Ho2.out).mono ?_;rintro e w4 ⟨rfl,hg4⟩;have hb2:Blk w4 (w.heap.size+1) 68 [.string veh,.int .i64 a1,.string s1,.int .i64 m1,.int .i64 f1,.int .i64 a2,.string s2,.int .i64 m2,.int .i64 f2]:=(hb1.drewN 1).grown hg4 (by simp);have q5:=fun o=>And.intro ((hb2.alloc o).cell_of (i:=1) (v:= .int .i64 a1) rfl) (And.intro ((hb2.alloc o).cell_of (i:=5) (v:= .int .i64 a2) rfl) (And.intro ((hb2.alloc o).cell_of (i:=6) (v:= .string s2) rfl) (And.intro ((hb2.alloc o).cell_of (i:=7) (v:= .int .i64 m2) rfl) ((hb2.alloc o).cell_of (i:=8) (v:= .int .i64 f2) rfl))));have q4:=And.intro (hb2.cell_of (i:=1) (v:= .int .i64 a1) rfl) (And.intro (hb2.cell_of (i:=5) (v:= .int .i64 a2) rfl) (And.intro (hb2.cell_of (i:=6) (v:= .string s2) rfl) (And.intro (hb2.cell_of (i:=7) (v:= .int .i64 m2) rfl) (hb2.cell_of (i:=8) (v:= .int .i64 f2) rfl)))))
      |(go_at_call 35;refine (eH _ _ _).mono ?_;rintro e w5 ⟨rfl,rfl⟩)
      |(go_at_call 34;refine (fN [pV ⟨a2,s2,m2,f2⟩,dI (decide (a2<=a1)) 7] _ _ _ _ (Blk.at_ _ rfl _ _) (by simp)).mono ?_;rintro e w6 ⟨rfl,rfl⟩))
    all_goals
     go_wp2_with fail
     go_ret
     exact ⟨bT (Hfin.out _ U),grow_alloc (grow_trans (pG hgw) hg4) _⟩
 ·have hne:(E1 !=0)=true:=by simpa using hE0
  have HR:=Lib.hid (Hstop.out hE0)
  clear hE0
  go_wp2_with fail
  go_ret
  exact ⟨bT HR.out.symm,hgw⟩
theorem eZ1 {fr:Int} {l:List Lg} {k:Nat} {g:Lg} (h:l[k]?=some g):
 bD4 fr l (l.length - k)=if bU9 fr (prevOf l k) (decide (k+1=l.length)) g=0 then bD4 fr l (l.length - (k+1)) else bU9 fr (prevOf l k) (decide (k+1=l.length)) g:=by
 have hk:=(List.getElem?_eq_some_iff.1 h).1
 obtain ⟨m,hm⟩:∃m,l.length - k=m+1:=⟨l.length - k - 1,by omega⟩
 have hm2:l.length - (k+1)=m:=by omega
 have hm3:l.length - (m+1)=k:=by omega
 rw [hm,hm2]
 simp only [bD4,hm3,h]
 have:decide (m=0)=decide (k+1=l.length):=by
  by_cases h:k+1=l.length <;> simp [h] <;> omega
 rw [this]
def HrOk (key driver:ByteArray) (l:List Lg):Prop:=key.size<=1000000/\driver.size<=1000000/\∀g∈l,cF8 g
theorem cE9 {key driver:ByteArray} {fr to_:Int} {l:List Lg} {e:Int} (h:e=dG [dI (!keyB key|| !keyB driver) 5,zD fr to_]) (hne:e≠0):hireE ⟨key,driver,fr,to_,l⟩=e:=by
 unfold hireE
 simp only [dG] at h ⊢
 split
 ·rename_i h1
  rw [if_pos h1] at h
  split
  ·rename_i h2
   rw [if_pos h2] at h
   exact absurd h hne
  ·rename_i h2
   rw [if_neg h2] at h
   exact h.symm
 ·rename_i h1
  rw [if_neg h1] at h
  exact h.symm
theorem cR8 (X:Int):dG [0,0,X]=X:=by
 show dG [X]=X
 by_cases h:X=0
 ·rw [h];rfl
 ·simp [dG,h]
theorem cD9 {key driver:ByteArray} {fr to_:Int} {l:List Lg} (h:0=dG [dI (!keyB key|| !keyB driver) 5,zD fr to_]):hireE ⟨key,driver,fr,to_,l⟩=if l.length=0 then 3 else if 20 < l.length then 2 else bD4 fr l l.length:=by
 have:=bQ2 h.symm
 unfold hireE
 simp only [this.1,this.2]
 exact cR8 _
theorem hcheck_any (key driver:ByteArray) (fr to_:Int) (l:List Lg) (A:Option Addr) (n c:Nat) (w:World) (hl:SlT lgEnc 9 68 w A n l) (hok:HrOk key driver l) (hn:n<=1000000):
 Calls prog 40 #[.agg #[.string key,.string driver,.int .i64 fr,.int .i64 to_,.slice A n c]] w (mP w (hireE ⟨key,driver,fr,to_,l⟩)):=by
 obtain ⟨E1,hE1⟩:∃E,E=dG [dI (!keyB key|| !keyB driver) 5,zD fr to_]:=⟨_,rfl⟩
 have Hstop:=Lib.hid (fun (h:E1≠0)=>cE9 (l:=l) hE1 h)
 have Hpass:=Lib.hid (fun (h:E1=0)=>cD9 (l:=l) (h.symm.trans hE1))
 have Hl:=Lib.hid hl.len
 have cK:∀w,Calls prog 90 #[.string key] w fun e w'=>e=.returned (.bool (keyB key))/\w'=w:=fun w=>nE (isKey_any _ _ (by have:=hok.1;omega))
 have cD:∀w,Calls prog 90 #[.string driver] w fun e w'=>e=.returned (.bool (keyB driver))/\w'=w:=fun w=>nE (isKey_any _ _ (by have:=hok.2.1;omega))
 have Hok:=Lib.hid hok.2.2
 generalize keyB key=K at cK hE1
 generalize keyB driver=D at cD hE1
 obtain ⟨R,hR⟩:∃R,R=hireE ⟨key,driver,fr,to_,l⟩:=⟨_,rfl⟩
 rw [<-hR] at Hstop Hpass ⊢
 have CK:=Lib.hid cK
 have CD:=Lib.hid cD
 have HE1:=Lib.hid hE1
 clear cK cD hE1 hR hok
 obtain ⟨T,hT⟩:∃T,T=zD fr to_:=⟨_,rfl⟩
 have cT:∀w,Calls prog 91 #[.agg #[.int .i64 fr,.int .i64 to_]] w (mP w T):=fun w=>by rw [hT];exact dU9 _ _ _
 have CT:=Lib.hid cT
 rw [<-hT] at HE1
 clear cT hT
 go_enter func40,ntmps40
 go_wp2_with fail
 have hB:Blk (w.alloc (.cells #[.string key,.string driver,.int .i64 fr,.int .i64 to_,.slice A n c] 64)) w.heap.size 64 [.string key,.string driver,.int .i64 fr,.int .i64 to_,.slice A n c]:=Blk.at_ w rfl _ _
 have k0:=hB.cell_of (i:=0) (v:= .string key) rfl
 have k1:=hB.cell_of (i:=1) (v:= .string driver) rfl
 have k2:=hB.cell_of (i:=2) (v:= .int .i64 fr) rfl
 have k3:=hB.cell_of (i:=3) (v:= .int .i64 to_) rfl
 go_upto_region 1 with fail
 go_cut [3] (fun v wx=>v= .int .i64 E1/\(w.alloc (.cells #[.string key,.string driver,.int .i64 fr,.int .i64 to_,.slice A n c] 64)).grownBy wx none)
 case first=>
  cases K
  ·first|go_region_with (first
    |(go_at_call 91;refine (CT.out _).mono ?_;rintro e w4 ⟨rfl,hg4⟩)
    |(go_at_call 90;with_reducible refine (CK.out _).mono ?_;rintro e w3 ⟨rfl,rfl⟩)
    |(go_at_call 90;with_reducible refine (CD.out _).mono ?_;rintro e w3 ⟨rfl,rfl⟩)
    |(go_at_call 35;refine (eH _ _ _).mono ?_;rintro e w5 ⟨rfl,rfl⟩)
    |(go_at_call 34;refine (fN [dI true 5,T] _ _ _ _ (Blk.at_ _ rfl _ _) (by simp)).mono ?_;rintro e w6 ⟨rfl,rfl⟩))|fail
   all_goals
    go_wp2_with fail
    go_meet
    exact ⟨dA2 (by rw [HE1.out];rfl),grow_alloc (grow_trans (pG (World.grownBy.refl _ _)) hg4) _⟩
  ·go_region_held3 (fun wx=>wx.cell? ⟨w.heap.size,0,none⟩=some (.string key)/\wx.cell? ⟨w.heap.size,1,none⟩=some (.string driver)/\wx.cell? ⟨w.heap.size,2,none⟩=some (.int .i64 fr)/\wx.cell? ⟨w.heap.size,3,none⟩=some (.int .i64 to_))
    (first
     |exact ⟨k0,k1,k2,k3⟩
     |exact q4
     |exact q5 _)
    (first
     |(go_at_call 91;refine (CT.out _).mono ?_;rintro e w4 ⟨rfl,hg4⟩;have hb2:=(hB.drewN 1).grown hg4 (by simp);have q5:=fun o=>And.intro ((hb2.alloc o).cell_of (i:=0) (v:= .string key) rfl) (And.intro ((hb2.alloc o).cell_of (i:=1) (v:= .string driver) rfl) (And.intro ((hb2.alloc o).cell_of (i:=2) (v:= .int .i64 fr) rfl) ((hb2.alloc o).cell_of (i:=3) (v:= .int .i64 to_) rfl)));have q4:=And.intro (hb2.cell_of (i:=0) (v:= .string key) rfl) (And.intro (hb2.cell_of (i:=1) (v:= .string driver) rfl) (And.intro (hb2.cell_of (i:=2) (v:= .int .i64 fr) rfl) (hb2.cell_of (i:=3) (v:= .int .i64 to_) rfl))))
     |(go_at_call 90;with_reducible refine (CK.out _).mono ?_;rintro e w3 ⟨rfl,rfl⟩)
     |(go_at_call 90;with_reducible refine (CD.out _).mono ?_;rintro e w3 ⟨rfl,rfl⟩)
     |(go_at_call 35;refine (eH _ _ _).mono ?_;rintro e w5 ⟨rfl,rfl⟩)
     |(go_at_call 34;refine (fN [dI (!D) 5,T] _ _ _ _ (Blk.at_ _ rfl _ _) (by simp)).mono ?_;rintro e w6 ⟨rfl,rfl⟩))
   all_goals
    go_wp2_with fail
    go_meet
    exact ⟨dA2 (by rw [HE1.out];rfl),grow_alloc (grow_trans (pG (World.grownBy.refl _ _)) hg4) _⟩
 case rest=>
  obtain ⟨rfl,hg1⟩:=hcut
  obtain ⟨w1,hw1⟩:∃w1:World,w1=wc:=⟨_,rfl⟩
  rw [<-hw1] at hg1 ⊢
  clear hw1 k0 k1 k2 k3
  have hb:=hB.grown hg1 (by simp)
  have hgw:w.grownBy w1 none:=grow_trans (grow_alloc (World.grownBy.refl _ _) _) hg1
  clear hg1 hB
  by_cases h0:E1=0
  ·have HP:=Lib.hid (Hpass.out h0)
   subst h0
   have k4:=hb.cell_of (i:=4) (v:= .slice A n c) rfl
   by_cases hn0:n=0
   ·have hq:((n:Int)==0)=true:=by simpa using hn0
    have HF:=Lib.hid (show R=3 by rw [HP.out,if_pos (by rw [Hl.out];exact hn0)])
    clear hn0
    go_wp2_with fail
    go_ret
    exact ⟨bT HF.out.symm,hgw⟩
   ·have hq:((n:Int)==0)=false:=by simpa using hn0
    by_cases h20:20 < n
    ·have hq2:decide ((20:Int) < (n:Int))=true:=by simp;omega
     have hq3:decide (20 < n)=true:=by simpa using h20
     have HF:=Lib.hid (show R=2 by rw [HP.out,if_neg (by rw [Hl.out];exact hn0),if_pos (by rw [Hl.out];exact h20)])
     clear hn0
     go_wp2_with fail
     go_ret
     exact ⟨bT HF.out.symm,hgw⟩
    ·have hq2:decide ((20:Int) < (n:Int))=false:=by simp;omega
     have hq3:decide (20 < n)=false:=by simpa using h20
     have HF:=Lib.hid (show R=bD4 fr l (l.length - 0) by rw [HP.out,if_neg (by rw [Hl.out];exact hn0),if_neg (by rw [Hl.out];exact h20)];rfl)
     clear hn0 HP
     have hn20:n<=20:=by omega
     go_wp2_with fail
     go_loopw [38] (fun i wr=>∃k:Nat,k<=n/\i= .int .i64 k/\R=bD4 fr l (l.length - k)/\w1.grownBy wr none) (fun i _=>n - (intOf i).toNat)
     case atStart=>exact ⟨0,Nat.zero_le _,rfl,HF.out,World.grownBy.refl _ _⟩
     case round=>
      obtain ⟨k,hk,rfl,hE,hgr⟩:=hrel
      have HE:=Lib.hid hE;clear hE
      by_cases hlt:k < n
      ·have hlr:=hl.grow0 (grow_trans hgw hgr)
       obtain ⟨g,hg⟩:∃g,l[k]?=some g:=⟨_,fW3 (by have:=Hl.out;omega)⟩
       have hat:=eZ1 (fr:=fr) hg
       obtain ⟨E,zM⟩:∃E,E=bU9 fr (prevOf l k) (decide (k+1=n)) g:=⟨_,rfl⟩
       rw [Hl.out,<-zM] at hat
       rw [Hl.out] at HE
       have Hat:=Lib.hid hat;clear hat
       have HEE:=Lib.hid zM;clear zM
       have hbr:=hb.grown hgr (by simp)
       have c0:=hbr.cell_of (i:=0) (v:= .string key) rfl
       have c1:=hbr.cell_of (i:=1) (v:= .string driver) rfl
       have c2:=hbr.cell_of (i:=2) (v:= .int .i64 fr) rfl
       have c3:=hbr.cell_of (i:=3) (v:= .int .i64 to_) rfl
       have c4:=hbr.cell_of (i:=4) (v:= .slice A n c) rfl
       have Hg:=Lib.hid hg
       clear hg
       go_wp2_with fail
       refine (cI3 key driver fr to_ l A n c k g wr hlr Hg.out Hok.out hn).mono ?_
       rintro e w2 ⟨rfl,hg2⟩
       rw [<-HEE.out]
       by_cases hE0:E=0
       ·have HN:=Lib.hid (show R=bD4 fr l (n - (k+1)) by rw [HE.out,Hat.out,if_pos hE0])
        subst hE0
        go_wp2_with fail
        go_roundw
        case rel=>exact ⟨k+1,by omega,by go_num,by rw [HN.out,Hl.out],grow_trans hgr hg2⟩
        case measure=>simp [intOf];omega
       ·have hne:(E !=0)=true:=by simpa using hE0
        have HN:=Lib.hid (show R=E by rw [HE.out,Hat.out,if_neg hE0])
        clear hE0
        go_wp2_with fail
        go_ret
        exact ⟨bT HN.out.symm,grow_trans hgw (grow_trans hgr hg2)⟩
      ·have HN:=Lib.hid (show R=0 by rw [HE.out,Hl.out,show n - k=0 by omega];rfl)
       go_wp2_with fail
       go_ret
       exact ⟨bT HN.out.symm,grow_trans hgw hgr⟩
  ·have hne:(E1 !=0)=true:=by simpa using h0
   have HR:=Lib.hid (Hstop.out h0)
   clear h0
   go_wp2_with fail
   go_ret
   exact ⟨bT HR.out.symm,hgw⟩
def madeV (key driver:ByteArray) (fr to_:Int) (A:Option Addr) (n c:Nat) (e:Int):Value:=
 if e=0 then .agg #[.string key,.string driver,.int .i64 fr,.int .i64 to_,.slice A n c] else .agg #[.string ⟨#[]⟩,.string ⟨#[]⟩,.int .i64 0,.int .i64 0,.slice none 0 0]
def GotVE (w:World) (v:Value) (e:Int) (d:Ending) (w':World):Prop:=d= .returned (.tuple #[v,.int .i64 e])/\w.grownBy w' none
theorem info_hr:(prog.info? 64).map (·.size)=some 5:=by kernel_rfl
theorem ret_blk_tmp {P:Program} {fn:Func} {R:Ending->World->Prop} {a:Act} {w:World} {p u:Tmp} {ty:TypeId} (h:fn.results=#[.cell p ty,.tmp u]) (g:Nat) (t:TypeId) (cs:List Value) (d:TypeDesc) (hb:Blk w g t cs)
 (hp:a.tmps.getD p undef= .pointer (some ⟨g,0,none⟩)) (v:Value) (hv:a.tmps.getD u undef=v) (hu:P.underlying ty=some d) (hd:d.isRow=true) (n:Nat) (hi:(P.info? ty).map (·.size)=some n) (hn:cs.length=n) (hdf:a.defers= [])
 (hR:R (.returned (.tuple #[.agg cs.toArray,v])) w):bodyPost P fn R .ret a w:=by
 refine bodyPost_ret (?_:(results fn a.tmps).run P w= .ok (.tuple #[.agg cs.toArray,v]) w) hdf hR
 have hl:=run_loadVar_row (P:=P) w g t ty cs.toArray (0,0) d hb hu (by cases d <;> simp_all [TypeDesc.isRow]) (by simpa [hn] using hi)
 rw [results_cell_tmp h]
 simp only [hp,hv]
 simp only [asAddr,Sem.run_pure,Result.andThen_ok]
 rw [hl]
 rfl
theorem made_any (key driver : ByteArray) (fr to_ : Int) (l : List Lg) (A : Option Addr) (n c : Nat) (w : World) (hl : SlT lgEnc 9 68 w A n l) (hok : HrOk key driver l) (hn : n <= 1000000) :
    Calls prog 244 #[.agg #[.string key, .string driver, .int .i64 fr, .int .i64 to_, .slice A n c]] w (GotVE w (madeV key driver fr to_ A n c (hireE ⟨key, driver, fr, to_, l⟩)) (hireE ⟨key, driver, fr, to_, l⟩)) := by
  obtain ⟨E, hE⟩ : ∃ E, E = hireE ⟨key, driver, fr, to_, l⟩ := ⟨_, rfl⟩
  rw [<- hE]
  have HE := Lib.hid hE
  clear hE
  go_enter func244, ntmps244
  go_wp2_with fail
  refine (hcheck_any key driver fr to_ l A n c _ ((hl.alloc _).alloc _) hok hn).mono ?_
  rintro e w1 ⟨rfl, hg1⟩
  rw [<- HE.out]
  have hb1 : Blk w1 (w.heap.size + 1) 64 [.string ⟨#[]⟩, .string ⟨#[]⟩, .int .i64 0, .int .i64 0, .slice none 0 0] := (Blk.at_ (w.alloc _) (by simp) _ _).grown hg1 (by simp)
  have hb0 : Blk w1 w.heap.size 64 [.string key, .string driver, .int .i64 fr, .int .i64 to_, .slice A n c] := ((Blk.at_ w rfl _ _).alloc _).grown hg1 (by simp)
  have hgw : w.grownBy w1 none := grow_trans (grow_alloc (grow_alloc (World.grownBy.refl _ _) _) _) hg1
  have hz : ∀ k, some (w.heap.size + 1) = some k -> w.heap.size <= k := fun k h => by cases h; omega
  clear hg1
  by_cases h0 : E = 0
  · have HV := Lib.hid (show madeV key driver fr to_ A n c E = .agg #[.string key, .string driver, .int .i64 fr, .int .i64 to_, .slice A n c] by rw [h0]; rfl)
    subst h0
    go_wp2_with (first
      | (with_reducible refine wpList_load_all rfl 64 (.tmp 1) rfl w.heap.size _ _ _ hb0 rfl Tryz.underlying64 rfl 5 info_hr rfl ?_)
      | (with_reducible refine wpList_store_all rfl 64 (.tmp 2) (.tmp 11) rfl (w.heap.size + 1) _ _ [.string key, .string driver, .int .i64 fr, .int .i64 to_, .slice A n c] hb1 rfl rfl 5 info_hr rfl rfl (by simp [Value.oneCell']) ?_
         intro w2 hb2 hg2))
    refine ret_blk_tmp (p := 2) (u := 3) (ty := 64) rfl (w.heap.size + 1) _ _ _ hb2 rfl (.int .i64 0) rfl Tryz.underlying64 rfl 5 info_hr rfl rfl ?_
    exact ⟨by rw [HV.out], grow_own hgw hg2 hz⟩
  · have hne : (E != 0) = true := by simpa using h0
    have HV := Lib.hid (show madeV key driver fr to_ A n c E = .agg #[.string ⟨#[]⟩, .string ⟨#[]⟩, .int .i64 0, .int .i64 0, .slice none 0 0] by unfold madeV; rw [if_neg h0])
    clear h0
    go_wp2_with (first
      | (with_reducible refine wpList_store_all rfl 64 (.tmp 2) (.tmp 9) rfl (w.heap.size + 1) _ _ [.string ⟨#[]⟩, .string ⟨#[]⟩, .int .i64 0, .int .i64 0, .slice none 0 0] hb1 rfl rfl 5 info_hr rfl rfl (by simp [Value.oneCell']) ?_
         intro w2 hb2 hg2))
    refine ret_blk_tmp (p := 2) (u := 3) (ty := 64) rfl (w.heap.size + 1) _ _ _ hb2 rfl (.int .i64 E) rfl Tryz.underlying64 rfl 5 info_hr rfl rfl ?_
    exact ⟨by rw [HV.out], grow_own hgw hg2 hz⟩
def startLeg (veh:ByteArray) (r:Rd):Lg:=⟨veh,r,⟨-1,⟨#[]⟩,0,0⟩⟩
theorem start_any (key driver : ByteArray) (fr to_ : Int) (veh : ByteArray) (r : Rd) (w : World) (hk : key.size <= 1000000) (hd : driver.size <= 1000000) (hv : veh.size <= 1000000) (hr : RdOk r) :
    Calls prog 213 #[.string key, .string driver, .agg #[.int .i64 fr, .int .i64 to_], .string veh, .agg (rdCells r).toArray] w (fun e w' => ∃ A,
      e = .returned (.tuple #[madeV key driver fr to_ A 1 1 (hireE ⟨key, driver, fr, to_, [startLeg veh r]⟩), .int .i64 (hireE ⟨key, driver, fr, to_, [startLeg veh r]⟩)]) /\ SlT lgEnc 9 68 w' A 1 [startLeg veh r] /\ w.grownBy w' none) := by
  obtain ⟨a1, s1, m1, f1⟩ := r
  have hok : HrOk key driver [startLeg veh ⟨a1, s1, m1, f1⟩] := ⟨hk, hd, fun g hg => by
    simp only [List.mem_singleton] at hg
    subst hg
    exact ⟨hv, hr, (by decide : (⟨#[]⟩ : ByteArray).size <= 1000000)⟩⟩
  show Calls prog 213 #[.string key, .string driver, .agg #[.int .i64 fr, .int .i64 to_], .string veh, .agg #[.int .i64 a1, .string s1, .int .i64 m1, .int .i64 f1]] w _
  have Hok := Lib.hid hok
  clear hok
  obtain ⟨E, hE⟩ : ∃ E, E = hireE ⟨key, driver, fr, to_, [startLeg veh ⟨a1, s1, m1, f1⟩]⟩ := ⟨_, rfl⟩
  rw [<- hE]
  have HE := Lib.hid hE
  clear hE
  go_enter func213, ntmps213
  go_wp2_with fail
  refine (made_any key driver fr to_ [startLeg veh ⟨a1, s1, m1, f1⟩] (some ⟨w.heap.size + 3, 0, none⟩) 1 1 _ (SlT.ofBlk (l := [startLeg veh ⟨a1, s1, m1, f1⟩]) lg_len (Blk.at_ _ (by simp) _ _)) Hok.out (by omega)).mono ?_
  rintro e w1 ⟨rfl, hg1⟩
  rw [<- HE.out]
  clear HE Hok
  have hb1 : Blk w1 (w.heap.size + 2) 64 [.string ⟨#[]⟩, .string ⟨#[]⟩, .int .i64 0, .int .i64 0, .slice none 0 0] := ((Blk.at_ ((w.alloc _).alloc _) (by simp) _ _).alloc _).grown hg1 (by simp)
  have hl1 : SlT lgEnc 9 68 w1 (some ⟨w.heap.size + 3, 0, none⟩) 1 [startLeg veh ⟨a1, s1, m1, f1⟩] := (SlT.ofBlk (l := [startLeg veh ⟨a1, s1, m1, f1⟩]) lg_len (Blk.at_ (((w.alloc _).alloc _).alloc _) (by simp) _ _)).grow0 hg1
  have hgw : w.grownBy w1 none := grow_trans (grow_alloc (grow_alloc (grow_alloc (grow_alloc (World.grownBy.refl _ _) _) _) _) _) hg1
  have hz : ∀ k, some (w.heap.size + 2) = some k -> w.heap.size <= k := fun k h => by cases h; omega
  clear hg1
  by_cases h0 : E = 0
  · have hV : madeV key driver fr to_ (some ⟨w.heap.size + 3, 0, none⟩) 1 1 E = .agg #[.string key, .string driver, .int .i64 fr, .int .i64 to_, .slice (some ⟨w.heap.size + 3, 0, none⟩) 1 1] := by rw [h0]; rfl
    rw [hV]
    have HV := Lib.hid hV
    clear h0 hV
    go_wp2_with (first
      | (with_reducible refine wpList_store_all rfl 64 (.tmp 10) (.tmp 22) rfl (w.heap.size + 2) _ _ [.string key, .string driver, .int .i64 fr, .int .i64 to_, .slice (some ⟨w.heap.size + 3, 0, none⟩) 1 1] hb1 rfl rfl 5 info_hr rfl rfl (by simp [Value.oneCell']) ?_
         intro w2 hb2 hg2))
    refine ret_blk_tmp (p := 10) (u := 11) (ty := 64) rfl (w.heap.size + 2) _ _ _ hb2 rfl (.int .i64 E) rfl Tryz.underlying64 rfl 5 info_hr rfl rfl ?_
    exact ⟨some ⟨w.heap.size + 3, 0, none⟩, by rw [HV.out], hl1.grown hg2 hb1 (by decide), grow_own hgw hg2 hz⟩
  · have hV : madeV key driver fr to_ (some ⟨w.heap.size + 3, 0, none⟩) 1 1 E = .agg #[.string ⟨#[]⟩, .string ⟨#[]⟩, .int .i64 0, .int .i64 0, .slice none 0 0] := by unfold madeV; rw [if_neg h0]
    rw [hV]
    have HV := Lib.hid hV
    clear h0 hV
    go_wp2_with (first
      | (with_reducible refine wpList_store_all rfl 64 (.tmp 10) (.tmp 22) rfl (w.heap.size + 2) _ _ [.string ⟨#[]⟩, .string ⟨#[]⟩, .int .i64 0, .int .i64 0, .slice none 0 0] hb1 rfl rfl 5 info_hr rfl rfl (by simp [Value.oneCell']) ?_
         intro w2 hb2 hg2))
    refine ret_blk_tmp (p := 10) (u := 11) (ty := 64) rfl (w.heap.size + 2) _ _ _ hb2 rfl (.int .i64 E) rfl Tryz.underlying64 rfl 5 info_hr rfl rfl ?_
    exact ⟨some ⟨w.heap.size + 3, 0, none⟩, by rw [HV.out], hl1.grown hg2 hb1 (by decide), grow_own hgw hg2 hz⟩
theorem eU5 (g:Lg):∀v∈lgEnc g,v.oneCell'=true:=by
 intro v hv
 simp [lgEnc,rdCells] at hv
 rcases hv with rfl|rfl|rfl|rfl|rfl|rfl|rfl|rfl|rfl <;> rfl
def openB (l:List Lg):Bool:=
 match l[l.length - 1]? with
 |some g=>g.inn.at_== -1
 |none=>false
theorem open_any (key driver:ByteArray) (fr to_:Int) (l:List Lg) (A:Option Addr) (n c:Nat) (w:World) (hl:SlT lgEnc 9 68 w A n l) (hn0:0 < n) (hn:n<=1000000):
 Calls prog 261 #[.agg #[.string key,.string driver,.int .i64 fr,.int .i64 to_,.slice A n c]] w (fun e w'=>e=.returned (.bool (openB l))/\w.grownBy w' none):=by
 have hlen:=hl.len
 obtain ⟨g,hg⟩:∃g,l[n - 1]?=some g:=⟨_,fW3 (by omega)⟩
 obtain ⟨b,off,rfl,hbl,hrg⟩:=hl.get hn0
 have HO:=Lib.hid (show openB l=(g.inn.at_== -1) by unfold openB;rw [hlen,hg])
 obtain ⟨veh,⟨a1,s1,m1,f1⟩,⟨a2,s2,m2,f2⟩⟩:=g
 have hr0:=hrg (n - 1) _ hg
 have hc:w.cell? ⟨b,off+(n - 1) *9+5,none⟩=some (.int .i64 a2):=hr0 5 _ rfl
 have hc2:=fun o=>(World.cell?_of_block (a:=⟨b,off+(n - 1) *9+5,none⟩) (Below.heap_alloc w o b hbl)).trans hc
 have hki:(n:Int) - 1=((n - 1:Nat):Int):=by omega
 have hk1:(n:Int) - 1 < (n:Int):=by omega
 have hk0:(0:Int)<=(n:Int) - 1:=by omega
 clear hr0 hrg hc hg hlen hl
 go_enter func261,ntmps261
 go_wp2_with fail
 go_ret
 exact ⟨nO HO.out.symm,grow_alloc (World.grownBy.refl _ _) _⟩
theorem dL8:∃i z,prog.info? 68=some i/\i.zero=some z/\i.size=9/\i.bytes=96/\z.cells.size=9:=cH9 (by kernel_rfl)
theorem cloneLegs_any (l:List Lg) (A:Option Addr) (n c:Nat) (w:World) (hl:SlT lgEnc 9 68 w A n l) (hn0:0 < n) (hn:n<=1000000):
 Calls prog 262 #[.slice A n c] w (fun e w'=>∃g c',e=.returned (.slice (some ⟨g,0,none⟩) n c')/\OwnT lgEnc 9 68 w' w.heap.size g n c' l/\w.grownBy w' none):=by
 obtain ⟨b,off,rfl,hbl,hfl⟩:=hl.flat lg_len hn0
 have hlen:=hl.len
 obtain ⟨i0,z0,hi,hz,hsz,hby,hzs⟩:=dL8
 have hnews:∀(o:Obj) j u,(l.flatMap lgEnc)[j]?=some u->(w.alloc o).cell? ((⟨b,off,none⟩:Addr).add j)=some u:=fun o j u hj=>
  (World.cell?_of_block (Below.heap_alloc w o _ (by unfold Addr.add;split <;> exact hbl))).trans (hfl j u hj)
 have hone:=dF7 lgEnc eU5 l
 have hll:=bR3 lgEnc 9 lg_len l
 rw [hlen] at hll
 clear hfl hl
 have Hnews:=Lib.hid hnews
 clear hnews
 have he:∀w:World,(binOp .eql 62 (.slice (some ⟨b,off,none⟩) n c) (.slice none 0 0)).run prog w= .ok (.bool false) w:=fun _=>rfl
 go_enter func262,ntmps262
 go_wp2_with (at_builtin;refine wpList_append_own_at _ rfl _ _ 62 rfl w.heap.size 68 i0 z0 9 96 Tryz.underlying62 hi hz hsz hby hzs (by decide) (.slice (some ⟨w.heap.size,0,none⟩) 0 0) 0 [] rfl ⟨rfl,.inr ⟨w.heap.size,0,#[],rfl,Nat.le_refl _,heap_alloc_new w _,Nat.le_refl _,by decide,rfl,rfl⟩⟩ ⟨b,off,none⟩ n c (l.flatMap lgEnc) rfl hll (Hnews.out _) hone (by unfold maxLen;omega) (by omega) (by simp) ?_;intro v' w' hown hgrow hnil hat)
 rw [Nat.zero_add,List.nil_append] at hown
 have hown2:=hown
 obtain ⟨_,ho⟩:=hown2
 rcases ho with ⟨_,h0⟩|⟨g,eW,wZ,rfl,hg,_⟩
 ·omega
 ·go_ret
  exact ⟨g,eW,U,⟨hg,hown⟩,grow_own (grow_alloc (World.grownBy.refl _ _) _) hgrow (fun k h=>by cases h;exact Nat.le_refl _)⟩
def goingE (h:Hr):Int:=if hireE h=0 then (if openB h.legs then 0 else 11) else hireE h
def noHire:Value:= .agg #[.string ⟨#[]⟩,.string ⟨#[]⟩,.int .i64 0,.int .i64 0,.slice none 0 0]
theorem hireE_legs {h:Hr} (hh:hireE h=0):0 < h.legs.length/\h.legs.length<=20:=by
 obtain ⟨key,driver,fr,to_,l⟩:=h
 unfold hireE at hh
 by_cases h1:l.length=0
 ·exfalso
  simp only [h1,if_true] at hh
  revert hh
  generalize dI (!keyB key|| !keyB driver) 5=x
  generalize zD fr to_=y
  intro hh
  by_cases hx:x=0 <;> by_cases hy:y=0 <;> simp [dG,hx,hy] at hh
 ·by_cases h2:20 < l.length
  ·exfalso
   simp only [h1,h2,if_true,if_false] at hh
   revert hh
   generalize dI (!keyB key|| !keyB driver) 5=x
   generalize zD fr to_=y
   intro hh
   by_cases hx:x=0 <;> by_cases hy:y=0 <;> simp [dG,hx,hy] at hh
  ·show 0 < l.length/\l.length<=20
   omega
theorem going_any (key driver : ByteArray) (fr to_ : Int) (l : List Lg) (A : Option Addr) (n c : Nat) (w : World) (hl : SlT lgEnc 9 68 w A n l) (hok : HrOk key driver l) (hn : n <= 1000000) :
    Calls prog 245 #[.agg #[.string key, .string driver, .int .i64 fr, .int .i64 to_, .slice A n c]] w (fun e w' => w.grownBy w' none /\
      ((goingE ⟨key, driver, fr, to_, l⟩ = 0 /\ ∃ g c', e = .returned (.tuple #[.agg #[.string key, .string driver, .int .i64 fr, .int .i64 to_, .slice (some ⟨g, 0, none⟩) n c'], .int .i64 0]) /\ OwnT lgEnc 9 68 w' w.heap.size g n c' l) ∨
       (goingE ⟨key, driver, fr, to_, l⟩ ≠ 0 /\ e = .returned (.tuple #[noHire, .int .i64 (goingE ⟨key, driver, fr, to_, l⟩)])))) := by
  obtain ⟨E, hE⟩ : ∃ E, E = hireE ⟨key, driver, fr, to_, l⟩ := ⟨_, rfl⟩
  obtain ⟨G, hG⟩ : ∃ G, G = goingE ⟨key, driver, fr, to_, l⟩ := ⟨_, rfl⟩
  rw [<- hG]
  have HE := Lib.hid hE
  have HG := Lib.hid hG
  clear hE hG
  go_enter func245, ntmps245
  go_wp2_with fail
  refine (hcheck_any key driver fr to_ l A n c _ ((hl.alloc _).alloc _) hok hn).mono ?_
  rintro e w1 ⟨rfl, hg1⟩
  rw [<- HE.out]
  have hb1 : Blk w1 (w.heap.size + 1) 64 [.string ⟨#[]⟩, .string ⟨#[]⟩, .int .i64 0, .int .i64 0, .slice none 0 0] := (Blk.at_ (w.alloc _) (by simp) _ _).grown hg1 (by simp)
  have hb0 : Blk w1 w.heap.size 64 [.string key, .string driver, .int .i64 fr, .int .i64 to_, .slice A n c] := ((Blk.at_ w rfl _ _).alloc _).grown hg1 (by simp)
  have hgw : w.grownBy w1 none := grow_trans (grow_alloc (grow_alloc (World.grownBy.refl _ _) _) _) hg1
  have hz : ∀ k, some (w.heap.size + 1) = some k -> w.heap.size <= k := fun k h => by cases h; omega
  clear hg1
  by_cases h0 : E = 0
  · have hlen := hireE_legs (HE.out.symm.trans h0)
    have hn0 : 0 < n := by have := hl.len; exact this ▸ hlen.1
    obtain ⟨O, hO⟩ : ∃ O, O = openB l := ⟨_, rfl⟩
    have HGO := Lib.hid (show G = if O then 0 else 11 by rw [HG.out]; unfold goingE; rw [if_pos (HE.out.symm.trans h0), hO])
    have cO : ∀ w' : World, w.grownBy w' none -> Calls prog 261 #[.agg #[.string key, .string driver, .int .i64 fr, .int .i64 to_, .slice A n c]] w' (fun e w'' => e = .returned (.bool O) /\ w'.grownBy w'' none) := fun w' hg => by
      rw [hO]
      exact open_any key driver fr to_ l A n c w' (hl.grow0 hg) hn0 hn
    have CO := Lib.hid cO
    clear hlen hO cO
    subst h0
    go_wp2_with (with_reducible refine wpList_load_all rfl 64 (.tmp 1) rfl w.heap.size _ _ _ hb0 rfl Tryz.underlying64 rfl 5 info_hr rfl ?_)
    refine (CO.out _ hgw).mono ?_
    rintro e w2 ⟨rfl, hg2⟩
    have hb0 := hb0.grown hg2 (by simp)
    have hb1 := hb1.grown hg2 (by simp)
    have hgw := grow_trans hgw hg2
    clear hg2
    cases O
    · have HF := Lib.hid (show G = 11 from HGO.out)
      go_wp2_with (first
        | (with_reducible refine wpList_store_all rfl 64 (.tmp 2) (.tmp 14) rfl (w.heap.size + 1) _ _ [.string ⟨#[]⟩, .string ⟨#[]⟩, .int .i64 0, .int .i64 0, .slice none 0 0] hb1 rfl rfl 5 info_hr rfl rfl (by simp [Value.oneCell']) ?_
           intro w3 hb3 hg3))
      refine ret_blk_tmp (p := 2) (u := 3) (ty := 64) rfl (w.heap.size + 1) _ _ _ hb3 rfl (.int .i64 11) rfl Tryz.underlying64 rfl 5 info_hr rfl rfl ?_
      exact ⟨grow_own hgw hg3 hz, .inr ⟨by rw [HF.out]; decide, by rw [HF.out]; rfl⟩⟩
    · have HF := Lib.hid (show G = 0 from HGO.out)
      have c3 := hb0.cell_of (i := 4) (v := .slice A n c) rfl
      have f3 := hb0.frozen 4
      go_wp2_with fail
      refine (cloneLegs_any l A n c _ (hl.grow0 hgw) hn0 hn).mono ?_
      rintro e w3 ⟨g, c', rfl, hown, hg3⟩
      have hz2 := hb1.lt
      have hz3 := hown.1
      have hl3 := hown.lt
      have hb0 := hb0.grown hg3 (by simp)
      have hb1 := hb1.grown hg3 (by simp)
      have hgw := grow_trans hgw hg3
      have c4 := hb0.cell_of (i := 4) (v := .slice A n c) rfl
      have f4 := hb0.frozen 4
      have hbS : Blk (w3.setCell ⟨w.heap.size, 4, none⟩ (.slice (some ⟨g, 0, none⟩) n c')) w.heap.size 64 [.string key, .string driver, .int .i64 fr, .int .i64 to_, .slice (some ⟨g, 0, none⟩) n c'] := hb0.set_ 4 _
      have hb1S : Blk (w3.setCell ⟨w.heap.size, 4, none⟩ (.slice (some ⟨g, 0, none⟩) n c')) (w.heap.size + 1) 64 [.string ⟨#[]⟩, .string ⟨#[]⟩, .int .i64 0, .int .i64 0, .slice none 0 0] := hb1.far (by simp) _
      have hgS : w.grownBy (w3.setCell ⟨w.heap.size, 4, none⟩ (.slice (some ⟨g, 0, none⟩) n c')) none := grow_setCell hgw (.inr (Nat.le_refl _)) _
      have hkeep : (w3.setCell ⟨w.heap.size, 4, none⟩ (.slice (some ⟨g, 0, none⟩) n c')).heap[g]? = w3.heap[g]? := Below.heap_setCell w3 _ _ g (by simp; omega)
      have hlS : g < (w3.setCell ⟨w.heap.size, 4, none⟩ (.slice (some ⟨g, 0, none⟩) n c')).heap.size := by simpa [World.setCell] using hl3
      clear c3 f3 hg3
      go_wp2_with (first
        | (with_reducible refine wpList_load_all rfl 64 (.tmp 1) rfl w.heap.size _ _ _ hbS rfl Tryz.underlying64 rfl 5 info_hr rfl ?_)
        | (with_reducible refine wpList_store_all rfl 64 (.tmp 2) (.tmp 19) rfl (w.heap.size + 1) _ _ [.string key, .string driver, .int .i64 fr, .int .i64 to_, .slice (some ⟨g, 0, none⟩) n c'] hb1S rfl rfl 5 info_hr rfl rfl (by simp [Value.oneCell']) ?_
           intro w4 hb4 hg4))
      refine ret_blk_tmp (p := 2) (u := 3) (ty := 64) rfl (w.heap.size + 1) _ _ _ hb4 rfl (.int .i64 0) rfl Tryz.underlying64 rfl 5 info_hr rfl rfl ?_
      exact ⟨grow_own hgS hg4 hz, .inl ⟨HF.out, g, c', rfl, hown.kept ((hg4.block g hlS (fun h => absurd (Option.some.inj h) (by omega))).trans hkeep) (by omega)⟩⟩
  · have hne : (E != 0) = true := by simpa using h0
    have HF := Lib.hid (show G = E by rw [HG.out]; unfold goingE; rw [if_neg (fun h => h0 (HE.out.trans h)), HE.out])
    have HN := Lib.hid h0
    clear h0
    go_wp2_with (first
      | (with_reducible refine wpList_store_all rfl 64 (.tmp 2) (.tmp 9) rfl (w.heap.size + 1) _ _ [.string ⟨#[]⟩, .string ⟨#[]⟩, .int .i64 0, .int .i64 0, .slice none 0 0] hb1 rfl rfl 5 info_hr rfl rfl (by simp [Value.oneCell']) ?_
         intro w2 hb2 hg2))
    refine ret_blk_tmp (p := 2) (u := 3) (ty := 64) rfl (w.heap.size + 1) _ _ _ hb2 rfl (.int .i64 E) rfl Tryz.underlying64 rfl 5 info_hr rfl rfl ?_
    exact ⟨grow_own hgw hg2 hz, .inr ⟨by rw [HF.out]; exact HN.out, by rw [HF.out]; rfl⟩⟩
def endLegs (l:List Lg) (r:Rd):List Lg:=
 match l[l.length - 1]? with
 |some g=>l.set (l.length - 1) ⟨g.veh,g.out,r⟩
 |none=>l
def closeE (h:Hr) (r:Rd):Int:=if goingE h=0 then hireE ⟨h.key,h.driver,h.fr,h.to_,endLegs h.legs r⟩ else goingE h
theorem info_rd:(prog.info? 66).map (·.size)=some 4:=by kernel_rfl
theorem goingE_ok {h:Hr} (hg:goingE h=0):hireE h=0/\openB h.legs=true:=by
 unfold goingE at hg
 by_cases h0:hireE h=0
 ·rw [if_pos h0] at hg
  refine ⟨h0,?_⟩
  by_cases ho:openB h.legs=true
  ·exact ho
  ·rw [if_neg ho] at hg;cases hg
 ·rw [if_neg h0] at hg;exact absurd hg h0
theorem end_ok {l:List Lg} {r:Rd} (h:∀g∈l,cF8 g) (hr:RdOk r):∀g∈endLegs l r,cF8 g:=by
 unfold endLegs
 cases hl:l[l.length - 1]? with
 |none=>exact h
 |some g=>
  intro x hx
  rcases List.mem_or_eq_of_mem_set hx with hx|rfl
  ·exact h x hx
  ·have:=h g (fX3 hl)
   exact ⟨this.1,this.2.1,hr⟩
theorem close_any (key driver : ByteArray) (fr to_ : Int) (l : List Lg) (A : Option Addr) (n c : Nat) (r : Rd) (w : World) (hl : SlT lgEnc 9 68 w A n l) (hok : HrOk key driver l) (hr : RdOk r) (hn : n <= 1000000) :
    Calls prog 215 #[.agg #[.string key, .string driver, .int .i64 fr, .int .i64 to_, .slice A n c], .agg (rdCells r).toArray] w (fun e w' => w.grownBy w' none /\
      ∃ A' c', e = .returned (.tuple #[madeV key driver fr to_ A' n c' (closeE ⟨key, driver, fr, to_, l⟩ r), .int .i64 (closeE ⟨key, driver, fr, to_, l⟩ r)]) /\ (closeE ⟨key, driver, fr, to_, l⟩ r = 0 -> SlT lgEnc 9 68 w' A' n (endLegs l r))) := by
  obtain ⟨E, hE⟩ : ∃ E, E = closeE ⟨key, driver, fr, to_, l⟩ r := ⟨_, rfl⟩
  obtain ⟨G, hG⟩ : ∃ G, G = goingE ⟨key, driver, fr, to_, l⟩ := ⟨_, rfl⟩
  rw [<- hE]
  have HE := Lib.hid hE
  have HG := Lib.hid hG
  have Hok := Lib.hid hok
  have Hend := Lib.hid (end_ok hok.2.2 hr)
  have hlen := hl.len
  clear hE hG hok
  obtain ⟨at_, st, me, fu⟩ := r
  show Calls prog 215 #[.agg #[.string key, .string driver, .int .i64 fr, .int .i64 to_, .slice A n c], .agg #[.int .i64 at_, .string st, .int .i64 me, .int .i64 fu]] w _
  go_enter func215, ntmps215
  go_wp2_with fail
  refine (going_any key driver fr to_ l A n c _ (((hl.alloc _).alloc _).alloc _) Hok.out hn).mono ?_
  rintro e w1 ⟨hg1, hcase⟩
  have hbA : Blk w1 w.heap.size 64 [.string key, .string driver, .int .i64 fr, .int .i64 to_, .slice A n c] := (((Blk.at_ w rfl _ _).alloc _).alloc _).grown hg1 (by simp)
  have hbB : Blk w1 (w.heap.size + 1) 66 [.int .i64 at_, .string st, .int .i64 me, .int .i64 fu] := ((Blk.at_ (w.alloc _) (by simp) _ _).alloc _).grown hg1 (by simp)
  have hbC : Blk w1 (w.heap.size + 2) 64 [.string ⟨#[]⟩, .string ⟨#[]⟩, .int .i64 0, .int .i64 0, .slice none 0 0] := (Blk.at_ ((w.alloc _).alloc _) (by simp) _ _).grown hg1 (by simp)
  have hgw : w.grownBy w1 none := grow_trans (grow_alloc (grow_alloc (grow_alloc (World.grownBy.refl _ _) _) _) _) hg1
  have hzA : ∀ k, some w.heap.size = some k -> w.heap.size <= k := fun k h => by cases h; omega
  have hzC : ∀ k, some (w.heap.size + 2) = some k -> w.heap.size <= k := fun k h => by cases h; omega
  clear hg1
  rw [<- HG.out] at hcase
  rcases hcase with ⟨hG0, g, c', rfl, hown⟩ | ⟨hG0, rfl⟩
  · have hgo := goingE_ok (HG.out.symm.trans hG0)
    have hn0 : 0 < n := by have := (hireE_legs hgo.1).1; exact hlen ▸ this
    have HEE := Lib.hid (show E = hireE ⟨key, driver, fr, to_, endLegs l ⟨at_, st, me, fu⟩⟩ by rw [HE.out]; unfold closeE; rw [if_pos (HG.out.symm.trans hG0)])
    subst hG0
    clear hgo
    have hgz : w.heap.size + 3 <= g := by have := hown.1; simp at this; omega
    have hgl := hown.lt
    obtain ⟨cs, hbg, hcs, htk⟩ := hown.blk
    have Htk := Lib.hid htk
    clear htk hown
    obtain ⟨x, hx⟩ : ∃ x, l[n - 1]? = some x := ⟨_, fW3 (by omega)⟩
    have Hx := Lib.hid hx
    have HL := Lib.hid (show endLegs l ⟨at_, st, me, fu⟩ = l.set (n - 1) ⟨x.veh, x.out, ⟨at_, st, me, fu⟩⟩ by unfold endLegs; rw [hlen, hx])
    have hfit : (n - 1) * 9 + 5 + 4 <= cs.length := by omega
    have hki : (n : Int) - 1 = ((n - 1 : Nat) : Int) := by omega
    have hk1 : (n : Int) - 1 < (n : Int) := by omega
    clear hx
    go_wp2_with (first
      | (with_reducible refine wpList_store_all rfl 64 (.tmp 2) (.tmp 10) rfl w.heap.size _ _ [.string key, .string driver, .int .i64 fr, .int .i64 to_, .slice (some ⟨g, 0, none⟩) n c'] hbA rfl rfl 5 info_hr rfl rfl (by simp [Value.oneCell']) ?_
         intro w2 hbA2 hg2
         have k4 := hbA2.cell_of (i := 4) (v := .slice (some ⟨g, 0, none⟩) n c') rfl
         have hbB2 := hbB.grown hg2 (fun h => absurd (Option.some.inj h) (by omega))
         have b0 := hbB2.cell_of (i := 0) (v := .int .i64 at_) rfl
         have b1 := hbB2.cell_of (i := 1) (v := .string st) rfl
         have b2 := hbB2.cell_of (i := 2) (v := .int .i64 me) rfl
         have b3 := hbB2.cell_of (i := 3) (v := .int .i64 fu) rfl
         have hbg2 := hbg.grown hg2 (fun h => absurd (Option.some.inj h) (by omega)))
      | (with_reducible refine wpList_store_blk rfl 66 (.tmp 24) (.tmp 22) rfl g ((n - 1) * 9 + 5) _ cs [.int .i64 at_, .string st, .int .i64 me, .int .i64 fu] hbg2 rfl rfl 4 info_rd rfl hfit (by simp [Value.oneCell']) ?_
         intro w3 hbg3 hg3
         have hbA3 := hbA2.grown hg3 (fun h => absurd (Option.some.inj h) (by omega)))
      | (with_reducible refine wpList_load_all rfl 64 (.tmp 2) rfl w.heap.size _ _ _ hbA3 rfl Tryz.underlying64 rfl 5 info_hr rfl ?_))
    have hsl : SlT lgEnc 9 68 w3 (some ⟨g, 0, none⟩) n (endLegs l ⟨at_, st, me, fu⟩) := by
      rw [HL.out]
      exact SlT.spliced lg_len hcs Htk.out hlen (r := 5) (vs := [.int .i64 at_, .string st, .int .i64 me, .int .i64 fu]) Hx.out rfl (by simp) hbg3
    have hz2 := hbC.lt
    have hgw2 := grow_own hgw hg2 hzA
    have hgw3 := grow_own hgw2 hg3 (fun k h => by cases h; omega)
    have hbC3 := (hbC.grown hg2 (fun h => absurd (Option.some.inj h) (by omega))).grown hg3 (fun h => absurd (Option.some.inj h) (by omega))
    clear hbA hbB hbC hbg hg2 hg3 hgw hgw2 hbA2 hbA3 hbB2 b0 b1 b2 b3 k4 hbg2 hbg3
    refine (made_any key driver fr to_ (endLegs l ⟨at_, st, me, fu⟩) (some ⟨g, 0, none⟩) n c' w3 hsl ⟨Hok.out.1, Hok.out.2.1, Hend.out⟩ hn).mono ?_
    rintro e w4 ⟨rfl, hg4⟩
    rw [<- HEE.out]
    have hsl4 := hsl.grow0 hg4
    have hbC4 := hbC3.grown hg4 (by simp)
    have hgw4 := grow_trans hgw3 hg4
    clear hsl hbC3 hgw3 hg4
    by_cases h0 : E = 0
    · have hV : madeV key driver fr to_ (some ⟨g, 0, none⟩) n c' E = .agg #[.string key, .string driver, .int .i64 fr, .int .i64 to_, .slice (some ⟨g, 0, none⟩) n c'] := by rw [h0]; rfl
      rw [hV]
      have HV := Lib.hid hV
      clear h0 hV
      go_wp2_with (first
        | (with_reducible refine wpList_store_all rfl 64 (.tmp 4) (.tmp 27) rfl (w.heap.size + 2) _ _ [.string key, .string driver, .int .i64 fr, .int .i64 to_, .slice (some ⟨g, 0, none⟩) n c'] hbC4 rfl rfl 5 info_hr rfl rfl (by simp [Value.oneCell']) ?_
           intro w5 hb5 hg5))
      refine ret_blk_tmp (p := 4) (u := 5) (ty := 64) rfl (w.heap.size + 2) _ _ _ hb5 rfl (.int .i64 E) rfl Tryz.underlying64 rfl 5 info_hr rfl rfl ?_
      exact ⟨grow_own hgw4 hg5 hzC, some ⟨g, 0, none⟩, c', by rw [HV.out], fun _ => hsl4.grown hg5 hbC4 (by decide)⟩
    · have hV : madeV key driver fr to_ (some ⟨g, 0, none⟩) n c' E = .agg #[.string ⟨#[]⟩, .string ⟨#[]⟩, .int .i64 0, .int .i64 0, .slice none 0 0] := by unfold madeV; rw [if_neg h0]
      rw [hV]
      have HV := Lib.hid hV
      have H0 := Lib.hid h0
      clear h0 hV
      go_wp2_with (first
        | (with_reducible refine wpList_store_all rfl 64 (.tmp 4) (.tmp 27) rfl (w.heap.size + 2) _ _ [.string ⟨#[]⟩, .string ⟨#[]⟩, .int .i64 0, .int .i64 0, .slice none 0 0] hbC4 rfl rfl 5 info_hr rfl rfl (by simp [Value.oneCell']) ?_
           intro w5 hb5 hg5))
      refine ret_blk_tmp (p := 4) (u := 5) (ty := 64) rfl (w.heap.size + 2) _ _ _ hb5 rfl (.int .i64 E) rfl Tryz.underlying64 rfl 5 info_hr rfl rfl ?_
      exact ⟨grow_own hgw4 hg5 hzC, some ⟨g, 0, none⟩, c', by rw [HV.out], fun h => absurd h H0.out⟩
  · have hne : (G != 0) = true := by simpa using hG0
    have HEE := Lib.hid (show E = G by rw [HE.out]; unfold closeE; rw [if_neg (fun h => hG0 (HG.out.trans h)), HG.out])
    rw [show noHire = .agg #[.string ⟨#[]⟩, .string ⟨#[]⟩, .int .i64 0, .int .i64 0, .slice none 0 0] from rfl]
    have hN := Lib.hid hG0
    have HV := Lib.hid (show madeV key driver fr to_ none n 0 E = .agg #[.string ⟨#[]⟩, .string ⟨#[]⟩, .int .i64 0, .int .i64 0, .slice none 0 0] by unfold madeV; rw [if_neg (by rw [HEE.out]; exact hG0)])
    clear hG0
    go_wp2_with (first
      | (with_reducible refine wpList_store_all rfl 64 (.tmp 2) (.tmp 10) rfl w.heap.size _ _ [.string ⟨#[]⟩, .string ⟨#[]⟩, .int .i64 0, .int .i64 0, .slice none 0 0] hbA rfl rfl 5 info_hr rfl rfl (by simp [Value.oneCell']) ?_
         intro w2 hbA2 hg2
         have hbC2 := hbC.grown hg2 (fun h => absurd (Option.some.inj h) (by omega)))
      | (with_reducible refine wpList_store_all rfl 64 (.tmp 4) (.tmp 14) rfl (w.heap.size + 2) _ _ [.string ⟨#[]⟩, .string ⟨#[]⟩, .int .i64 0, .int .i64 0, .slice none 0 0] hbC2 rfl rfl 5 info_hr rfl rfl (by simp [Value.oneCell']) ?_
         intro w3 hb3 hg3))
    refine ret_blk_tmp (p := 4) (u := 5) (ty := 64) rfl (w.heap.size + 2) _ _ _ hb3 rfl (.int .i64 G) rfl Tryz.underlying64 rfl 5 info_hr rfl rfl ?_
    exact ⟨grow_own (grow_own hgw hg2 hzA) hg3 hzC, none, 0, by rw [HV.out, HEE.out], fun h => absurd (HEE.out.symm.trans h) hN.out⟩
def gZ (l:List Lg) (r:Rd) (veh:ByteArray) (q:Rd):List Lg:=endLegs l r++ [startLeg veh q]
theorem dF1 {l:List Lg} {r:Rd} {veh:ByteArray} {q:Rd} (h:∀g∈l,cF8 g) (hr:RdOk r) (hv:veh.size<=1000000) (hq:RdOk q):∀g∈gZ l r veh q,cF8 g:=by
 intro g hg
 rcases List.mem_append.1 hg with hg|hg
 ·exact end_ok h hr g hg
 ·rw [List.mem_singleton.1 hg]
  exact ⟨hv,hq,(by decide:(⟨#[]⟩:ByteArray).size<=1000000)⟩
def bS2 (E:Int) (h:Hr):Hr:=if E=0 then h else ⟨⟨#[]⟩,⟨#[]⟩,0,0, []⟩
theorem bC0 {E:Int} {h:Hr} (h0:E=0):bS2 E h=h:=if_pos h0
theorem eT1 {E:Int} {h:Hr} (h0:¬E=0):bS2 E h=⟨⟨#[]⟩,⟨#[]⟩,0,0, []⟩:=if_neg h0
def cH8 (w:World) (E:Int) (h:Hr) (e:Ending) (w':World):Prop:=
 ∃A n c,e=.returned (.tuple #[.agg #[.string (bS2 E h).key,.string (bS2 E h).driver,.int .i64 (bS2 E h).fr,.int .i64 (bS2 E h).to_,.slice A n c],.int .i64 E])/\w.grownBy w' none/\SlT lgEnc 9 68 w' A n (bS2 E h).legs
theorem cH0 {w w':World} {E:Int} {key driver:ByteArray} {fr to_:Int} {l:List Lg} {A:Option Addr} {n c:Nat} (h0:E=0) (hg:w.grownBy w' none) (hs:SlT lgEnc 9 68 w' A n l):
 cH8 w E ⟨key,driver,fr,to_,l⟩ (.returned (.tuple #[.agg #[.string key,.string driver,.int .i64 fr,.int .i64 to_,.slice A n c],.int .i64 E])) w':=by
 refine ⟨A,n,c,?_,hg,?_⟩ <;> rw [bC0 h0]
 exact hs
theorem bJ4 {w w':World} {E:Int} {h:Hr} (h0:¬E=0) (hg:w.grownBy w' none):
 cH8 w E h (.returned (.tuple #[.agg #[.string ⟨#[]⟩,.string ⟨#[]⟩,.int .i64 0,.int .i64 0,.slice none 0 0],.int .i64 E])) w':=by
 refine ⟨none,0,0,?_,hg,?_⟩ <;> rw [eT1 h0]
 exact SlT.nil_ _ _
theorem fW0 {w w':World} {E:Int} {key driver:ByteArray} {fr to_:Int} {l:List Lg} {A:Option Addr} {n c:Nat} {e:Ending} (hg:w.grownBy w' none) (hs:E=0->SlT lgEnc 9 68 w' A n l) (he:e=.returned (.tuple #[madeV key driver fr to_ A n c E,.int .i64 E])):cH8 w E ⟨key,driver,fr,to_,l⟩ e w':=by
 subst he
 unfold madeV
 by_cases h0:E=0
 ·rw [if_pos h0];exact cH0 h0 hg (hs h0)
 ·rw [if_neg h0];exact bJ4 h0 hg
theorem eB5 (key driver:ByteArray) (fr to_:Int) (l:List Lg) (A:Option Addr) (n c:Nat) (r:Rd) (w:World) (hl:SlT lgEnc 9 68 w A n l) (hok:HrOk key driver l) (hr:RdOk r) (hn:n<=1000000):
 Calls prog 215 #[.agg #[.string key,.string driver,.int .i64 fr,.int .i64 to_,.slice A n c],.agg (rdCells r).toArray] w (cH8 w (closeE ⟨key,driver,fr,to_,l⟩ r) ⟨key,driver,fr,to_,endLegs l r⟩):=
 (close_any key driver fr to_ l A n c r w hl hok hr hn).mono fun _ _ ⟨hg,_,_,he,hs⟩=>fW0 hg hs he
theorem dO9 (key driver:ByteArray) (fr to_:Int) (veh:ByteArray) (r:Rd) (w:World) (hk:key.size<=1000000) (hd:driver.size<=1000000) (hv:veh.size<=1000000) (hr:RdOk r):
 Calls prog 213 #[.string key,.string driver,.agg #[.int .i64 fr,.int .i64 to_],.string veh,.agg (rdCells r).toArray] w (cH8 w (hireE ⟨key,driver,fr,to_, [startLeg veh r]⟩) ⟨key,driver,fr,to_, [startLeg veh r]⟩):=
 (start_any key driver fr to_ veh r w hk hd hv hr).mono fun _ _ ⟨_,he,hs,hg⟩=>fW0 hg (fun _=>hs) he
theorem dP7 (key driver:ByteArray) (fr to_:Int) (l:List Lg) (A:Option Addr) (n c:Nat) (w:World) (hl:SlT lgEnc 9 68 w A n l) (hok:HrOk key driver l) (hn:n<=1000000):
 Calls prog 245 #[.agg #[.string key,.string driver,.int .i64 fr,.int .i64 to_,.slice A n c]] w (fun e w'=>∃(k d:ByteArray) (f t:Int) (v:Value) (m:Nat) (xs:List Value),e=.returned (.tuple #[.agg #[.string k,.string d,.int .i64 f,.int .i64 t,v],.int .i64 (goingE ⟨key,driver,fr,to_,l⟩)])/\
  (goingE ⟨key,driver,fr,to_,l⟩=0->key=k/\driver=d/\fr=f/\to_=t/\n=m/\l.flatMap lgEnc=xs)/\(¬goingE ⟨key,driver,fr,to_,l⟩=0->(⟨#[]⟩:ByteArray)=k/\(⟨#[]⟩:ByteArray)=d/\0=f/\0=t/\ .slice none 0 0=v/\0=m/\ []=xs)/\w'.ownsRow w.heap.size 68 9 v m xs/\w.grownBy w' none):=by
 refine (going_any key driver fr to_ l A n c w hl hok hn).mono fun e w' ⟨hg,h⟩=>?_
 rcases h with ⟨h0,g,c',he,ho⟩|⟨h0,he⟩
 ·exact ⟨key,driver,fr,to_,_,n,_,by rw [h0];exact he,fun _=>⟨rfl,rfl,rfl,rfl,rfl,rfl⟩,fun h=>absurd h0 h,ho.2,hg⟩
 ·exact ⟨⟨#[]⟩,⟨#[]⟩,0,0,.slice none 0 0,0, [],he,fun h=>absurd h h0,fun _=>⟨U,U,U,U,U,U,U⟩,⟨U,.inl ⟨U,U⟩⟩,hg⟩
theorem cW6 {key driver:ByteArray} {fr to_:Int} {l:List Lg} {A:Option Addr} {n c:Nat} {w:World} (hl:SlT lgEnc 9 68 w A n l) (hok:HrOk key driver l) (hn:n<=1000000) (h0:hireE ⟨key,driver,fr,to_,l⟩=0):
 Calls prog 244 #[.agg #[.string key,.string driver,.int .i64 fr,.int .i64 to_,.slice A n c]] w (fun e w'=>e=.returned (.tuple #[.agg #[.string key,.string driver,.int .i64 fr,.int .i64 to_,.slice A n c],.int .i64 (hireE ⟨key,driver,fr,to_,l⟩)])/\w.grownBy w' none):=by
 refine (made_any key driver fr to_ l A n c w hl hok hn).mono fun e w' ⟨he,hg⟩=>⟨?_,hg⟩
 unfold madeV at he;rw [if_pos h0] at he;exact he
theorem dV1 {key driver:ByteArray} {fr to_:Int} {l:List Lg} {A:Option Addr} {n c:Nat} {w:World} (hl:SlT lgEnc 9 68 w A n l) (hok:HrOk key driver l) (hn:n<=1000000) (h0:¬hireE ⟨key,driver,fr,to_,l⟩=0):
 Calls prog 244 #[.agg #[.string key,.string driver,.int .i64 fr,.int .i64 to_,.slice A n c]] w (fun e w'=>e=.returned (.tuple #[.agg #[.string ⟨#[]⟩,.string ⟨#[]⟩,.int .i64 0,.int .i64 0,.slice none 0 0],.int .i64 (hireE ⟨key,driver,fr,to_,l⟩)])/\w.grownBy w' none):=by
 refine (made_any key driver fr to_ l A n c w hl hok hn).mono fun e w' ⟨he,hg⟩=>⟨?_,hg⟩
 unfold madeV at he;rw [if_neg h0] at he;exact he
def bP3 (h:Hr) (to2:Int):Int:=if goingE h=0 then hireE ⟨h.key,h.driver,h.fr,to2,h.legs⟩ else goingE h
def cV5 (h:Hr) (r:Rd) (veh:ByteArray) (q:Rd):Int:=if goingE h=0 then hireE ⟨h.key,h.driver,h.fr,h.to_,gZ h.legs r veh q⟩ else goingE h
theorem eH1 (key driver:ByteArray) (fr to_:Int) (l:List Lg) (A:Option Addr) (n c:Nat) (to2:Int) (w:World) (hl:SlT lgEnc 9 68 w A n l) (hok:HrOk key driver l) (hn:n<=1000000):
 Calls prog 214 #[.agg #[.string key,.string driver,.int .i64 fr,.int .i64 to_,.slice A n c],.int .i64 to2] w (cH8 w (bP3 ⟨key,driver,fr,to_,l⟩ to2) ⟨key,driver,fr,to2,l⟩):=by
 have hlen:=hl.len
 refine cS ⟨23,w,none, []⟩ func214 U ntmps214 U (gM (X:= [bW lgEnc 9 68 w.heap.size none A n l]) (cF hl.old cX) (cG bW.lasts cY)) (bR (fG U U U fun g1=>dL bZ4 U fun g2=>bX U (bQ (bR (bB (cU nF U (fun _ hm=>hm.blkI 1 U) U U) U ?_)))))
 refine bS1 (γ:=ByteArray×ByteArray×Int×Int×Value×Nat×List Value) (val:=(fun g=> .tuple #[.agg #[.string g.1,.string g.2.1,.int .i64 g.2.2.1,.int .i64 g.2.2.2.1,g.2.2.2.2.1],.int .i64 (goingE ⟨key,driver,fr,to_,l⟩)])) (φ:=(fun g=>(goingE ⟨key,driver,fr,to_,l⟩=0->key=g.1/\driver=g.2.1/\fr=g.2.2.1/\to_=g.2.2.2.1/\n=g.2.2.2.2.2.1/\l.flatMap lgEnc=g.2.2.2.2.2.2)/\(¬goingE ⟨key,driver,fr,to_,l⟩=0->(⟨#[]⟩:ByteArray)=g.1/\(⟨#[]⟩:ByteArray)=g.2.1/\0=g.2.2.1/\0=g.2.2.2.1/\ .slice none 0 0=g.2.2.2.2.1/\0=g.2.2.2.2.2.1/\ []=g.2.2.2.2.2.2))) (fun g=>⟨g.2.2.2.2.1,68,9,g.2.2.2.2.2.1,g.2.2.2.2.2.2⟩) U eD4 U U (fun wx hm=>(dP7 key driver fr to_ l A n c wx (hm.fact 0 U).1 hok (by omega)).mono fun _ _ ⟨k,d,f,t,v,m,xs,he,h1,h2,ho,hg⟩=>⟨(k,d,f,t,v,m,xs),he,⟨h1,h2⟩,ho,hg⟩) ?_
 rintro ⟨k1,d1,f1,t1,v1,m1,xs1⟩ mT
 dsimp only at mT ⊢
 by_cases hG:goingE ⟨key,driver,fr,to_,l⟩=0
 ·obtain ⟨rfl,rfl,rfl,rfl,rfl,rfl⟩:=mT.1 hG
  clear mT
  have zM:bP3 ⟨key,driver,fr,to_,l⟩ to2=hireE ⟨key,driver,fr,to2,l⟩:=if_pos hG
  have hgo:=goingE_ok hG
  have hn0:0 < n:=by have:=(hireE_legs hgo.1).1;exact hlen ▸ this
  refine dV (R:=∃A cc,v1= .slice A n cc) (fun wx hm=>dR (hm.ownI 0 U)) ?_
  rintro ⟨A1,c1,rfl⟩
  refine bP U (bB (cP U U) U (bB (cP U U) U (kE (cs':= [.string key,.string driver,.int .i64 fr,.int .i64 to_,.slice A1 n c1]) 1 nF U U U U (bX U (bQ (bH (bR (bP U (bB (gS U U) U (bK 13 (v':= .bool false) U (fU3 (by rw [hG];rfl)) (bQ (jQ U (bN (bD (bR (bP U (dY eM5 U U (dY bF9 U U (jH 1 fP U U U U U U (bQ (bR (bB (cU nF U (fun _ hm=>hm.blkI 1 U) U U) U ?_))))))))))))))))))))))
  by_cases hE:hireE ⟨key,driver,fr,to2,l⟩=0
  ·refine cH U dY0 U U (fun wx hm=>(cW6 (SlT.ofOwn lg_len (hm.ownI 0 U) hlen) hok hn hE)) ?_
   refine bB (cP U U) U (bB (cP U U) U (kE (cs':= [.string key,.string driver,.int .i64 fr,.int .i64 to2,.slice A1 n c1]) 0 nF U U U U (bX U (bQ (bM ?_)))))
   refine eQ 0 U nF U U U U fun wx hm=>?_
   rw [zM];exact cH0 hE hm.g (SlT.ofOwn lg_len (hm.ownI 0 rfl) hlen)
  refine cH U dY0 U U (fun wx hm=>(dV1 (SlT.ofOwn lg_len (hm.ownI 0 U) hlen) hok hn hE)) (bB (cP U U) U (bB (cP U U) U (kE (cs':= [.string ⟨#[]⟩,.string ⟨#[]⟩,.int .i64 0,.int .i64 0,.slice none 0 0]) 0 nF U U U U (bX U (bQ (bM ?_))))))
  refine eQ 0 U nF U U U U fun wx hm=>?_
  rw [zM];exact bJ4 hE hm.g
 obtain ⟨rfl,rfl,rfl,rfl,rfl,rfl,rfl⟩:=mT.2 hG
 clear mT
 have zM:bP3 ⟨key,driver,fr,to_,l⟩ to2=goingE ⟨key,driver,fr,to_,l⟩:=if_neg hG
 refine bP U (bB (cP U U) U (bB (cP U U) U (kE (cs':= [.string ⟨#[]⟩,.string ⟨#[]⟩,.int .i64 0,.int .i64 0,.slice none 0 0]) 1 nF U U U U (bX U (bQ (bH (bR (bP U (bB (gS U U) U (bK 13 (v':= .bool true) U (fU3 (by simpa using hG)) (bQ (kP U (bR (bB (dJ (cs:= [.string ⟨#[]⟩,.string ⟨#[]⟩,.int .i64 0,.int .i64 0,.slice none 0 0]) U (by kernel_rfl)) U (bP U (kE (cs':= [.string ⟨#[]⟩,.string ⟨#[]⟩,.int .i64 0,.int .i64 0,.slice none 0 0]) 0 nF U U U U (bX U (bQ (bM (bA ?_))))))))))))))))))))
 refine eQ 0 U nF U U U U fun wx hm=>?_
 rw [zM];exact bJ4 hG hm.g
theorem dR3 (key driver:ByteArray) (fr to_:Int) (l:List Lg) (A:Option Addr) (n c:Nat) (veh:ByteArray) (ra:Int) (rs:ByteArray) (rm rf qa:Int) (qs:ByteArray) (qm qf:Int) (w:World) (hl:SlT lgEnc 9 68 w A n l) (hok:HrOk key driver l) (hn:n<=10000) (hv:veh.size<=1000000) (hr:RdOk ⟨ra,rs,rm,rf⟩) (hq:RdOk ⟨qa,qs,qm,qf⟩):
 Calls prog 216 #[.agg #[.string key,.string driver,.int .i64 fr,.int .i64 to_,.slice A n c],.agg #[.int .i64 ra,.string rs,.int .i64 rm,.int .i64 rf],.string veh,.agg #[.int .i64 qa,.string qs,.int .i64 qm,.int .i64 qf]] w (cH8 w (cV5 ⟨key,driver,fr,to_,l⟩ ⟨ra,rs,rm,rf⟩ veh ⟨qa,qs,qm,qf⟩) ⟨key,driver,fr,to_,gZ l ⟨ra,rs,rm,rf⟩ veh ⟨qa,qs,qm,qf⟩⟩):=by
 have hlen:=hl.len
 refine cS ⟨42,w,none, []⟩ func216 U ntmps216 U (gM (X:= [bW lgEnc 9 68 w.heap.size none A n l]) (cF hl.old cX) (cG bW.lasts cY)) (bR (fG U U U fun g1=>fG U U U fun g2=>fG U U U fun g3=>dL bZ4 U fun g4=>bX U (bQ (bR (bB (cU nF U (fun _ hm=>hm.blkI 3 U) U U) U ?_)))))
 refine bS1 (γ:=ByteArray×ByteArray×Int×Int×Value×Nat×List Value) (val:=(fun g=> .tuple #[.agg #[.string g.1,.string g.2.1,.int .i64 g.2.2.1,.int .i64 g.2.2.2.1,g.2.2.2.2.1],.int .i64 (goingE ⟨key,driver,fr,to_,l⟩)])) (φ:=(fun g=>(goingE ⟨key,driver,fr,to_,l⟩=0->key=g.1/\driver=g.2.1/\fr=g.2.2.1/\to_=g.2.2.2.1/\n=g.2.2.2.2.2.1/\l.flatMap lgEnc=g.2.2.2.2.2.2)/\(¬goingE ⟨key,driver,fr,to_,l⟩=0->(⟨#[]⟩:ByteArray)=g.1/\(⟨#[]⟩:ByteArray)=g.2.1/\0=g.2.2.1/\0=g.2.2.2.1/\ .slice none 0 0=g.2.2.2.2.1/\0=g.2.2.2.2.2.1/\ []=g.2.2.2.2.2.2))) (fun g=>⟨g.2.2.2.2.1,68,9,g.2.2.2.2.2.1,g.2.2.2.2.2.2⟩) U eD4 U U (fun wx hm=>(dP7 key driver fr to_ l A n c wx (hm.fact 0 U).1 hok (by omega)).mono fun _ _ ⟨k,d,f,t,v,m,xs,he,h1,h2,ho,hg⟩=>⟨(k,d,f,t,v,m,xs),he,⟨h1,h2⟩,ho,hg⟩) ?_
 rintro ⟨k1,d1,f1,t1,v1,m1,xs1⟩ mT
 dsimp only at mT ⊢
 by_cases hG:goingE ⟨key,driver,fr,to_,l⟩=0
 ·obtain ⟨rfl,rfl,rfl,rfl,rfl,rfl⟩:=mT.1 hG
  clear mT
  have zM:cV5 ⟨key,driver,fr,to_,l⟩ ⟨ra,rs,rm,rf⟩ veh ⟨qa,qs,qm,qf⟩=hireE ⟨key,driver,fr,to_,gZ l ⟨ra,rs,rm,rf⟩ veh ⟨qa,qs,qm,qf⟩⟩:=if_pos hG
  have hgo:=goingE_ok hG
  have hn0:0 < n:=by have:=(hireE_legs hgo.1).1;exact hlen ▸ this
  refine dV (R:=∃A cc,v1= .slice A n cc) (fun wx hm=>dR (hm.ownI 0 U)) ?_
  rintro ⟨A1,c1,rfl⟩
  refine dV (R:=∃g,A1=some ⟨g,0,none⟩) (fun wx hm=>xH (hm.ownI 0 U) hn0) ?_
  rintro ⟨ro,rfl⟩
  obtain ⟨x,hx⟩:∃x,l[n - 1]?=some x:=⟨_,fW3 (by omega)⟩
  obtain ⟨x1,x2,x3⟩:=x
  have hL2:gZ l ⟨ra,rs,rm,rf⟩ veh ⟨qa,qs,qm,qf⟩=l.set (n - 1) ⟨x1,x2,⟨ra,rs,rm,rf⟩⟩++ [⟨veh,⟨qa,qs,qm,qf⟩,⟨-1,⟨#[]⟩,0,0⟩⟩]:=by unfold gZ endLegs;rw [hlen,hx];rfl
  have hlen2:(gZ l ⟨ra,rs,rm,rf⟩ veh ⟨qa,qs,qm,qf⟩).length=n+1:=by rw [hL2];simp [hlen]
  have hok2:HrOk key driver (gZ l ⟨ra,rs,rm,rf⟩ veh ⟨qa,qs,qm,qf⟩):=⟨hok.1,hok.2.1,dF1 hok.2.2 hr hv hq⟩
  refine bP U (bB (cP U U) U (bB (cP U U) U (kE (cs':= [.string key,.string driver,.int .i64 fr,.int .i64 to_,.slice (some ⟨ro,0,none⟩) n c1]) 3 nF U U U U (bX U (bQ (bH (bR (bP U (bB (gS U U) U (bK 17 (v':= .bool false) U (fU3 (by rw [hG];rfl)) (bQ (jQ U (bN (bD (bR (dY uP U U (eJ bV7 3 U U U (dY uP U U (eJ bV7 3 U U U (bB (dT bB9 U) U (bB (ov_sub U U (by omega) (by omega)) U (bK 25 (v':= .int .i64 ((n - 1:Nat):Int)) U (fV3 (by omega)) (bB (cU dC0 U (fun _ hm=>hm.blkI 2 U) U U) U (bB (bV (j:=n - 1) bB9 U U (by omega)) U (dY cA4 U U (dR0 (l:=l) (j:=n - 1) (r:=5) (el:=⟨x1,x2,x3⟩) (el':=⟨x1,x2,⟨ra,rs,rm,rf⟩⟩) 0 dC0 U U U U U lg_len U hx hlen (by decide) U U ?_))))))))))))))))))))))))))
  refine bQ (bR (dY uP U U (eJ bV7 3 U U U (bP U (bB (cU dC0 U (fun _ hm=>hm.blkI 1 U) U U) U (bB (dJ (cs:= [.int .i64 (-1),.string ⟨#[]⟩,.int .i64 0,.int .i64 0]) U (by kernel_rfl)) U (bB (dJ (cs:= [.string veh,.int .i64 qa,.string qs,.int .i64 qm,.int .i64 qf,.int .i64 (-1),.string ⟨#[]⟩,.int .i64 0,.int .i64 0]) U (by kernel_rfl)) U (jE 68 [.string veh,.int .i64 qa,.string qs,.int .i64 qm,.int .i64 qf,.int .i64 (-1),.string ⟨#[]⟩,.int .i64 0,.int .i64 0] fun g5=>eB (news:= [.string veh,.int .i64 qa,.string qs,.int .i64 qm,.int .i64 qf,.int .i64 (-1),.string ⟨#[]⟩,.int .i64 0,.int .i64 0]) 0 0 fS1 U U U U U U U (by omega) (by unfold maxLen;omega) U U fun v2 zJ=>?_))))))))
  refine dV (R:=∃A cc,v2= .slice A (n+1) cc) (fun wx hm=>dR (hm.ownI 0 U)) ?_
  rintro ⟨A2,c2,rfl⟩
  refine dY uP U U (jH 4 bV7 U U U U U U (bQ (bR (bB (cU nF U (fun _ hm=>hm.blkI 4 U) U U) U ?_))))
  have xM:(l.set (n - 1) ⟨x1,x2,⟨ra,rs,rm,rf⟩⟩).flatMap lgEnc++([.string veh,.int .i64 qa,.string qs,.int .i64 qm,.int .i64 qf,.int .i64 (-1),.string ⟨#[]⟩,.int .i64 0,.int .i64 0]:List Value)=(gZ l ⟨ra,rs,rm,rf⟩ veh ⟨qa,qs,qm,qf⟩).flatMap lgEnc:=by rw [hL2,List.flatMap_append];rfl
  by_cases hE:hireE ⟨key,driver,fr,to_,gZ l ⟨ra,rs,rm,rf⟩ veh ⟨qa,qs,qm,qf⟩⟩=0
  ·refine cH U dY0 U U (fun wx hm=>(cW6 (SlT.ofOwn lg_len (xM ▸ (hm.ownI 0 U)) hlen2) hok2 (by omega) hE)) ?_
   refine bB (cP U U) U (bB (cP U U) U (kE (cs':= [.string key,.string driver,.int .i64 fr,.int .i64 to_,.slice A2 (n+1) c2]) 1 nF U U U U (bX U (bQ (bM ?_)))))
   refine eQ 1 U nF U U U U fun wx hm=>?_
   rw [zM];exact cH0 hE hm.g (SlT.ofOwn lg_len (xM ▸ (hm.ownI 0 rfl)) hlen2)
  refine cH U dY0 U U (fun wx hm=>(dV1 (SlT.ofOwn lg_len (xM ▸ (hm.ownI 0 U)) hlen2) hok2 (by omega) hE)) (bB (cP U U) U (bB (cP U U) U (kE (cs':= [.string ⟨#[]⟩,.string ⟨#[]⟩,.int .i64 0,.int .i64 0,.slice none 0 0]) 1 nF U U U U (bX U (bQ (bM ?_))))))
  refine eQ 1 U nF U U U U fun wx hm=>?_
  rw [zM];exact bJ4 hE hm.g
 obtain ⟨rfl,rfl,rfl,rfl,rfl,rfl,rfl⟩:=mT.2 hG
 clear mT
 have zM:cV5 ⟨key,driver,fr,to_,l⟩ ⟨ra,rs,rm,rf⟩ veh ⟨qa,qs,qm,qf⟩=goingE ⟨key,driver,fr,to_,l⟩:=if_neg hG
 refine bP U (bB (cP U U) U (bB (cP U U) U (kE (cs':= [.string ⟨#[]⟩,.string ⟨#[]⟩,.int .i64 0,.int .i64 0,.slice none 0 0]) 3 nF U U U U (bX U (bQ (bH (bR (bP U (bB (gS U U) U (bK 17 (v':= .bool true) U (fU3 (by simpa using hG)) (bQ (kP U (bR (bB (dJ (cs:= [.string ⟨#[]⟩,.string ⟨#[]⟩,.int .i64 0,.int .i64 0,.slice none 0 0]) U (by kernel_rfl)) U (bP U (kE (cs':= [.string ⟨#[]⟩,.string ⟨#[]⟩,.int .i64 0,.int .i64 0,.slice none 0 0]) 0 nF U U U U (bX U (bQ (bM (bA ?_))))))))))))))))))))
 refine eQ 0 U nF U U U U fun wx hm=>?_
 rw [zM];exact bJ4 hG hm.g
theorem mH {α:Type} {l:List α} {k:Nat} (h:k=0):prevOf l k=none:=by unfold prevOf;rw [if_pos h]
theorem jT {α:Type} {l:List α} {k:Nat} {y:α} (h:¬k=0) (hy:l[k - 1]?=some y):prevOf l k=some y:=by unfold prevOf;rw [if_neg h,hy]
theorem dR1 {a:ByteArray} (h:keyB a=true):leB a ⟨#[]⟩=false:=by
 obtain ⟨⟨l⟩⟩:=a
 cases l with
 |nil=>cases h
 |cons c r=>unfold leB;rw [ByteArray.toList_eq,ByteArray.toList_eq];rfl
def fH (x:ByteArray):List Value:= [.string x]
theorem yR (x:ByteArray):(fH x).length=1:=rfl
structure Bk where
 key:ByteArray
 cls:ByteArray
 fr:Int
 to_:Int
 made:Int
 odds:Int
def zO (b:Bk):List Value:= [.string b.key,.string b.cls,.int .i64 b.fr,.int .i64 b.to_,.int .i64 b.made,.int .i64 b.odds]
theorem eV4 (b:Bk):(zO b).length=6:=rfl
def dV5 (b:Bk):Prop:=b.key.size<=1000000/\b.cls.size<=1000000
def leO (p:Option Bk) (b:Bk):Bool:=match p with
 |none=>false
 |some q=>leB b.key q.key
def kW (p:Option Bk) (b:Bk):Int:=
 if !keyB b.key then 5 else if !keyB b.cls then 5 else if leO p b then 7 else
 if b.fr < 0 then 1 else if b.to_<=b.fr then 1 else if 5761439 < b.to_ then 1 else if !inB b.made 0 b.fr then 1 else if !inB b.odds 0 100 then 1 else 0
def bP6 (l:List Bk):Int:=if 500 < l.length then 2 else scanE kW none l
theorem cY8 (l:List Bk) (A:Option Addr) (n c:Nat) (w:World) (hl:SlT zO 6 146 w A n l) (hok:∀b∈l,dV5 b) (hn:n<=1000000):
 Calls prog 151 #[.slice A n c] w (mP w (bP6 l)):=by
 refine cS ⟨75,w,none, []⟩ func151 U ntmps151 U (gM (X:= [bW zO 6 146 w.heap.size none A n l]) (cF hl.old cX) (cG bW.lasts cY)) (bR ?_)
 have hlen:=hl.len
 refine bX U (bQ (bH (bR (bP U (bB (dT dO3 U) U (bB (eK U U) U (bQ ?_)))))))
 refine cC U (fun h1=>?_) (fun h1=>?_)
 ·refine bR (bX U (bQ ?_))
  refine bM (bA ?_)
  exact bJ U U fun wx hm=>⟨bT (by unfold bP6;rw [if_pos (by omega)]),hm.g⟩
 refine bN (bD (bH (bR (bP U (bB (dT dO3 U) U (bP U (bQ (bO ?_))))))))
 refine dX (γ:=Nat) (fun (k:Nat)=>k<=n/\bP6 l=scanE kW (prevOf l k) (l.drop k)) (fun (k:Nat)=> [(0,.slice A n c),(8,.slice A n c),(9,.int .i64 ((n:Nat):Int)),(10,.int .i64 ((k:Nat):Int))]) (fun (k:Nat)=>fun _=>True) (fun (k:Nat)=> []) (fun (k:Nat)=> []) (fun (k:Nat)=> [bW zO 6 146 w.heap.size none A n l]) (fun (k:Nat)=>n - k) 0 ⟨Nat.zero_le _,by unfold bP6;rw [if_neg (by omega)];rfl⟩ ⟨U,U,U,U,trivial⟩ (fun _ hm=>hm.pick [] [] [0] U U) ?_
 intro k cB
 replace cB:k<=n/\bP6 l=scanE kW (prevOf l k) (l.drop k):=cB
 refine bR (bB (dE U U) U (bQ (bH ?_)))
 refine cC U (fun hk=>?_) (fun hk=>?_)
 ·refine bN (bD (bH (bO (bR ?_))))
  obtain ⟨b,off,hA,_,_⟩:=hl.get (by omega)
  subst hA
  obtain ⟨x,hx⟩:∃x,l[k]?=some x:=⟨_,fW3 (by omega)⟩
  obtain ⟨ke,cl,fr,tt,ma,od⟩:=x
  have hat:=scanE_at kW l k _ hx
  obtain ⟨hk1,hk2⟩:=hok _ (fX3 hx)
  have hk1:ke.size<=1000000:=hk1
  have hk2:cl.size<=1000000:=hk2
  refine bP U (bB (bV (j:=k) dO3 U U (by omega)) U (bB (dP (vs:= [.string ke,.string cl,.int .i64 fr,.int .i64 tt,.int .i64 ma,.int .i64 od]) bC7 U (fun _ hm=>(hm.fact 0 U).1) hx U U) U (dL dV2 U fun g1=>bX U (kE (cs':= [.string ke,.string cl,.int .i64 fr,.int .i64 tt,.int .i64 ma,.int .i64 od]) 0 bC7 U U U U (bQ (bO (bR (dY bU0 U U (eJ fC 0 U U U (cZ U bW1 U U (fun wx hm=>(isKey_any _ wx (by omega))) (bB (cE U) U (bP U ?_))))))))))))
  rcases Bool.eq_false_or_eq_true (!(keyB ke)) with h2|h2
  ·refine bK 20 U (fU3 h2) ?_
   refine dZ U (dZ U (dZ U (dZ U (mN U U (bX U (bQ (kP U (bR (bX U (bQ (bM (bC (bC (bA (bA (bC (bA ?_)))))))))))))))))
   have hE:kW (prevOf l k) ⟨ke,cl,fr,tt,ma,od⟩=5:=by unfold kW;simp [h2]
   exact bJ U U fun wx hm=>⟨bT (by rw [cB.2,hat,if_neg (by rw [hE];decide),hE]),hm.g⟩
  refine bK 20 U (fU3 h2) (eE U (dY dL1 U U (eE U (eJ fC 0 U U U (eE U (cZ U bW1 U U (fun wx hm=>(isKey_any _ wx (by omega))) (eE U (bB (cE U) U (nR U U (bX U (bQ ?_)))))))))))
  refine dC U (fun hh=>?_) (fun hh=>?_)
  ·have h3:(keyB cl)=false:=by simpa using hh
   refine bR (bX U (bQ (bM (bC (bC (bA (bA (bC (bA ?_)))))))))
   have hE:kW (prevOf l k) ⟨ke,cl,fr,tt,ma,od⟩=5:=by unfold kW;simp [h2,h3]
   exact bJ U U fun wx hm=>⟨bT (by rw [cB.2,hat,if_neg (by rw [hE];decide),hE]),hm.g⟩
  have h3:(keyB cl)=true:=by simpa using hh
  refine bH ?_
  by_cases hk0:k=0
  ·have hO:leO (prevOf l k) ⟨ke,cl,fr,tt,ma,od⟩=false:=by rw [mH hk0];rfl
   refine gd (fun wz=>True) mixed (fun _ _=>trivial) fun z=>wq 0 U (bL U) (wq 1 U (eK U U) (dH 28 (v':= .bool false) U (fU3 (decide_eq_false (by omega))) (wq 2 U (bL U) (fD 3 U (fD 4 U (fD 5 U (fD 6 U (fD 7 U (fD 8 U (fD 9 U (fD 10 U (fD 11 U (wq 12 U (fO U U) (wq 13 U (cV U) (jO (bD (jQ U (bR (dY uE U U (dY bO5 U U (eJ fP 0 U U U (bB (dE U U) U (bP U ?_)))))))))))))))))))))))
   rcases Bool.eq_false_or_eq_true (decide (fr < 0)) with h4|h4
   ·refine bK 45 U (fU3 h4) ?_
    replace h4:=of_decide_eq_true h4
    refine dZ U (dZ U (dZ U (dZ U (dZ U (dZ U (dZ U (mN U U (bP U (dZ U (dZ U (dZ U (dZ U (mN U U (bX U (bQ (kP U (bR (bX U (bQ (bM (bC (bC (bA (bA (bC (bA ?_))))))))))))))))))))))))))
    have hE:kW (prevOf l k) ⟨ke,cl,fr,tt,ma,od⟩=1:=by unfold kW;simp [h2,h3,hO,h4]
    exact bJ U U fun wx hm=>⟨bT (by rw [cB.2,hat,if_neg (by rw [hE];decide),hE]),hm.g⟩
   refine bK 45 U (fU3 h4) ?_
   replace h4:=of_decide_eq_false h4
   refine eE U (dY uE U U (eE U (dY bO5 U U (eE U (eJ fP 0 U U U (eE U (dY uE U U (eE U (dY bF9 U U (eE U (eJ fP 0 U U U (eE U (bB (mG U U) U (nR U U (bP U ?_)))))))))))))))
   rcases Bool.eq_false_or_eq_true (decide (tt<=fr)) with h5|h5
   ·refine bK 54 U (fU3 h5) ?_
    replace h5:=of_decide_eq_true h5
    refine dZ U (dZ U (dZ U (dZ U (mN U U (bX U (bQ (kP U (bR (bX U (bQ (bM (bC (bC (bA (bA (bC (bA ?_)))))))))))))))))
    have hE:kW (prevOf l k) ⟨ke,cl,fr,tt,ma,od⟩=1:=by unfold kW;simp [h2,h3,hO,h4,h5]
    exact bJ U U fun wx hm=>⟨bT (by rw [cB.2,hat,if_neg (by rw [hE];decide),hE]),hm.g⟩
   refine bK 54 U (fU3 h5) ?_
   replace h5:=of_decide_eq_false h5
   refine eE U (dY uE U U (eE U (dY bF9 U U (eE U (eJ fP 0 U U U (eE U (bB (eK U U) U (nR U U (bX U (bQ ?_))))))))))
   refine cC U (fun h6=>?_) (fun h6=>?_)
   ·refine bR (bX U (bQ ?_))
    refine bM (bC (bC (bA (bA (bC (bA ?_))))))
    have hE:kW (prevOf l k) ⟨ke,cl,fr,tt,ma,od⟩=1:=by unfold kW;simp [h2,h3,hO,h4,h5,h6]
    exact bJ U U fun wx hm=>⟨bT (by rw [cB.2,hat,if_neg (by rw [hE];decide),hE]),hm.g⟩
   refine bR (dY dM1 U U (eJ fP 0 U U U (dY uE U U (dY bO5 U U (eJ fP 0 U U U (cZ U qA U U (fun wx hm=>(in_any _ _ _ wx)) (bB (cE U) U (bP U ?_))))))))
   rcases Bool.eq_false_or_eq_true (!(inB ma 0 fr)) with h7|h7
   ·refine bK 68 U (fU3 h7) ?_
    refine dZ U (dZ U (dZ U (dZ U (mN U U (bX U (bQ (kP U (bR (bX U (bQ (bM (bC (bC (bA (bA (bC (bA ?_)))))))))))))))))
    have hE:kW (prevOf l k) ⟨ke,cl,fr,tt,ma,od⟩=1:=by unfold kW;simp [h2,h3,hO,h4,h5,h6,h7]
    exact bJ U U fun wx hm=>⟨bT (by rw [cB.2,hat,if_neg (by rw [hE];decide),hE]),hm.g⟩
   refine bK 68 U (fU3 h7) (eE U (dY dN1 U U (eE U (eJ fP 0 U U U (eE U (cZ U qA U U (fun wx hm=>(in_any _ _ _ wx)) (eE U (bB (cE U) U (nR U U (bX U (bQ ?_)))))))))))
   refine dC U (fun hh=>?_) (fun hh=>?_)
   ·have h8:(inB od 0 100)=false:=by simpa using hh
    refine bR (bX U (bQ (bM (bC (bC (bA (bA (bC (bA ?_)))))))))
    have hE:kW (prevOf l k) ⟨ke,cl,fr,tt,ma,od⟩=1:=by unfold kW;simp [h2,h3,hO,h4,h5,h6,h7,h8]
    exact bJ U U fun wx hm=>⟨bT (by rw [cB.2,hat,if_neg (by rw [hE];decide),hE]),hm.g⟩
   have h8:(inB od 0 100)=true:=by simpa using hh
   refine bN (bG (bG (bD (bI ?_))))
   have hE:kW (prevOf l k) ⟨ke,cl,fr,tt,ma,od⟩=0:=by unfold kW;simp [h2,h3,hO,h4,h5,h6,h7,h8]
   refine gO U U (bP U (bE ?_))
   exact cN (k+1) ⟨by omega,by rw [cB.2,hat,if_pos hE]⟩ (by omega) ⟨U,U,U,(cR (by omega)),trivial⟩ (fun _ hm=>hm.pick [] [] [0] U U)
  obtain ⟨y,hy⟩:∃x,l[k - 1]?=some x:=⟨_,fW3 (by omega)⟩
  obtain ⟨pk,p1,p2,p3,p4,p5⟩:=y
  refine gd (fun wz=>Blk wz g1 146 [.string ke,.string cl,.int .i64 fr,.int .i64 tt,.int .i64 ma,.int .i64 od]/\(bW zO 6 146 w.heap.size none (some ⟨b,off,none⟩) n l) wz/\True) mixed (fun _ hm=>⟨hm.bl 0,hm.fa 0,trivial⟩) fun z=>wq 0 U (bL U) (wq 1 U (eK U U) (dH 28 (v':= .bool true) U (fU3 (decide_eq_true (by omega))) (wq 2 U (bL U) (fI 3 U (bS bU0 U U) (fI 4 U (cQ fC U (fun _ hm=>hm.1) U) (fI 5 U (bL U) (fI 6 U (bL U) (fI 7 U (ov_sub U U (by omega) (by omega)) (dH 34 (v':= .int .i64 ((k - 1:Nat):Int)) U (fV3 (by omega)) (fI 8 U (bV (j:=k - 1) dO3 U U (by omega)) (fI 9 U (bS bU0 U U) (fI 10 U (dK (k:=0) (v:= .string pk) fC U (fun _ hm=>(hm.2.1).1) hy U U) (fI 11 U (wG U U) (wq 12 U (fE U U) (wq 13 U (cV U) (jO (bD ?_)))))))))))))))))
  refine dC U (fun hh=>?_) (fun hh=>?_)
  ·have h9:(Op.bytesLess ke.toList pk.toList||ke.toList==pk.toList)=true:=by simpa using hh
   refine bR ?_
   have hO:leO (prevOf l k) ⟨ke,cl,fr,tt,ma,od⟩=true:=by rw [jT hk0 hy];exact h9
   refine bX U (bQ (bM (bC (bC (bA (bA (bC (bA ?_))))))))
   have hE:kW (prevOf l k) ⟨ke,cl,fr,tt,ma,od⟩=7:=by unfold kW;simp [h2,h3,hO]
   exact bJ U U fun wx hm=>⟨bT (by rw [cB.2,hat,if_neg (by rw [hE];decide),hE]),hm.g⟩
  have h9:(Op.bytesLess ke.toList pk.toList||ke.toList==pk.toList)=false:=by simpa using hh
  refine bR ?_
  have hO:leO (prevOf l k) ⟨ke,cl,fr,tt,ma,od⟩=false:=by rw [jT hk0 hy];exact h9
  refine dY uE U U (dY bO5 U U (eJ fP 0 U U U (bB (dE U U) U (bP U ?_))))
  rcases Bool.eq_false_or_eq_true (decide (fr < 0)) with h4|h4
  ·refine bK 45 U (fU3 h4) ?_
   replace h4:=of_decide_eq_true h4
   refine dZ U (dZ U (dZ U (dZ U (dZ U (dZ U (dZ U (mN U U (bP U (dZ U (dZ U (dZ U (dZ U (mN U U (bX U (bQ (kP U (bR (bX U (bQ (bM (bC (bC (bA (bA (bC (bA ?_))))))))))))))))))))))))))
   have hE:kW (prevOf l k) ⟨ke,cl,fr,tt,ma,od⟩=1:=by unfold kW;simp [h2,h3,hO,h4]
   exact bJ U U fun wx hm=>⟨bT (by rw [cB.2,hat,if_neg (by rw [hE];decide),hE]),hm.g⟩
  refine bK 45 U (fU3 h4) ?_
  replace h4:=of_decide_eq_false h4
  refine eE U (dY uE U U (eE U (dY bO5 U U (eE U (eJ fP 0 U U U (eE U (dY uE U U (eE U (dY bF9 U U (eE U (eJ fP 0 U U U (eE U (bB (mG U U) U (nR U U (bP U ?_)))))))))))))))
  rcases Bool.eq_false_or_eq_true (decide (tt<=fr)) with h5|h5
  ·refine bK 54 U (fU3 h5) ?_
   replace h5:=of_decide_eq_true h5
   refine dZ U (dZ U (dZ U (dZ U (mN U U (bX U (bQ (kP U (bR (bX U (bQ (bM (bC (bC (bA (bA (bC (bA ?_)))))))))))))))))
   have hE:kW (prevOf l k) ⟨ke,cl,fr,tt,ma,od⟩=1:=by unfold kW;simp [h2,h3,hO,h4,h5]
   exact bJ U U fun wx hm=>⟨bT (by rw [cB.2,hat,if_neg (by rw [hE];decide),hE]),hm.g⟩
  refine bK 54 U (fU3 h5) ?_
  replace h5:=of_decide_eq_false h5
  refine eE U (dY uE U U (eE U (dY bF9 U U (eE U (eJ fP 0 U U U (eE U (bB (eK U U) U (nR U U (bX U (bQ ?_))))))))))
  refine cC U (fun h6=>?_) (fun h6=>?_)
  ·refine bR (bX U (bQ ?_))
   refine bM (bC (bC (bA (bA (bC (bA ?_))))))
   have hE:kW (prevOf l k) ⟨ke,cl,fr,tt,ma,od⟩=1:=by unfold kW;simp [h2,h3,hO,h4,h5,h6]
   exact bJ U U fun wx hm=>⟨bT (by rw [cB.2,hat,if_neg (by rw [hE];decide),hE]),hm.g⟩
  refine bR (dY dM1 U U (eJ fP 0 U U U (dY uE U U (dY bO5 U U (eJ fP 0 U U U (cZ U qA U U (fun wx hm=>(in_any _ _ _ wx)) (bB (cE U) U (bP U ?_))))))))
  rcases Bool.eq_false_or_eq_true (!(inB ma 0 fr)) with h7|h7
  ·refine bK 68 U (fU3 h7) ?_
   refine dZ U (dZ U (dZ U (dZ U (mN U U (bX U (bQ (kP U (bR (bX U (bQ (bM (bC (bC (bA (bA (bC (bA ?_)))))))))))))))))
   have hE:kW (prevOf l k) ⟨ke,cl,fr,tt,ma,od⟩=1:=by unfold kW;simp [h2,h3,hO,h4,h5,h6,h7]
   exact bJ U U fun wx hm=>⟨bT (by rw [cB.2,hat,if_neg (by rw [hE];decide),hE]),hm.g⟩
  refine bK 68 U (fU3 h7) (eE U (dY dN1 U U (eE U (eJ fP 0 U U U (eE U (cZ U qA U U (fun wx hm=>(in_any _ _ _ wx)) (eE U (bB (cE U) U (nR U U (bX U (bQ ?_)))))))))))
  refine dC U (fun hh=>?_) (fun hh=>?_)
  ·have h8:(inB od 0 100)=false:=by simpa using hh
   refine bR (bX U (bQ (bM (bC (bC (bA (bA (bC (bA ?_)))))))))
   have hE:kW (prevOf l k) ⟨ke,cl,fr,tt,ma,od⟩=1:=by unfold kW;simp [h2,h3,hO,h4,h5,h6,h7,h8]
   exact bJ U U fun wx hm=>⟨bT (by rw [cB.2,hat,if_neg (by rw [hE];decide),hE]),hm.g⟩
  have h8:(inB od 0 100)=true:=by simpa using hh
  refine bN (bG (bG (bD (bI ?_))))
  have hE:kW (prevOf l k) ⟨ke,cl,fr,tt,ma,od⟩=0:=by unfold kW;simp [h2,h3,hO,h4,h5,h6,h7,h8]
  refine gO U U (bP U (bE ?_))
  exact cN (k+1) ⟨by omega,by rw [cB.2,hat,if_pos hE]⟩ (by omega) ⟨U,U,U,(cR (by omega)),trivial⟩ (fun _ hm=>hm.pick [] [] [0] U U)
 refine dD (bF (bF (bY (bD (bR (bX U (bQ (bM ?_))))))))
 exact bJ U U fun wx hm=>⟨bT (by rw [cB.2,scanE_end _ _ _ _ (by omega)]),hm.g⟩
theorem gV.cy {n n':Nat} {w0:World} {row:Option Nat} {Tt:List TypeId} {K:World->Prop} {L:List (Nat×TypeId×List Value)} {O:List Own} {X:List (World->Prop)} {w:World} (h:gV ⟨n,w0,row,Tt⟩ K L O X w):gV ⟨n',w0,row,Tt⟩ K L O X w:=⟨h.g,h.k,h.b,h.nd,h.o,h.od,h.oo,h.x,h.kk,h.l,h.rs⟩
theorem gV.gn {c:Cx} {K:World->Prop} {L:List (Nat×TypeId×List Value)} {O:List Own} {X:List (World->Prop)} {w w':World} {g:Nat} {T:TypeId} {cs:List Value} (h:gV c K L O X w) (hgr:w.grownBy w' none) (hN:w.heap.size<=g) (hb:Blk w' g T cs):gV c K ((g,T,cs)::L) O X w':=by
 have h2:=h.grow hgr
 refine ⟨h2.g,h2.k,fun x hx=>?_,List.Pairwise.cons (fun y hy e=>by have h3:=(h.b y hy).2.lt;have e2:g=y.1:=e;omega) h.nd,h2.o,fun r hr x hx=>?_,h.oo,h2.x,h.kk,h.l,h.rs⟩
 ·rcases List.mem_cons.1 hx with rfl|hx
  ·exact ⟨Nat.le_trans h.g.size hN,hb⟩
  ·exact h2.b x hx
 ·rcases List.mem_cons.1 hx with rfl|hx
  ·intro e
   have:=((h.o r hr).lt g e).2
   omega
  ·exact h.od r hr x hx
theorem gV.subX {c:Cx} {K:World->Prop} {L:List (Nat×TypeId×List Value)} {O:List Own} {X X':List (World->Prop)} {w:World} (h:gV c K L O X w) (hs:∀A∈X',A∈X):gV c K L O X' w:=⟨h.g,h.k,h.b,h.nd,h.o,h.od,h.oo,fun A hA=>h.x A (hs A hA),h.kk,fun A hA=>h.l A (hs A hA),h.rs⟩
theorem dQ {X X':List (World->Prop)} {A:World->Prop} (i:Nat) (hi:X[i]?=some A) (h:∀B∈X',B∈X):∀B∈A::X',B∈X:=fun B hB=>by
 rcases List.mem_cons.1 hB with rfl|hB
 ·exact fX3 hi
 ·exact h B hB
theorem cU2 {X X1:List (World->Prop)} (n:Nat) (hd:X.drop n=X1):∀B∈X1,B∈X:=fun B hB=>List.mem_of_mem_drop (by rw [hd];exact hB)
theorem bS4 {X:List (World->Prop)}:∀B∈([]:List (World->Prop)),B∈X:=fun _ h=>by cases h
def dM (s:ByteArray):Value:= .string s
def vS (x:ByteArray):Value:= .string x
def vB (x:Bool):Value:= .bool x
def vI (x:Int):Value:= .int .i64 x
def qS (x:Sa):Value:= .agg (kQ x).toArray
def pZ (x:Bk):Value:= .agg (zO x).toArray
structure Hg where
 key:ByteArray
 driver:ByteArray
 fr:Int
 to_:Int
 A:Option Addr
 n:Nat
 c:Nat
 legs:List Lg
def nG (h:Hg):Value:= .agg #[.string h.key,.string h.driver,.int .i64 h.fr,.int .i64 h.to_,.slice h.A h.n h.c]
def vF:Hg:=⟨⟨#[]⟩,⟨#[]⟩,0,0,none,0,0, []⟩
def bk0:Bk:=⟨⟨#[]⟩,⟨#[]⟩,0,0,0,0⟩
def hrG (h:Hg):Hr:=⟨h.key,h.driver,h.fr,h.to_,h.legs⟩
def gF (T:TypeId) (f:ByteArray->Option Hg) (w:World):Prop:=∀k h,f k=some h->SlT lgEnc 9 T w h.A h.n h.legs
theorem gF.lasts2 {N:Nat} {row:Option Nat} {Tt:List TypeId} {T:TypeId} {f:ByteArray->Option Hg} (hT:Tt.contains T=true):Lasts2 N row Tt (gF T f):=
 ⟨fun w w' h hx k g hk=>(SlT.lasts2 (N:=N) (row:=row) (Tt:=Tt) hT).gr w w' h (hx k g hk),fun w w' r T2 c h1 h2 h3 h4 hx k g hk=>(SlT.lasts2 (N:=N) (row:=row) (Tt:=Tt) hT).st w w' r T2 c h1 h2 h3 h4 (hx k g hk)⟩
theorem gF.mfar {T:TypeId} {f:ByteArray->Option Hg}:bK2 (gF T f):=fun N g w w' h1 h2 h3 hx k y hk=>SlT.mfar N g w w' h1 h2 h3 (hx k y hk)
theorem gF.put {T:TypeId} {f:ByteArray->Option Hg} {w:World} {k:ByteArray} {h:Hg} (hf:gF T f w) (hl:SlT lgEnc 9 T w h.A h.n h.legs):gF T (fQ f k h) w:=fun j y hj=>by
 by_cases e:j=k
 ·subst e
  rw [hU] at hj
  cases hj
  exact hl
 ·rw [dB _ _ e] at hj
  exact hf j y hj
def dX2 (h:Hg):Prop:=HrOk h.key h.driver h.legs/\0 < h.n/\h.n<=20/\h.legs.length=h.n
structure Os where
 fs:ByteArray->Option Sa
 fa:ByteArray×Int->Option Bool
 fb:ByteArray->Option Bk
 fh:ByteArray->Option Hg
 lg:List Ev
def os0:Os:=⟨mY,mY,mY,mY, []⟩
noncomputable def gK (σ:Os) (x:Ev):Os:={ σ with fs:=fQ σ.fs x.veh (fW ((σ.fs x.veh).getD wM) x),fa:=fQ σ.fa (x.veh,x.at_) true,lg:=σ.lg++ [x] }
def bT1 (σ:Os) (x:Ev):Prop:=(σ.fa (x.veh,x.at_)).getD false=false/\fF ((σ.fs x.veh).getD wM) x=true
def gL (at_:Int) (veh st:ByteArray):Ev:=⟨at_,veh,st,2,⟨#[]⟩⟩
def eP (at_:Int) (veh st:ByteArray):Ev:=⟨at_,veh,st,3,⟨#[]⟩⟩
inductive kR (V:ByteArray->Option ByteArray) (T:ByteArray->Option Bool) (ck:Bk->Prop) (at_:Int):Os->Os->Prop
 |same (σ:Os):kR V T ck at_ σ σ
 |ev (σ:Os) (x:Ev):x.at_=at_->cE8 x->x.kd∈([1,4,5,6,7,8]:List Int)->(V x.veh).isSome=true->(T x.sta).getD false=true->(x.kd=6->(T x.to_).getD false=true/\x.to_≠x.sta)->(x.kd≠6->x.to_=⟨#[]⟩)->bT1 σ x->kR V T ck at_ σ (gK σ x)
 |book (σ:Os) (b:Bk):dV5 b->ck b->(σ.fb b.key).isSome=false->(σ.fh b.key).isSome=false->kR V T ck at_ σ { σ with fb:=fQ σ.fb b.key b }
 |cancel (σ:Os) (k:ByteArray):kR V T ck at_ σ { σ with fb:=yB σ.fb k }
 |start (σ:Os) (h:Hg) (v:ByteArray) (r:Rd):dX2 h->hireE (hrG h)=0->h.legs= [startLeg v r]->r.at_=at_->(σ.fh h.key).isSome=false->(V v).isSome=true->(T r.st).getD false=true->bT1 σ (gL at_ v r.st)->
  kR V T ck at_ σ { gK σ (gL at_ v r.st) with fh:=fQ σ.fh h.key h,fb:=yB σ.fb h.key }
 |extend (σ:Os) (k:ByteArray) (h h':Hg):σ.fh k=some h->dX2 h'->hireE (hrG h')=0->h'.legs=h.legs->h'.key=h.key->kR V T ck at_ σ { σ with fh:=fQ σ.fh k h' }
 |close (σ:Os) (k:ByteArray) (h h':Hg) (g:Lg) (r:Rd):σ.fh k=some h->dX2 h'->hireE (hrG h')=0->openB h.legs=true->h.legs[h.n - 1]?=some g->h'.legs=endLegs h.legs r->h'.key=h.key->r.at_=at_->(T r.st).getD false=true->bT1 σ (eP at_ g.veh r.st)->
  kR V T ck at_ σ { gK σ (eP at_ g.veh r.st) with fh:=fQ σ.fh k h' }
 |swap (σ:Os) (k:ByteArray) (h h':Hg) (g:Lg) (r q:Rd) (v:ByteArray):σ.fh k=some h->dX2 h'->hireE (hrG h')=0->openB h.legs=true->h.legs[h.n - 1]?=some g->h'.legs=gZ h.legs r v q->h'.key=h.key->r.at_=at_->q.at_=at_->q.st=r.st->(T r.st).getD false=true->(V v).isSome=true->bT1 σ (eP at_ g.veh r.st)->bT1 σ (gL at_ v r.st)->
  kR V T ck at_ σ { gK (gK σ (eP at_ g.veh r.st)) (gL at_ v r.st) with fh:=fQ σ.fh k h' }
structure cA3 (σ:Os):Prop where
 hi:∀k h,σ.fh k=some h->dX2 h
def zN (fp:ByteArray->Option Int):Prop:=∀k n,fp k=some n->0<=n/\n<=1000000000
theorem eB6:cA3 os0:=⟨fun _ _ h=>by cases h⟩
theorem eD6:zN mY:=fun _ _ h=>by cases h
theorem eM {κ α:Type} {f:κ->Option α} {k j:κ} {x y:α} (h:fQ f k x j=some y):(j=k/\y=x)∨f j=some y:=by
 by_cases e:j=k
 ·subst e
  rw [hU] at h
  cases h
  exact .inl ⟨U,U⟩
 ·rw [dB _ _ e] at h
  exact .inr h
theorem bR9 {κ α:Type} {f:κ->Option α} {k j:κ} {y:α} (h:yB f k j=some y):j≠k/\f j=some y:=by
 by_cases e:j=k
 ·subst e
  rw [bC1] at h
  cases h
 ·rw [yC _ e] at h
  exact ⟨e,h⟩
theorem kR.ok {V:ByteArray->Option ByteArray} {T:ByteArray->Option Bool} {ck:Bk->Prop} {at_:Int} {σ τ:Os} (h:kR V T ck at_ σ τ) (hs:cA3 σ):cA3 τ:=by
 refine ⟨fun k y hy=>?_⟩
 cases h with
 |same=>exact hs.hi k y hy
 |ev x=>exact hs.hi k y hy
 |book b=>exact hs.hi k y hy
 |cancel _=>exact hs.hi k y hy
 |start h v r h1=>
  rcases eM hy with ⟨_,rfl⟩|hy
  ·exact h1
  ·exact hs.hi k y hy
 |extend k0 h h' _ h1=>
  rcases eM hy with ⟨_,rfl⟩|hy
  ·exact h1
  ·exact hs.hi k y hy
 |close k0 h h' g r _ h1=>
  rcases eM hy with ⟨_,rfl⟩|hy
  ·exact h1
  ·exact hs.hi k y hy
 |swap k0 h h' g r q v _ h1=>
  rcases eM hy with ⟨_,rfl⟩|hy
  ·exact h1
  ·exact hs.hi k y hy
theorem kR.len {V:ByteArray->Option ByteArray} {T:ByteArray->Option Bool} {ck:Bk->Prop} {at_:Int} {σ τ:Os} (h:kR V T ck at_ σ τ):τ.lg.length<=σ.lg.length+2:=by
 cases h <;> (try dsimp only [gK]) <;> (try simp only [List.length_append,List.length_cons,List.length_nil]) <;> omega
theorem fY2:bJ7 prog 9 (fun s:ByteArray=>Value.string s):=dF8 (by kernel_rfl)
def nB (x:ByteArray×Int):Value:= .agg #[.string x.1,.int .i64 x.2]
def dN3 (a b:ByteArray×Int):Bool:=a.1.toList==b.1.toList&&decide (a.2=b.2)
theorem dD1 {a b:ByteArray×Int} (h:nB a=nB b):a=b:=by
 unfold nB at h
 simp only [Value.agg.injEq,Array.mk.injEq,List.cons.injEq,Value.string.injEq,Value.int.injEq,true_and,and_true] at h
 exact Prod.ext h.1 h.2
theorem cU5 (a b:ByteArray×Int):dN3 a b=true↔a=b:=by
 unfold dN3
 rw [Bool.and_eq_true,bP0,decide_eq_true_eq]
 exact ⟨fun h=>Prod.ext h.1 h.2,fun h=>by subst h;exact ⟨rfl,rfl⟩⟩
theorem eZ9 (a b:ByteArray×Int) (w:World):(Op.equal 345 (nB a) (nB b)).run prog w= .ok (dN3 a b) w:=by
 have hS:prog.underlying 345=some (.struct (prog.fieldsOf 345)):=by kernel_rfl
 have hp:prog.stoodInHeld 345=false:=by kernel_rfl
 obtain ⟨a0,a1⟩:=a
 obtain ⟨b0,b1⟩:=b
 unfold nB dN3 Op.equal Op.maxDepth
 rw [show (10000:Nat)=9999+1 from rfl,run_equalIn_agg w 9999 345 _ _ hS hp]
 simp only [Program.fieldsOf,Tryz.underlying345]
 have u3:=Tryz.underlying3
 have u9:=Tryz.underlying9
 clear hS hp
 go_simp
 repeat' split
 all_goals simp_all
theorem eX4 (em:Bool) (a:ByteArray×Int) (w:World):(Instr.checkKey em 10000 345 (nB a)).run prog w= .ok () w:=by
 obtain ⟨a0,a1⟩:=a
 unfold nB
 rw [show (10000:Nat)=9998+1+1 from rfl]
 have u3:=Tryz.underlying3
 have u9:=Tryz.underlying9
 unfold Instr.checkKey
 simp only [Sem.run_bind,run_underlying Tryz.underlying345]
 unfold Instr.checkKey
 go_simp
theorem cL9:bJ7 prog 345 nB:=bV6 Tryz.underlying345 eZ9 cU5 dD1 eX4 (fun a=>by
 unfold nB
 rw [show (10000:Nat)=9998+1+1 from rfl]
 simp [Instr.sameBits]
 exact (Go.MapKept.bytes_beq _ _).2 U)
theorem fA0 (a b:ByteArray×Int) (w:World):(Op.equal 224 (nB a) (nB b)).run prog w= .ok (dN3 a b) w:=by
 have hS:prog.underlying 224=some (.struct (prog.fieldsOf 224)):=by kernel_rfl
 have hp:prog.stoodInHeld 224=false:=by kernel_rfl
 obtain ⟨a0,a1⟩:=a
 obtain ⟨b0,b1⟩:=b
 unfold nB dN3 Op.equal Op.maxDepth
 rw [show (10000:Nat)=9999+1 from rfl,run_equalIn_agg w 9999 224 _ _ hS hp]
 simp only [Program.fieldsOf,Tryz.underlying224]
 have u3:=Tryz.underlying3
 have u9:=Tryz.underlying9
 clear hS hp
 go_simp
 repeat' split
 all_goals simp_all
theorem eY4 (em:Bool) (a:ByteArray×Int) (w:World):(Instr.checkKey em 10000 224 (nB a)).run prog w= .ok () w:=by
 obtain ⟨a0,a1⟩:=a
 unfold nB
 rw [show (10000:Nat)=9998+1+1 from rfl]
 have u3:=Tryz.underlying3
 have u9:=Tryz.underlying9
 unfold Instr.checkKey
 simp only [Sem.run_bind,run_underlying Tryz.underlying224]
 unfold Instr.checkKey
 go_simp
theorem cK4:bJ7 prog 224 nB:=bV6 Tryz.underlying224 fA0 cU5 dD1 eY4 (fun a=>by
 unfold nB
 rw [show (10000:Nat)=9998+1+1 from rfl]
 simp [Instr.sameBits]
 exact (Go.MapKept.bytes_beq _ _).2 U)
end Go.Proofs.YtmifpfcmldflkaaGreatDoor
namespace Go.Proofs
open Go.Shelf
def Tryz.laysM171_ren:Go.Shelf.Ren:=⟨fun|171=>117|243=>158|246=>204|283=>229|284=>230|285=>231|286=>232|129=>186|317=>249|318=>250|319=>251|320=>252|337=>264|338=>265|n=>n,fun|3=>3|9=>9|2=>2|4=>4|171=>327|0=>0|53=>291|37=>329|5=>5|173=>330|212=>351|51=>289|20=>20|213=>352|46=>229|232=>369|233=>370|n=>n,fun|17=>1|18=>2|19=>3|n=>n⟩
theorem Tryz.laysM171:Go.Proofs.LaysM.n171 prog Tryz.laysM171_ren:={
 mixed:=by kernel_rfl
 f129:=func186.trans (congrArg some (by kernel_rfl))
 f171:=func117.trans (congrArg some (by kernel_rfl))
 f243:=func158.trans (congrArg some (by kernel_rfl))
 f246:=func204.trans (congrArg some (by kernel_rfl))
 f283:=func229.trans (congrArg some (by kernel_rfl))
 f284:=func230.trans (congrArg some (by kernel_rfl))
 f285:=func231.trans (congrArg some (by kernel_rfl))
 f286:=func232.trans (congrArg some (by kernel_rfl))
 f317:=func249.trans (congrArg some (by kernel_rfl))
 f318:=func250.trans (congrArg some (by kernel_rfl))
 f319:=func251.trans (congrArg some (by kernel_rfl))
 f320:=func252.trans (congrArg some (by kernel_rfl))
 f337:=func264.trans (congrArg some (by kernel_rfl))
 f338:=func265.trans (congrArg some (by kernel_rfl))
 t0:=Tryz.underlying0
 a0:=Tryz.isAgg0
 z0:=Tryz.sizeOf0
 v0:=Tryz.zeroValue0
 t2:=Tryz.underlying2
 a2:=Tryz.isAgg2
 z2:=Tryz.sizeOf2
 v2:=Tryz.zeroValue2
 t3:=Tryz.underlying3
 a3:=Tryz.isAgg3
 z3:=Tryz.sizeOf3
 v3:=Tryz.zeroValue3
 t4:=Tryz.underlying4
 a4:=Tryz.isAgg4
 z4:=Tryz.sizeOf4
 v4:=Tryz.zeroValue4
 t5:=Tryz.underlying5
 a5:=Tryz.isAgg5
 z5:=Tryz.sizeOf5
 v5:=Tryz.zeroValue5
 t9:=Tryz.underlying9
 a9:=Tryz.isAgg9
 z9:=Tryz.sizeOf9
 v9:=Tryz.zeroValue9
 t20:=Tryz.underlying20
 a20:=Tryz.isAgg20
 z20:=Tryz.sizeOf20
 v20:=Tryz.zeroValue20
 t37:=Tryz.underlying329
 a37:=Tryz.isAgg329
 z37:=Tryz.sizeOf329
 v37:=Tryz.zeroValue329
 t46:=Tryz.underlying229
 a46:=Tryz.isAgg229
 z46:=Tryz.sizeOf229
 v46:=Tryz.zeroValue229
 t51:=Tryz.underlying289
 a51:=Tryz.isAgg289
 z51:=Tryz.sizeOf289
 v51:=Tryz.zeroValue289
 t53:=Tryz.underlying291
 a53:=Tryz.isAgg291
 z53:=Tryz.sizeOf291
 v53:=Tryz.zeroValue291
 t171:=Tryz.underlying327
 a171:=Tryz.isAgg327
 z171:=Tryz.sizeOf327
 v171:=Tryz.zeroValue327
 t173:=Tryz.underlying330
 a173:=Tryz.isAgg330
 z173:=Tryz.sizeOf330
 v173:=Tryz.zeroValue330
 t212:=Tryz.underlying351
 a212:=Tryz.isAgg351
 z212:=Tryz.sizeOf351
 v212:=Tryz.zeroValue351
 t213:=Tryz.underlying352
 a213:=Tryz.isAgg352
 z213:=Tryz.sizeOf352
 t232:=Tryz.underlying369
 a232:=Tryz.isAgg369
 z232:=Tryz.sizeOf369
 v232:=Tryz.zeroValue369
 t233:=Tryz.underlying370
 a233:=Tryz.isAgg370
 z233:=Tryz.sizeOf370
 v233:=Tryz.zeroValue370
 g17:=by kernel_rfl
 g18:=by kernel_rfl
 g19:=by kernel_rfl
 i0:=by kernel_rfl
 i2:=by kernel_rfl
 i3:=by kernel_rfl
 i4:=by kernel_rfl
 i5:=by kernel_rfl
 i9:=by kernel_rfl
 i20:=by kernel_rfl
 i37:=by kernel_rfl
 i46:=by kernel_rfl
 i51:=by kernel_rfl
 i53:=by kernel_rfl
 i171:=by kernel_rfl
 i173:=by kernel_rfl
 i212:=by kernel_rfl
 i232:=by kernel_rfl
 i233:=by kernel_rfl
 m17:=by kernel_rfl
 m18:=by kernel_rfl
 m19:=by kernel_rfl }
def Tryz.laysC172_ren:Go.Shelf.Ren:=⟨fun|172=>242|244=>258|245=>259|247=>272|279=>273|280=>274|281=>275|282=>276|287=>285|316=>286|171=>117|205=>287|321=>290|322=>291|243=>158|246=>204|283=>229|284=>230|285=>231|286=>232|129=>186|317=>249|318=>250|319=>251|320=>252|337=>264|338=>265|n=>n,fun|9=>9|3=>3|75=>341|76=>342|4=>4|5=>5|167=>363|37=>329|0=>0|85=>364|2=>2|168=>366|53=>291|175=>378|46=>229|210=>382|127=>385|145=>388|143=>386|21=>21|171=>327|173=>330|212=>351|51=>289|20=>20|213=>352|232=>369|233=>370|80=>391|n=>n,fun|15=>6|16=>7|17=>1|18=>2|19=>3|n=>n⟩
theorem Tryz.laysC172:Go.Proofs.LaysC.n172 prog Tryz.laysC172_ren:={
 mixed:=by kernel_rfl
 f129:=func186.trans (congrArg some (by kernel_rfl))
 f171:=func117.trans (congrArg some (by kernel_rfl))
 f172:=func242.trans (congrArg some (by kernel_rfl))
 f205:=func287.trans (congrArg some (by kernel_rfl))
 f243:=func158.trans (congrArg some (by kernel_rfl))
 f244:=func258.trans (congrArg some (by kernel_rfl))
 f245:=func259.trans (congrArg some (by kernel_rfl))
 f246:=func204.trans (congrArg some (by kernel_rfl))
 f247:=func272.trans (congrArg some (by kernel_rfl))
 f279:=func273.trans (congrArg some (by kernel_rfl))
 f280:=func274.trans (congrArg some (by kernel_rfl))
 f281:=func275.trans (congrArg some (by kernel_rfl))
 f282:=func276.trans (congrArg some (by kernel_rfl))
 f283:=func229.trans (congrArg some (by kernel_rfl))
 f284:=func230.trans (congrArg some (by kernel_rfl))
 f285:=func231.trans (congrArg some (by kernel_rfl))
 f286:=func232.trans (congrArg some (by kernel_rfl))
 f287:=func285.trans (congrArg some (by kernel_rfl))
 f316:=func286.trans (congrArg some (by kernel_rfl))
 f317:=func249.trans (congrArg some (by kernel_rfl))
 f318:=func250.trans (congrArg some (by kernel_rfl))
 f319:=func251.trans (congrArg some (by kernel_rfl))
 f320:=func252.trans (congrArg some (by kernel_rfl))
 f321:=func290.trans (congrArg some (by kernel_rfl))
 f322:=func291.trans (congrArg some (by kernel_rfl))
 f337:=func264.trans (congrArg some (by kernel_rfl))
 f338:=func265.trans (congrArg some (by kernel_rfl))
 t0:=Tryz.underlying0
 a0:=Tryz.isAgg0
 z0:=Tryz.sizeOf0
 v0:=Tryz.zeroValue0
 t2:=Tryz.underlying2
 a2:=Tryz.isAgg2
 z2:=Tryz.sizeOf2
 v2:=Tryz.zeroValue2
 t3:=Tryz.underlying3
 a3:=Tryz.isAgg3
 z3:=Tryz.sizeOf3
 v3:=Tryz.zeroValue3
 t4:=Tryz.underlying4
 a4:=Tryz.isAgg4
 z4:=Tryz.sizeOf4
 v4:=Tryz.zeroValue4
 t5:=Tryz.underlying5
 a5:=Tryz.isAgg5
 z5:=Tryz.sizeOf5
 v5:=Tryz.zeroValue5
 t9:=Tryz.underlying9
 a9:=Tryz.isAgg9
 z9:=Tryz.sizeOf9
 v9:=Tryz.zeroValue9
 t20:=Tryz.underlying20
 a20:=Tryz.isAgg20
 z20:=Tryz.sizeOf20
 v20:=Tryz.zeroValue20
 t21:=Tryz.underlying21
 a21:=Tryz.isAgg21
 z21:=Tryz.sizeOf21
 v21:=Tryz.zeroValue21
 t37:=Tryz.underlying329
 a37:=Tryz.isAgg329
 z37:=Tryz.sizeOf329
 v37:=Tryz.zeroValue329
 t46:=Tryz.underlying229
 a46:=Tryz.isAgg229
 z46:=Tryz.sizeOf229
 v46:=Tryz.zeroValue229
 t51:=Tryz.underlying289
 a51:=Tryz.isAgg289
 z51:=Tryz.sizeOf289
 v51:=Tryz.zeroValue289
 t53:=Tryz.underlying291
 a53:=Tryz.isAgg291
 z53:=Tryz.sizeOf291
 v53:=Tryz.zeroValue291
 t75:=Tryz.underlying341
 a75:=Tryz.isAgg341
 z75:=Tryz.sizeOf341
 v75:=Tryz.zeroValue341
 t76:=Tryz.underlying342
 a76:=Tryz.isAgg342
 z76:=Tryz.sizeOf342
 v76:=Tryz.zeroValue342
 t85:=Tryz.underlying364
 a85:=Tryz.isAgg364
 z85:=Tryz.sizeOf364
 v85:=Tryz.zeroValue364
 t127:=Tryz.underlying385
 a127:=Tryz.isAgg385
 z127:=Tryz.sizeOf385
 v127:=Tryz.zeroValue385
 t143:=Tryz.underlying386
 a143:=Tryz.isAgg386
 z143:=Tryz.sizeOf386
 v143:=Tryz.zeroValue386
 t145:=Tryz.underlying388
 a145:=Tryz.isAgg388
 z145:=Tryz.sizeOf388
 v145:=Tryz.zeroValue388
 t167:=Tryz.underlying363
 a167:=Tryz.isAgg363
 z167:=Tryz.sizeOf363
 v167:=Tryz.zeroValue363
 t168:=Tryz.underlying366
 a168:=Tryz.isAgg366
 z168:=Tryz.sizeOf366
 v168:=Tryz.zeroValue366
 t171:=Tryz.underlying327
 a171:=Tryz.isAgg327
 z171:=Tryz.sizeOf327
 v171:=Tryz.zeroValue327
 t173:=Tryz.underlying330
 a173:=Tryz.isAgg330
 z173:=Tryz.sizeOf330
 v173:=Tryz.zeroValue330
 t175:=Tryz.underlying378
 a175:=Tryz.isAgg378
 z175:=Tryz.sizeOf378
 v175:=Tryz.zeroValue378
 t210:=Tryz.underlying382
 a210:=Tryz.isAgg382
 z210:=Tryz.sizeOf382
 v210:=Tryz.zeroValue382
 t212:=Tryz.underlying351
 a212:=Tryz.isAgg351
 z212:=Tryz.sizeOf351
 v212:=Tryz.zeroValue351
 t213:=Tryz.underlying352
 a213:=Tryz.isAgg352
 z213:=Tryz.sizeOf352
 t232:=Tryz.underlying369
 a232:=Tryz.isAgg369
 z232:=Tryz.sizeOf369
 v232:=Tryz.zeroValue369
 t233:=Tryz.underlying370
 a233:=Tryz.isAgg370
 z233:=Tryz.sizeOf370
 v233:=Tryz.zeroValue370
 g15:=by kernel_rfl
 g16:=by kernel_rfl
 g17:=by kernel_rfl
 g18:=by kernel_rfl
 g19:=by kernel_rfl
 t80:=Tryz.underlying391
 a80:=Tryz.isAgg391
 z80:=Tryz.sizeOf391
 v80:=Tryz.zeroValue391
 i0:=by kernel_rfl
 i2:=by kernel_rfl
 i3:=by kernel_rfl
 i4:=by kernel_rfl
 i5:=by kernel_rfl
 i9:=by kernel_rfl
 i20:=by kernel_rfl
 i21:=by kernel_rfl
 i37:=by kernel_rfl
 i46:=by kernel_rfl
 i51:=by kernel_rfl
 i53:=by kernel_rfl
 i75:=by kernel_rfl
 i76:=by kernel_rfl
 i80:=by kernel_rfl
 i85:=by kernel_rfl
 i127:=by kernel_rfl
 i143:=by kernel_rfl
 i145:=by kernel_rfl
 i167:=by kernel_rfl
 i168:=by kernel_rfl
 i171:=by kernel_rfl
 i173:=by kernel_rfl
 i175:=by kernel_rfl
 i210:=by kernel_rfl
 i212:=by kernel_rfl
 i232:=by kernel_rfl
 i233:=by kernel_rfl
 m15:=by kernel_rfl
 m16:=by kernel_rfl
 m17:=by kernel_rfl
 m18:=by kernel_rfl
 m19:=by kernel_rfl
 c0:=by kernel_rfl
 c2:=by kernel_rfl
 c3:=by kernel_rfl
 c4:=by kernel_rfl
 c5:=by kernel_rfl
 c9:=by kernel_rfl
 c20:=by kernel_rfl
 c21:=by kernel_rfl
 c37:=by kernel_rfl
 c46:=by kernel_rfl
 c51:=by kernel_rfl
 c53:=by kernel_rfl
 c75:=by kernel_rfl
 c76:=by kernel_rfl
 c80:=by kernel_rfl
 c85:=by kernel_rfl
 c127:=by kernel_rfl
 c143:=by kernel_rfl
 c145:=by kernel_rfl
 c167:=by kernel_rfl
 c168:=by kernel_rfl
 c171:=by kernel_rfl
 c173:=by kernel_rfl
 c175:=by kernel_rfl
 c210:=by kernel_rfl
 c212:=by kernel_rfl
 c213:=by kernel_rfl
 c232:=by kernel_rfl
 c233:=by kernel_rfl }
def Tryz.lays101_ren:Go.Shelf.Ren:=⟨fun|101=>243|208=>260|206=>277|n=>n,fun|9=>9|4=>4|3=>3|n=>n,fun|n=>n⟩
theorem Tryz.lays101:Go.Proofs.Lays.n101 prog Tryz.lays101_ren:={
 mixed:=by kernel_rfl
 f101:=func243.trans (congrArg some (by kernel_rfl))
 f206:=func277.trans (congrArg some (by kernel_rfl))
 f208:=func260.trans (congrArg some (by kernel_rfl))
 t3:=Tryz.underlying3
 a3:=Tryz.isAgg3
 z3:=Tryz.sizeOf3
 v3:=Tryz.zeroValue3
 t4:=Tryz.underlying4
 a4:=Tryz.isAgg4
 z4:=Tryz.sizeOf4
 v4:=Tryz.zeroValue4
 t9:=Tryz.underlying9
 a9:=Tryz.isAgg9
 z9:=Tryz.sizeOf9
 v9:=Tryz.zeroValue9 }
def Tryz.lays146_ren:Go.Shelf.Ren:=⟨fun|146=>241|221=>257|268=>269|138=>270|143=>271|195=>282|197=>254|218=>283|219=>284|260=>266|217=>288|225=>281|224=>280|267=>289|266=>292|314=>293|n=>n,fun|9=>9|31=>101|3=>3|4=>4|0=>0|105=>354|21=>21|5=>5|46=>229|119=>371|139=>374|138=>373|146=>389|51=>289|n=>n,fun|1=>0|3=>4|4=>5|n=>n⟩
theorem Tryz.lays146:Go.Proofs.Lays.n146 prog Tryz.lays146_ren:={
 mixed:=by kernel_rfl
 f138:=func270.trans (congrArg some (by kernel_rfl))
 f143:=func271.trans (congrArg some (by kernel_rfl))
 f146:=func241.trans (congrArg some (by kernel_rfl))
 f195:=func282.trans (congrArg some (by kernel_rfl))
 f197:=func254.trans (congrArg some (by kernel_rfl))
 f217:=func288.trans (congrArg some (by kernel_rfl))
 f218:=func283.trans (congrArg some (by kernel_rfl))
 f219:=func284.trans (congrArg some (by kernel_rfl))
 f221:=func257.trans (congrArg some (by kernel_rfl))
 f224:=func280.trans (congrArg some (by kernel_rfl))
 f225:=func281.trans (congrArg some (by kernel_rfl))
 f260:=func266.trans (congrArg some (by kernel_rfl))
 f266:=func292.trans (congrArg some (by kernel_rfl))
 f267:=func289.trans (congrArg some (by kernel_rfl))
 f268:=func269.trans (congrArg some (by kernel_rfl))
 f314:=func293.trans (congrArg some (by kernel_rfl))
 t0:=Tryz.underlying0
 a0:=Tryz.isAgg0
 z0:=Tryz.sizeOf0
 v0:=Tryz.zeroValue0
 t3:=Tryz.underlying3
 a3:=Tryz.isAgg3
 z3:=Tryz.sizeOf3
 v3:=Tryz.zeroValue3
 t4:=Tryz.underlying4
 a4:=Tryz.isAgg4
 z4:=Tryz.sizeOf4
 v4:=Tryz.zeroValue4
 t5:=Tryz.underlying5
 a5:=Tryz.isAgg5
 z5:=Tryz.sizeOf5
 v5:=Tryz.zeroValue5
 t9:=Tryz.underlying9
 a9:=Tryz.isAgg9
 z9:=Tryz.sizeOf9
 v9:=Tryz.zeroValue9
 t21:=Tryz.underlying21
 a21:=Tryz.isAgg21
 z21:=Tryz.sizeOf21
 v21:=Tryz.zeroValue21
 t31:=Tryz.underlying101
 a31:=Tryz.isAgg101
 z31:=Tryz.sizeOf101
 v31:=Tryz.zeroValue101
 t46:=Tryz.underlying229
 a46:=Tryz.isAgg229
 z46:=Tryz.sizeOf229
 v46:=Tryz.zeroValue229
 t51:=Tryz.underlying289
 a51:=Tryz.isAgg289
 z51:=Tryz.sizeOf289
 v51:=Tryz.zeroValue289
 t105:=Tryz.underlying354
 a105:=Tryz.isAgg354
 z105:=Tryz.sizeOf354
 v105:=Tryz.zeroValue354
 t119:=Tryz.underlying371
 a119:=Tryz.isAgg371
 z119:=Tryz.sizeOf371
 t138:=Tryz.underlying373
 a138:=Tryz.isAgg373
 z138:=Tryz.sizeOf373
 v138:=Tryz.zeroValue373
 t139:=Tryz.underlying374
 a139:=Tryz.isAgg374
 z139:=Tryz.sizeOf374
 v139:=Tryz.zeroValue374
 t146:=Tryz.underlying389
 a146:=Tryz.isAgg389
 z146:=Tryz.sizeOf389
 v146:=Tryz.zeroValue389
 g1:=by kernel_rfl
 g3:=by kernel_rfl
 g4:=by kernel_rfl }
end Go.Proofs
namespace Go.Proofs.YtmifpfcmldflkaaGreatDoor
open Tryz
open Go.RowKit
def bG4 (s:ByteArray):Bool:=match Lib.atoiAll s.data.toList with
 | .ok v=>(Lib.itoa v==s.data.toList)&&decide ((Lib.trimPrefix s.data.toList [45]).length<=9)
 | .range=>false
 | _=>false
def cZ6 (s:ByteArray):Int:=match Lib.atoiAll s.data.toList with
 | .ok v=>v
 | .range=>0
 | _=>0
def eE5 (c:UInt8):Bool:=decide (48<=c.toNat)&&decide (c.toNat<=57)
theorem dS6 {n:Nat} (h:n < 10):eE5 (UInt8.ofNat (48+n))=true:=by
 have h2:(UInt8.ofNat (48+n)).toNat=48+n:=by
  rw [UInt8.toNat_ofNat']
  omega
 unfold eE5
 rw [h2,decide_eq_true (by omega),decide_eq_true (by omega)];rfl
theorem dC1:∀(n:Nat),(Lib.decDigits n).all eE5=true/\Lib.decDigits n≠ []:=by
 intro n
 induction n using Nat.strongRecOn with
 |ind n ih=>
  rw [Lib.decDigits]
  by_cases h:n < 10
  ·rw [dif_pos h]
   exact ⟨by rw [List.all_cons,dS6 h];rfl,by simp⟩
  ·rw [dif_neg h]
   obtain ⟨h1,h2⟩:=ih (n / 10) (by omega)
   refine ⟨?_,by simp⟩
   rw [List.all_append,h1,List.all_cons,dS6 (Nat.mod_lt _ (by decide))];rfl
def eN1:Nat:=1
def eN5:Nat:=0
def eP1:Nat:=6
def eO1:Nat:=7
def qL (w:World):Prop:=
 (∃T f,w.heap[eN1]?=some (.cells (Lib.pow10Tab.map fun z=>Value.int .u64 z).toArray T f))/\
 (∃cs T f m,w.heap[eN5]?=some (.cells cs T f)/\cs[0]?=some (.int .i64 m))/\
 (∃T f tp p,w.heap[eP1]?=some (.cells #[.iface tp p] T f))/\
 (∃T f tp p,w.heap[eO1]?=some (.cells #[.iface tp p] T f))
def isG (k:Nat):Prop:=k=eN1∨k=eN5∨k=eP1∨k=eO1
theorem qL.lt {w:World} (h:qL w) {k:Nat} (hk:isG k):k < w.heap.size:=by
 obtain ⟨⟨_,_,h1⟩,⟨_,_,_,_,h2,_⟩,⟨_,_,_,_,h3⟩,⟨_,_,_,_,h4⟩⟩:=h
 rcases hk with rfl|rfl|rfl|rfl
 ·exact (Array.getElem?_eq_some_iff.1 h1).1
 ·exact (Array.getElem?_eq_some_iff.1 h2).1
 ·exact (Array.getElem?_eq_some_iff.1 h3).1
 ·exact (Array.getElem?_eq_some_iff.1 h4).1
theorem qL.same {w w':World} (h:qL w) (hk:∀k,isG k->w'.heap[k]?=w.heap[k]?):qL w':=by
 obtain ⟨⟨T1,f1,h1⟩,⟨cs,T2,f2,m,h2,h2b⟩,⟨T3,f3,t3,p3,h3⟩,⟨T4,f4,t4,p4,h4⟩⟩:=h
 exact ⟨⟨T1,f1,(hk _ (.inl U)).trans h1⟩,⟨cs,T2,f2,m,(hk _ (.inr (.inl U))).trans h2,h2b⟩,⟨T3,f3,t3,p3,(hk _ (.inr (.inr (.inl U)))).trans h3⟩,⟨T4,f4,t4,p4,(hk _ (.inr (.inr (.inr U)))).trans h4⟩⟩
def TxtO (N:Nat) (row:Option Nat) (w:World):Prop:=qL w/\∀k,isG k->k < N/\row≠some k
theorem qL.old {w:World} (h:qL w):TxtO w.heap.size none w:=⟨h,fun _ hk=>⟨h.lt hk,fun e=>by cases e⟩⟩
theorem TxtO.lasts {N : Nat} {row : Option Nat} {Tt : List TypeId} : Lasts2 N row Tt (TxtO N row) :=
  ⟨fun _ _ hg h => ⟨h.1.same fun k hk => hg.block k (h.1.lt hk) (fun e => by cases e), h.2⟩,
   fun w w' r T c _ _ h3 hg h => ⟨h.1.same fun k hk => hg.block k (h.1.lt hk) (fun e => by
      have e2 : k = r := by injection e
      subst e2
      have := h.2 k hk
      rcases h3 with h3 | h3
      · omega
      · exact this.2 h3), h.2⟩⟩
theorem bY0 {w:World}:w.grownBy w none:=⟨rfl,rfl,rfl,Nat.le_refl _,fun _ _ _=>rfl⟩
theorem dU3 {a w:World} (h:a.grownBy w none) (os:Array Obj):a.grownBy (Go.Sort.grow w os) none:=
 ⟨h.os,h.tape,h.output,Nat.le_trans h.size (by simp [Go.Sort.grow]),fun k hk hn=>by
  have hk2:=Nat.lt_of_lt_of_le hk h.size
  show (w.heap++os)[k]?=_
  rw [Array.getElem?_append_left hk2]
  exact h.block k hk hn⟩
theorem qL.pow {w:World} (h:qL w):Lib.TabIs prog w "internal/strconv.uint64pow10" .u64 Lib.pow10Tab:=by
 obtain ⟨⟨T1,f1,h1⟩,_⟩:=h
 have hn:prog.globalNamed "internal/strconv.uint64pow10"=some eN1:=by kernel_rfl
 unfold Lib.TabIs World.var?
 rw [hn]
 show (match w.heap[eN1]? with|some (.cells cs _ _)=>some cs|_=>none)=_
 rw [h1]
theorem qL.max {w:World} (h:qL w):∃m,w.cell? ⟨eN5,0,none⟩=some (.int .i64 m):=by
 obtain ⟨_,⟨cs,T2,f2,m,h2,h2b⟩,_⟩:=h
 exact ⟨m,by simp [World.cell?,h2,h2b]⟩
theorem qL.syn {w:World} (h:qL w):∃tp p,w.var? prog "strconv.ErrSyntax"=some #[.iface tp p]:=by
 obtain ⟨_,_,⟨T3,f3,t3,p3,h3⟩,_⟩:=h
 have hn:prog.globalNamed "strconv.ErrSyntax"=some eP1:=by kernel_rfl
 refine ⟨t3,p3,?_⟩
 unfold World.var?
 rw [hn]
 show (match w.heap[eP1]? with|some (.cells cs _ _)=>some cs|_=>none)=_
 rw [h3]
theorem qL.ran {w:World} (h:qL w):∃tp p,w.var? prog "strconv.ErrRange"=some #[.iface tp p]:=by
 obtain ⟨_,_,_,⟨T3,f3,t3,p3,h3⟩⟩:=h
 have hn:prog.globalNamed "strconv.ErrRange"=some eO1:=by kernel_rfl
 refine ⟨t3,p3,?_⟩
 unfold World.var?
 rw [hn]
 show (match w.heap[eO1]? with|some (.cells cs _ _)=>some cs|_=>none)=_
 rw [h3]
def bT6 (n:Int):ByteArray:=⟨(Lib.itoa n).toArray⟩
theorem bP9 (n:Int) (w:World) (ht:qL w) (h0: -9223372036854775808<=n) (h1:n<=9223372036854775807):
 Calls prog 117 #[.int .i64 n] w (fun e w'=>e=.returned (.string (bT6 n))/\w.grownBy w' none):=
 (Any.strconv_Itoa Tryz.laysM171 n h0 h1 w ht.pow).mono fun _ _ ⟨he,k,os,hw⟩=>⟨he,by
  subst hw
  exact dU3 (grow_drewN bY0 k) os⟩
theorem dZ9 (s p:ByteArray) (w:World):
 Calls prog 243 #[.string s,.string p] w (fun e w'=>e=.returned (.string ⟨(Lib.trimPrefix s.data.toList p.data.toList).toArray⟩)/\w.grownBy w' none):=
 (Any.strings_TrimPrefix Tryz.lays101 s p w).mono fun _ _ ⟨he,hw⟩=>⟨he,hw ▸ bY0⟩
def bE3 (s sep:ByteArray):List ByteArray:=Lib.splitB sep 0 (Lib.countB s sep) s
theorem dB6 (s:ByteArray) (w:World) (ht:qL w) (hs:s.size<=1000000000):
 Calls prog 242 #[.string s] w (fun e w'=>∃(v:Int) (E:Value),e=.returned (.tuple #[.int .i64 v,E])/\((∃u,Lib.atoiAll s.data.toList= .ok u/\v=u/\E= .nilIface)∨((∀u,Lib.atoiAll s.data.toList≠ .ok u)/\∃T p,E= .iface T (.pointer (some p))))/\w.grownBy w' none):=by
 rcases ha:Lib.atoiAll s.data.toList with u|_|_
 ·refine (Any.strconv_Atoi_ok Tryz.laysC172 s (by omega) u ha w).mono fun _ w' ⟨he,hw⟩=>⟨u,.nilIface,he,.inl ⟨u,U,U,U⟩,?_⟩
  rcases hw with rfl|⟨t,rfl⟩
  ·exact bY0
  ·exact ⟨U,U,U,by rw [Lib.bytesWorld_size];omega,fun k hk _=>Lib.bytesWorld_at_old _ _ _ k hk⟩
 ·obtain ⟨tp,p,hv⟩:=ht.syn
  exact (Any.strconv_Atoi_syntax_var Tryz.laysC172 s (by omega) ha tp p w hv).mono fun _ _ ⟨N,he,_,_,hb⟩=>⟨0,_,he,.inr ⟨(fun u h=>by cases h),_,_,U⟩,wI hb⟩
 ·obtain ⟨tp,p,hv⟩:=ht.ran
  exact (Any.strconv_Atoi_range_var Tryz.laysC172 s (by omega) ha tp p w hv).mono fun _ _ ⟨N,he,_,_,hb⟩=>⟨_,_,he,.inr ⟨(fun u h=>by cases h),_,_,U⟩,wI hb⟩
section
variable {P:Program} {nn:Nat} {S:List (Nat×Value)} {Z:World->Prop} {d:Nat} {ty:TypeId} {pos:String} {aft:Array Edge}
def bW5 (P:Program) (t:TypeId):Option IntKind:=
 match P.underlying t with
 |some (.int k)=>some k
 |_=>none
theorem xE {t:TypeId} {k:IntKind} (h:bW5 P t=some k):P.underlying t=some (.int k):=by
 unfold bW5 at h
 cases hu:P.underlying t with
 |none=>simp [hu] at h
 |some dd=>cases dd <;> simp [hu] at h <;> simp [h]
theorem cC0 {s t:TypeId} {k:IntKind} {x:Operand} {a:Nat} (hs:bW5 P s=some .i64) (ht:bW5 P t=some .u64) (hx:rd S x=some (.int k (a:Int))) (ha:a<=9223372036854775807):OV P nn S Z ⟨some d,.convert s t x,ty,pos,aft,none⟩ (.int .u64 (a:Int)):=fun b w hb hm=>by
 have h1:IntKind.u64.wrap (a:Int)=(a:Int):=by rw [IntKind.wrap_u64];omega
 have hk:P.intKind t= .u64:=by simp [Program.intKind,xE ht]
 have h2:=run_convert_int (P:=P) w s t k (a:Int) (by rw [xE hs];rfl) (by rw [hk];exact xE ht)
 rw [hk,h1] at h2
 simp [execOp,hb.eval hx,h2]
theorem bB6 {s t:TypeId} {k:IntKind} {x:Operand} {a:Nat} (hs:(bW5 P s).isSome=true) (ht:bW5 P t=some .i64) (hx:rd S x=some (.int k (a:Int))) (ha:a<=9223372036854775807):OV P nn S Z ⟨some d,.convert s t x,ty,pos,aft,none⟩ (.int .i64 (a:Int)):=fun b w hb hm=>by
 have h1:IntKind.i64.wrap (a:Int)=(a:Int):=IntWalk.i64_in _ (by omega)
 have hk:P.intKind t= .i64:=by simp [Program.intKind,xE ht]
 obtain ⟨k',hk'⟩:=Option.isSome_iff_exists.1 hs
 have h2:=run_convert_int (P:=P) w s t k (a:Int) (by rw [xE hk'];rfl) (by rw [hk];exact xE ht)
 rw [hk,h1] at h2
 simp [execOp,hb.eval hx,h2]
theorem bF0 {t t':TypeId} {x y:Operand} {a:Nat} (hx:rd S x=some (.int .u64 (a:Int))) (hy:rd S y=some (.int .u64 1)):OV P nn S Z ⟨some d,.binOp .shr t x y t',ty,pos,aft,none⟩ (.int .u64 ((a / 2:Nat):Int)):=
 ov_bin hx hy (fun w=>by simp [go_sem,IntKind.bits])
end
def pK (s:ByteArray) (j:Int):Int:=if h:0<=j/\j < s.size then ((s[j.toNat]'(by omega)).toNat:Int) else 0
theorem dD3 (s:ByteArray) (j:Int):0<=pK s j/\pK s j<=255:=by
 unfold pK
 split
 ·have:=(s[j.toNat]'(by omega)).toNat_lt
  omega
 ·omega
section
variable {P:Program} {nn:Nat} {S:List (Nat×Value)} {Z:World->Prop} {d:Nat} {ty:TypeId} {pos:String} {aft:Array Edge}
theorem bI4 {t:TypeId} {x y:Operand} {s:ByteArray} {j:Int} (ht:P.underlying t=some .string) (hx:rd S x=some (.string s)) (hy:rd S y=some (.int .i64 j)) (h0:0<=j) (h1:j < s.size):
 OV P nn S Z ⟨some d,.index t x y,ty,pos,aft,none⟩ (.int .u8 (pK s j)):=fun a w ha hm=>by
 have h:=run_index_string (P:=P) (w:=w) t s .i64 j ht
 rw [dif_pos ⟨h0,h1⟩] at h
 simp [execOp,ha.eval hx,ha.eval hy,h,pK,h0,h1]
end
theorem cX0 {a:Nat} {l:List Nat} (h:yV (a::l)=true):a∉l/\yV l=true:=by
 simp only [yV,Bool.and_eq_true] at h
 refine ⟨fun hm=>?_,h.2⟩
 have:=List.all_eq_true.1 h.1 a hm
 simp at this
theorem gV.toOwn {c:Cx} {K:World->Prop} {L:List (Nat×TypeId×List Value)} {O:List Own} {X:List (World->Prop)} {w:World} (h:gV c K L O X w) (i:Nat) (ls:List Nat) {g:Nat} {T:TypeId} {cs:List Value} (hi:L[i]?=some (g,T,cs)) (hls:yV (i::ls)=true) {n sz:Nat} (hcs:cs.length=n *sz) (hn:n<=maxLen):
 gV c K (vU L ls) (⟨.slice (some ⟨g,0,none⟩) n n,T,sz,n,cs⟩::O) X w:=by
 obtain ⟨hni,hl2⟩:=cX0 hls
 have hp:=h.pickL ls hl2
 have uR:=h.rowOf i hi hcs hn
 have hib:(⟨.slice (some ⟨g,0,none⟩) n n,T,sz,n,cs⟩:Own).v.ownBlock=some g:=rfl
 refine ⟨h.g,h.k,hp.b,hp.nd,fun r hr=>?_,fun r hr x hx=>?_,?_,h.x,h.kk,h.l,h.rs⟩
 ·rcases List.mem_cons.1 hr with rfl|hr
  ·exact uR
  ·exact h.o r hr
 ·rcases List.mem_cons.1 hr with rfl|hr
  ·obtain ⟨j,hj,hjx⟩:=pI hx
   intro e
   have hg:g=x.1:=by injection e
   have hij:i≠j:=fun e=>hni (e ▸ hj)
   obtain ⟨hi1,vN⟩:=List.getElem?_eq_some_iff.1 hi
   obtain ⟨hj1,hj2⟩:=List.getElem?_eq_some_iff.1 hjx
   rcases Nat.lt_or_gt_of_ne hij with hlt|hlt
   ·have:=List.pairwise_iff_getElem.1 h.nd i j hi1 hj1 hlt
    rw [vN,hj2] at this;exact this hg
   ·have:=List.pairwise_iff_getElem.1 h.nd j i hj1 hi1 hlt
    rw [vN,hj2] at this;exact this hg.symm
  ·exact hp.od r hr x hx
 ·refine List.Pairwise.cons (fun s hs b hb hsb=>?_) h.oo
  have hgb:g=b:=by injection hb
  subst hgb
  exact h.od s hs _ (fX3 hi) hsb
section
variable {P:Program} {c:Cx} {eZ:Array Oper} {Q:Exit->Act->World->Prop} {S:List (Nat×Value)} {K:World->Prop} {L:List (Nat×TypeId×List Value)} {O:List Own} {X:List (World->Prop)}
theorem dT7 {code:Code} (i:Nat) (ls:List Nat) {g:Nat} {T:TypeId} {cs:List Value} {n sz:Nat} (hi:L[i]?=some (g,T,cs)) (hls:yV (i::ls)=true) (hcs:cs.length=n *sz) (hn:n<=maxLen) (h:Gw P c Q code S K (vU L ls) (⟨.slice (some ⟨g,0,none⟩) n n,T,sz,n,cs⟩::O) X):Gw P c Q code S K L O X:=fun a w ha hm=>h a w ha (hm.toOwn i ls hi hls hcs hn)
end
section
variable {P:Program} {c:Cx} {eZ:Array Oper} {Q:Exit->Act->World->Prop} {rest:List Oper} {S:List (Nat×Value)} {K:World->Prop} {L:List (Nat×TypeId×List Value)} {O:List Own} {X:List (World->Prop)}
variable {d:Nat} {ty:TypeId} {pos:String} {aft:Array Edge}
theorem bX4 {f:FuncId} {x:Operand} {ags:List Operand} {ats:Array TypeId} {vs fs cs:List Value} {v:Value} {r:Own} {xs':List Value} (i:Nat) (hO:O[i]?=some r) (hT:c.Tt.contains r.e=false) (hx:rd S x=some (.func (.func f) fs.toArray cs.toArray)) (hf:bZ P f=true) (ha:qI S ags=some vs) (hd:Nat.ble (d+1) c.n=true)
 (hC:∀w,gV c K L O X w->Calls P f (fs++vs++cs).toArray w (fun e w'=>e=.returned v/\w'.ownsRow c.w0.heap.size r.e r.sz r.v r.n xs'/\w.grownBy w' r.v.ownBlock)) (h:WL P c eZ Q rest ((d,v)::S) K L (wN ⟨r.v,r.e,r.sz,r.n,xs'⟩ O i) X):
 WL P c eZ Q (⟨some d,.call ⟨.value x,ags.toArray,ats⟩,ty,pos,aft,none⟩::rest) S K L O X:=
 gD (γ:=Unit) (val:=fun _=>v) (φ:=fun _=>True) (K':=fun _=>K) (L':=fun _=>L) (O':=fun _=>wN ⟨r.v,r.e,r.sz,r.n,xs'⟩ O i) (X':=fun _=>X) hx hf ha hd (fun w hm=>(hC w hm).mono fun _ _ ⟨he,ho,hg⟩=>⟨(),he,trivial,hm.append hO hT ho hg (.inl rfl)⟩) (fun _ _=>h)
end
section
variable {P:Program} {nn:Nat} {S:List (Nat×Value)} {Z:World->Prop} {d:Nat} {ty:TypeId} {pos:String} {aft:Array Edge}
theorem eJ2 {t t':TypeId} {x y:Operand} {m n:ByteArray} (hx:rd S x=some (.string m)) (hy:rd S y=some (.string n)):OV P nn S Z ⟨some d,.binOp .gtr t x y t',ty,pos,aft,none⟩ (.bool !(Op.bytesLess m.toList n.toList||m.toList==n.toList)):=
 ov_bin hx hy (fun w=>by simp [go_sem])
theorem cP4 {t t':TypeId} {x y:Operand} {m n:ByteArray} (hx:rd S x=some (.string m)) (hy:rd S y=some (.string n)):OV P nn S Z ⟨some d,.binOp .lss t x y t',ty,pos,aft,none⟩ (.bool (Op.bytesLess m.toList n.toList)):=
 ov_bin hx hy (fun w=>by simp [go_sem])
theorem dQ8 (k k':IntKind) (x y:Int):Builtin.min2 (.int k x) (.int k' y)=pure (.int k (min x y)):=by
 have e:(if y < x then y else x)=min x y:=by split <;> omega
 simp only [Builtin.min2,e]
theorem dP8 (k k':IntKind) (x y:Int):Builtin.max2 (.int k x) (.int k' y)=pure (.int k (max x y)):=by
 have e:(if y > x then y else x)=max x y:=by split <;> omega
 simp only [Builtin.max2,e]
theorem eI2 {ts:Array TypeId} {x y z u:Operand} {m n p q:Int} (hx:rd S x=some (.int .i64 m)) (hy:rd S y=some (.int .i64 n)) (hz:rd S z=some (.int .i64 p)) (hu:rd S u=some (.int .i64 q)):OV P nn S Z ⟨some d,.call ⟨.builtin .min,#[x,y,z,u],ts⟩,ty,pos,aft,none⟩ (.int .i64 (min (min (min m n) p) q)):=
 (fun a w ha hm=>by
  simp [execOp,resolve,invoke,builtin,ha.eval hx,ha.eval hy,ha.eval hz,ha.eval hu,Builtin.min_,dQ8])
theorem eH2 {ts:Array TypeId} {x y z u:Operand} {m n p q:Int} (hx:rd S x=some (.int .i64 m)) (hy:rd S y=some (.int .i64 n)) (hz:rd S z=some (.int .i64 p)) (hu:rd S u=some (.int .i64 q)):OV P nn S Z ⟨some d,.call ⟨.builtin .max,#[x,y,z,u],ts⟩,ty,pos,aft,none⟩ (.int .i64 (max (max (max m n) p) q)):=
 (fun a w ha hm=>by
  simp [execOp,resolve,invoke,builtin,ha.eval hx,ha.eval hy,ha.eval hz,ha.eval hu,Builtin.max_,dP8])
end
def gQ (base:Nat) (e:TypeId) (sz n eW g:Nat) (xs:List Value) (w:World):Prop:=w.ownsRow base e sz (.slice (some ⟨g,0,none⟩) n eW) n xs
theorem gQ.lt {base:Nat} {e:TypeId} {sz n eW g:Nat} {xs:List Value} {w:World} (h:gQ base e sz n eW g xs w):base<=g/\g < w.heap.size:=(show w.ownsRow base e sz (.slice (some ⟨g,0,none⟩) n eW) n xs from h).lt g rfl
theorem gQ.keeps {base:Nat} {e:TypeId} {sz n eW g:Nat} {xs:List Value} {N:Nat} (h:g < N):bD2 N (gQ base e sz n eW g xs):=
 ⟨fun _ _ hg hk=>World.ownsRow.kept hk hg (.inr (fun e=>by simp [Value.ownBlock] at e)),fun _ _ r hr hg hk=>World.ownsRow.kept hk hg (.inr (fun e=>by
  have e:g=r:=by simpa [Value.ownBlock] using e
  omega))⟩
section
variable {P:Program} {c:Cx} {eZ:Array Oper} {Q:Exit->Act->World->Prop} {rest:List Oper} {S:List (Nat×Value)} {L:List (Nat×TypeId×List Value)} {O:List Own} {X:List (World->Prop)} {d:Nat} {ty:TypeId} {pos:String} {aft:Array Edge}
theorem gQ.get {α:Type} {enc:α->List Value} {base:Nat} {e:TypeId} {sz n eW g:Nat} {l:List α} {w:World} (h:gQ base e sz n eW g (l.flatMap enc) w) (hk:∀x,(enc x).length=sz) (hl:l.length=n):SlT enc sz e w (some ⟨g,0,none⟩) n l:=SlT.ofOwn hk h hl
end
theorem gV.newOwnS {c:Cx} {L:List (Nat×TypeId×List Value)} {O:List Own} {X:List (World->Prop)} {w w':World} {TS:TypeId} {B sb m m':Nat} (h:gV c (fun w=>eU TS w B sb m) L O X w) (uR:c.row=some sb) (hT:c.Tt.contains TS=false) (hS:eU TS w' B sb m') (hg:w.grownBy w' (some sb)) {v:Value} {e:TypeId} {sz n:Nat} {xs:List Value} (hown:w'.ownsRow w.heap.size e sz v n xs):gV c (fun w=>eU TS w B sb m') L (⟨v,e,sz,n,xs⟩::O) X w':=by
 have h2:=h.strm uR hT hS hg Lasts2.true_ trivial
 refine ⟨h2.g,h2.k,h2.b,h2.nd,fun r hr=>?_,fun r hr x hx=>?_,List.Pairwise.cons (fun x hx g hg' e'=>?_) h.oo,fun A hA=>h2.x A (List.mem_cons_of_mem _ hA),h2.kk,h.l,h.rs⟩
 ·rcases List.mem_cons.1 hr with rfl|hr
  ·refine ⟨hown.1,?_⟩
   rcases hown.2 with hn|⟨g,eW,wZ,h1,h3,h4⟩
   ·exact .inl hn
   ·exact .inr ⟨g,eW,wZ,h1,Nat.le_trans h.g.size h3,h4⟩
  ·exact h2.o r hr
 ·rcases List.mem_cons.1 hr with rfl|hr
  ·intro e'
   have h3:=(hown.lt _ e').1
   have h4:=(h.b x hx).2.lt
   omega
  ·exact h.od r hr x hx
 ·have h3:=(hown.lt _ hg').1
  have h4:=((h.o x hx).lt _ e').2
  omega
section
variable {P:Program} {c:Cx} {eZ:Array Oper} {Q:Exit->Act->World->Prop} {rest:List Oper} {S:List (Nat×Value)} {L:List (Nat×TypeId×List Value)} {O:List Own} {X:List (World->Prop)} {d:Nat} {ty:TypeId} {pos:String} {aft:Array Edge}
theorem dO5 {γ:Type} {TS:TypeId} {B sb m m':Nat} {f:FuncId} {x:Operand} {ags:List Operand} {ats:Array TypeId} {vs fs cs:List Value} {val:γ->Value} {φ:γ->Prop} (r:γ->Own) (hx:rd S x=some (.func (.func f) fs.toArray cs.toArray)) (hf:bZ P f=true) (ha:qI S ags=some vs) (hd:Nat.ble (d+1) c.n=true) (uR:c.row=some sb) (hT:c.Tt.contains TS=false)
 (hC:∀w,gV c (fun w=>eU TS w B sb m) L O X w->Calls P f (fs++vs++cs).toArray w (fun e w'=>∃g,e=.returned (val g)/\φ g/\eU TS w' B sb m'/\w.grownBy w' (some sb)/\w'.ownsRow w.heap.size (r g).e (r g).sz (r g).v (r g).n (r g).xs)) (h:∀g,φ g->WL P c eZ Q rest ((d,val g)::S) (fun w=>eU TS w B sb m') L (r g::O) X):
 WL P c eZ Q (⟨some d,.call ⟨.value x,ags.toArray,ats⟩,ty,pos,aft,none⟩::rest) S (fun w=>eU TS w B sb m) L O X:=
 gD (γ:=γ) (val:=val) (φ:=φ) (K':=fun _ w=>eU TS w B sb m') (L':=fun _=>L) (O':=fun g=>r g::O) (X':=fun _=>X) hx hf ha hd (fun w hm=>(hC w hm).mono fun _ _ ⟨g,he,hφ,hS,hg,ho⟩=>⟨g,he,hφ,hm.newOwnS uR hT hS hg ho⟩) h
end
def dA6 (P:Program) (t:TypeId):Option (Nat×Nat):=
 match P.underlying t with
 |some (.array n e)=>(P.info? e).map (fun i=>(n,i.size))
 |_=>none
section
variable {P:Program} {nn:Nat} {S:List (Nat×Value)} {Z:World->Prop} {d:Nat} {ty:TypeId} {pos:String} {aft:Array Edge}
theorem cJ2 {t:TypeId} {x y:Operand} {g o n sz j o':Nat} (ha':dA6 P t=some (n,sz)) (hx:rd S x=some (.pointer (some ⟨g,o,none⟩))) (hy:rd S y=some (.int .i64 (j:Int))) (hj:j < n) (ho:o+j *sz=o'):OV P nn S Z ⟨some d,.indexAddr t x y,ty,pos,aft,none⟩ (.pointer (some ⟨g,o',none⟩)):=fun a w ha hm=>by
 unfold dA6 at ha'
 split at ha'
 ·rename_i n' e hu
  cases hi:P.info? e with
  |none=>simp [hi] at ha'
  |some inf=>
   simp [hi] at ha'
   obtain ⟨rfl,rfl⟩:=ha'
   have hn:P.arrayLen t=n':=by simp [Program.arrayLen,hu]
   have he:P.elem t=e:=by simp [Program.elem,hu]
   have h1:(Instr.indexAt t (.pointer (some ⟨g,o,none⟩)) (.int .i64 (j:Int))).run P w= .ok (.pointer (some ⟨g,o',none⟩)) w:=by
    rw [run_indexAt_array w t _ _ _ (by rw [hn,he];exact hu),if_pos ⟨by omega,by rw [hn];omega⟩]
    subst ho
    simp [sizeOf,typeInfo,he,hi,vH]
   simp [execOp,ha.eval hx,ha.eval hy,h1]
 ·cases ha'
end
theorem SlT.takeT {α:Type} {enc:α->List Value} {k:Nat} {T:TypeId} {w:World} {A:Option Addr} {n q:Nat} {l:List α} (h:SlT enc k T w A n l) (hq:q<=n):SlT enc k T w A q (l.take q):=by
 refine ⟨by rw [List.length_take,h.len];omega,fun hn=>?_⟩
 obtain ⟨b,off,cells,fz,e,hh,hr⟩:=h.at_ (by omega)
 refine ⟨b,off,cells,fz,e,hh,fun i x hx j v hv=>hr i x ?_ j v hv⟩
 rw [List.getElem?_take] at hx
 split at hx
 ·exact hx
 ·cases hx
section
variable {P:Program} {nn:Nat} {S:List (Nat×Value)} {Z:World->Prop} {d:Nat} {ty:TypeId} {pos:String} {aft:Array Edge}
theorem eO {t t':TypeId} {x y:Operand} {m n:ByteArray} (hx:rd S x=some (.string m)) (hy:rd S y=some (.string n)) (h:m.size+n.size<=9223372036854775807):OV P nn S Z ⟨some d,.binOp .add t x y t',ty,pos,aft,none⟩ (.string (m++n)):=
 ov_bin hx hy (fun w=>by
  have e:=run_string_add_sum (P:=P) w m n h
  simp [binOp_string_add,e,go_sem])
end
theorem eT0 {l:List UInt8} {v:Int} (h:Lib.atoiAll l= .ok v): -9223372036854775808<=v/\v<=9223372036854775807:=by
 unfold Lib.atoiAll at h
 split at h
 ·cases h
 ·dsimp only at h
  split at h
  ·cases h
  ·cases h
  ·split at h
   ·cases h
   ·split at h
    ·cases h
    ·rename_i h1 h2
     injection h with h
     subst h
     split
     ·rename_i hn
      have:¬9223372036854775808 < _:=fun e=>h2 ⟨hn,e⟩
      omega
     ·rename_i hn
      have:¬9223372036854775808<=_:=fun e=>h1 ⟨hn,e⟩
      omega
theorem cP6 {v:Int} {s:ByteArray}:((bT6 v).toList==s.toList)=(Lib.itoa v==s.data.toList):=by
 unfold bT6
 rw [ByteArray.toList_eq,ByteArray.toList_eq]
theorem eX5 {s:ByteArray} {v:Int} (h:Lib.atoiAll s.data.toList= .ok v):bG4 s=((Lib.itoa v==s.data.toList)&&decide ((Lib.trimPrefix s.data.toList [45]).length<=9))/\cZ6 s=v:=by
 unfold bG4 cZ6;rw [h];exact ⟨rfl,rfl⟩
theorem dW8 {s:ByteArray} (h:∀v,Lib.atoiAll s.data.toList≠ .ok v):bG4 s=false:=by
 unfold bG4
 rcases ha:Lib.atoiAll s.data.toList with v|_|_
 ·exact absurd ha (h v)
 ·rfl
 ·rfl
theorem eM4 (l:List UInt8):(⟨l.toArray⟩:ByteArray).size=l.length:=by
 show l.toArray.size=l.length
 simp
theorem dR6 (n:Nat):decide ((n:Int)<=9)=decide (n<=9):=by
 rw [decide_eq_decide];omega
theorem cW9 (s:ByteArray) (w:World) (ht:qL w) (hs:s.size<=1000000):
 Calls prog 210 #[.string s] w (fun e w'=>∃v,e=.returned (.tuple #[.int .i64 v,.bool (bG4 s)])/\(bG4 s=true->v=cZ6 s)/\w.grownBy w' none):=by
 refine cS ⟨26,w,none, []⟩ func210 U ntmps210 U (gM (X:= [TxtO w.heap.size none]) (cF ht.old cX) (cG TxtO.lasts cY)) (bR (bX U (bX U (bQ (bR (bP U ?_))))))
 refine gY (γ:=Int×Value) (val:=(fun g=> .tuple #[.int .i64 g.1,g.2])) (φ:=(fun g=>(∃u,Lib.atoiAll s.data.toList= .ok u/\g.1=u/\g.2= .nilIface)∨((∀u,Lib.atoiAll s.data.toList≠ .ok u)/\∃T p,g.2= .iface T (.pointer (some p))))) (Y:=(fun g=>fun _=>True)) U eJ9 U U (fun wx hm=>(dB6 s wx (hm.fact 0 U).1 (by omega)).mono fun _ _ ⟨v,E,he,hE,hg⟩=>⟨(v,E),he,hE,hg,trivial⟩) (fun _=>Lasts2.true_) ?_
 rintro ⟨v,E⟩ hE
 dsimp only at hE ⊢
 rcases hE with ⟨u,hu,rfl,rfl⟩|⟨hno,T,p,rfl⟩
 ·have hbd:=eT0 hu
  obtain ⟨uQ,hn2⟩:=eX5 hu
  refine bP U (bB (cP U U) U (bB (cP U U) U (bX U (bX U (bQ (bR (bP U (bP U (bB (ov_bin (v:= .bool true) U U (fun _=>by kernel_rfl)) U (bP U (eE U (bP U (eE U (cH U dD6 U U (fun wx hm=>(bP9 v wx (hm.fact 1 U).1 (by omega) (by omega))) (eE U (bP U (eE U (bB (eS U U) U (mN U U (bP U ?_))))))))))))))))))))
  rcases Bool.eq_false_or_eq_true ((bT6 v).toList==s.toList) with he|he
  ·refine bK 20 U (fU3 he) ?_
   refine eE U (bP U (eE U (cH U eK9 U U (fun wx hm=>(dZ9 s ⟨#[45]⟩ wx)) (eE U (bB (yF us9 U) U (eE U (bB (mV U U) U (mN U U (bX U (bX U (bQ (bM ?_))))))))))))
   refine pN U U U fun wx hm=>?_
   exact ⟨v,by rw [uQ,<-cP6,he,Bool.true_and,eM4,dR6],fun _=>hn2.symm,hm.g⟩
  refine bK 20 U (fU3 he) (dZ U (dZ U (dZ U (dZ U (nR U U (bX U (bX U (bQ (bM ?_)))))))))
  refine pN U U U fun wx hm=>?_
  exact ⟨v,by rw [uQ,<-cP6,he];rfl,fun _=>hn2.symm,hm.g⟩
 refine bP U (bB (cP U U) U (bB (cP U U) U (bX U (bX U (bQ (bR (bP U (bP U (bB (ov_bin (v:= .bool false) U U (fun _=>by kernel_rfl)) U (bP U (dZ U (dZ U (dZ U (dZ U (nR U U (bP U (dZ U (dZ U (dZ U (dZ U (nR U U (bX U (bX U (bQ (bM ?_)))))))))))))))))))))))))
 refine pN U U U fun wx hm=>?_
 exact ⟨_,by rw [dW8 hno],fun h=>by (rw [dW8 hno] at h;cases h),hm.g⟩
def kN (x:Int):List Value:= [.int .i64 x]
def eqP (k:ByteArray) (y:ByteArray):Bool:=k.toList==y.toList
theorem dS5 (s sep:ByteArray) (h1:1<=sep.size):(bE3 s sep).length=Lib.countB s sep+1:=Lib.splitB_all sep h1 0 _ s rfl
theorem dL0 (l:List ByteArray) (A:Option Addr) (n c:Nat) (k:ByteArray) (w:World) (hl:SlT fH 1 9 w A n l) (hn:n<=1000001):
 Calls prog 193 #[.slice A n c,.string k] w (mP w (mI (eqP k) l 0)):=by
 refine cS ⟨19,w,none, []⟩ func193 U ntmps193 U (gM (X:= [bW fH 1 9 w.heap.size none A n l]) (cF hl.old cX) (cG bW.lasts cY)) (bR ?_)
 have hlen:=hl.len
 refine bX U (bQ (bH (bR (bP U (bB (dT jX U) U (bP U (bQ (bO ?_))))))))
 refine dX (γ:=Nat) (fun (i:Nat)=>i<=n/\mI (eqP k) l 0=mI (eqP k) (l.drop i) i) (fun (i:Nat)=> [(0,.slice A n c),(1,.string k),(7,.int .i64 ((n:Nat):Int)),(8,.int .i64 ((i:Nat):Int))]) (fun (i:Nat)=>fun _=>True) (fun (i:Nat)=> []) (fun (i:Nat)=> []) (fun (i:Nat)=> [bW fH 1 9 w.heap.size none A n l]) (fun (i:Nat)=>n - i) 0 ⟨Nat.zero_le _,U⟩ ⟨U,U,U,U,trivial⟩ (fun _ hm=>hm.pick [] [] [0] U U) ?_
 intro i cB
 replace cB:i<=n/\mI (eqP k) l 0=mI (eqP k) (l.drop i) i:=cB
 refine bR (bB (dE U U) U (bQ (bH ?_)))
 refine cC U (fun hi=>?_) (fun hi=>?_)
 ·refine bN (bD (bH (bO (bR ?_))))
  obtain ⟨b,off,hA,_,_⟩:=hl.get (by omega)
  subst hA
  obtain ⟨x,hx⟩:∃x,l[i]?=some x:=⟨_,fW3 (by omega)⟩
  have hat:=yA (p:=eqP k) hx
  refine bP U (bX U (bQ (bR (bP U (bP U (bP U (bB (bV (j:=i) jX U U (by omega)) U (bB (dK (k:=0) (v:= .string x) fC U (fun _ hm=>(hm.fact 0 U).1) hx U U) U (bB (eS U U) U (bQ ?_))))))))))
  refine dC U (fun hh=>?_) (fun hh=>?_)
  ·have hq:(k.toList==x.toList)=true:=by simpa using hh
   refine bR ?_
   have hq2:eqP k x=true:=hq
   refine bP U (bX U (bQ (bM (bC (bA (bA (bC (bA ?_))))))))
   exact bJ U U fun wx hm=>⟨bT (by rw [cB.2,hat,if_pos hq2]),hm.g⟩
  have hq:(k.toList==x.toList)=false:=by simpa using hh
  refine bN (bG (bD (bI ?_)))
  have hq2:eqP k x=false:=hq
  refine gO U U (bP U (bE ?_))
  exact cN (i+1) ⟨by omega,by rw [cB.2,hat,if_neg (by rw [hq2];decide)]⟩ (by omega) ⟨U,U,U,(cR (by omega)),trivial⟩ (fun _ hm=>hm.pick [] [] [0] U U)
 refine dD (bF (bF (bY (bD (bR (bX U (bK 4 (v':= .int .i64 (-1)) U U (bQ (bM ?_)))))))))
 exact bJ U U fun wx hm=>⟨bT (by rw [cB.2,List.drop_eq_nil_of_le (by omega)];rfl),hm.g⟩
theorem eA3 {p:ByteArray->Bool} {l:List ByteArray}:decide (0<=mI p l 0)=l.any p:=by
 rcases pT (p:=p) l 0 with ⟨h,h2⟩|⟨j,y,h,hj,hp,_⟩
 ·rw [h,decide_eq_false (by omega)]
  exact (List.any_eq_false.2 fun x hx=>by simpa using h2 x hx).symm
 ·rw [h,decide_eq_true (by omega)]
  exact (List.any_eq_true.2 ⟨y,fX3 hj,hp⟩).symm
theorem cO1 (l:List ByteArray) (A:Option Addr) (n c:Nat) (k:ByteArray) (w:World) (hl:SlT fH 1 9 w A n l) (hn:n<=1000001):
 Calls prog 149 #[.slice A n c,.string k] w (fun e w'=>e=.returned (.bool (l.any (eqP k)))/\w.grownBy w' none):=by
 refine cS ⟨9,w,none, []⟩ func149 U ntmps149 U (gM (X:= [bW fH 1 9 w.heap.size none A n l]) (cF hl.old cX) (cG bW.lasts cY)) (bR (bX U (bQ (bR (bP U (bP U (cH U eA4 U U (fun wx hm=>(dL0 l A n c k wx (hm.fact 0 U).1 hn)) (bB (mG U U) U (bX U (bQ (bM ?_)))))))))))
 exact bJ U U fun wx hm=>⟨by rw [eA3],hm.g⟩
def wdL (s:ByteArray):List ByteArray:=bE3 s ⟨#[32]⟩
def wdB (s:ByteArray):Bool:= !((wdL s).any (eqP ⟨#[]⟩))
theorem jZ:bJ7 prog 9 dM:=fY2
noncomputable def mK:ByteArray->Option ByteArray:=fQ (fQ (fQ (fQ (fQ (fQ (fQ (fQ (fQ (fQ (fQ (fQ (fQ (mY) ⟨#[101,110,116,101,114]⟩ ⟨#[119,119]⟩) ⟨#[115,104,111,112]⟩ ⟨#[119,119]⟩) ⟨#[100,111,110,101]⟩ ⟨#[119,119]⟩) ⟨#[99,111,109,101]⟩ ⟨#[119,119]⟩) ⟨#[103,111,110,101]⟩ ⟨#[119,119]⟩) ⟨#[108,101,97,118,101]⟩ ⟨#[119,119,119]⟩) ⟨#[98,111,111,107]⟩ ⟨#[119,119,110,110,110]⟩) ⟨#[99,97,110,99,101,108]⟩ ⟨#[119]⟩) ⟨#[115,116,97,114,116]⟩ ⟨#[119,119,110,119,119,110,110]⟩) ⟨#[115,119,97,112]⟩ ⟨#[119,119,110,110,119,110,110]⟩) ⟨#[101,120,116,101,110,100]⟩ ⟨#[119,110]⟩) ⟨#[99,108,111,115,101]⟩ ⟨#[119,119,110,110]⟩) ⟨#[112,97,121]⟩ ⟨#[119,110]⟩
noncomputable def gG:ByteArray->Option Int:=fQ (fQ (fQ (fQ (fQ (fQ (mY) ⟨#[101,110,116,101,114]⟩ 1) ⟨#[115,104,111,112]⟩ 4) ⟨#[100,111,110,101]⟩ 5) ⟨#[99,111,109,101]⟩ 7) ⟨#[103,111,110,101]⟩ 8) ⟨#[108,101,97,118,101]⟩ 6
theorem bQ6 {k f:ByteArray} (h:mK k=some f):(k=⟨#[112,97,121]⟩/\f=⟨#[119,110]⟩)∨(k=⟨#[99,108,111,115,101]⟩/\f=⟨#[119,119,110,110]⟩)∨(k=⟨#[101,120,116,101,110,100]⟩/\f=⟨#[119,110]⟩)∨(k=⟨#[115,119,97,112]⟩/\f=⟨#[119,119,110,110,119,110,110]⟩)∨(k=⟨#[115,116,97,114,116]⟩/\f=⟨#[119,119,110,119,119,110,110]⟩)∨(k=⟨#[99,97,110,99,101,108]⟩/\f=⟨#[119]⟩)∨(k=⟨#[98,111,111,107]⟩/\f=⟨#[119,119,110,110,110]⟩)∨(k=⟨#[108,101,97,118,101]⟩/\f=⟨#[119,119,119]⟩)∨(k=⟨#[103,111,110,101]⟩/\f=⟨#[119,119]⟩)∨(k=⟨#[99,111,109,101]⟩/\f=⟨#[119,119]⟩)∨(k=⟨#[100,111,110,101]⟩/\f=⟨#[119,119]⟩)∨(k=⟨#[115,104,111,112]⟩/\f=⟨#[119,119]⟩)∨(k=⟨#[101,110,116,101,114]⟩/\f=⟨#[119,119]⟩):=by
 unfold mK at h
 rcases eM h with h|h
 ·exact .inl h
 rcases eM h with h|h
 ·exact .inr (.inl h)
 rcases eM h with h|h
 ·exact .inr (.inr (.inl h))
 rcases eM h with h|h
 ·exact .inr (.inr (.inr (.inl h)))
 rcases eM h with h|h
 ·exact .inr (.inr (.inr (.inr (.inl h))))
 rcases eM h with h|h
 ·exact .inr (.inr (.inr (.inr (.inr (.inl h)))))
 rcases eM h with h|h
 ·exact .inr (.inr (.inr (.inr (.inr (.inr (.inl h))))))
 rcases eM h with h|h
 ·exact .inr (.inr (.inr (.inr (.inr (.inr (.inr (.inl h)))))))
 rcases eM h with h|h
 ·exact .inr (.inr (.inr (.inr (.inr (.inr (.inr (.inr (.inl h))))))))
 rcases eM h with h|h
 ·exact .inr (.inr (.inr (.inr (.inr (.inr (.inr (.inr (.inr (.inl h)))))))))
 rcases eM h with h|h
 ·exact .inr (.inr (.inr (.inr (.inr (.inr (.inr (.inr (.inr (.inr (.inl h))))))))))
 rcases eM h with h|h
 ·exact .inr (.inr (.inr (.inr (.inr (.inr (.inr (.inr (.inr (.inr (.inr (.inl h)))))))))))
 rcases eM h with h|h
 ·exact .inr (.inr (.inr (.inr (.inr (.inr (.inr (.inr (.inr (.inr (.inr (.inr (h))))))))))))
 cases h
theorem eC {a b:ByteArray} (h:a.data.toList≠b.data.toList):a≠b:=fun e=>h (by rw [e])
theorem cR6:gG ⟨#[101,110,116,101,114]⟩=some 1:=by
 unfold gG
 rw [dB _ _ (eC (by decide)),dB _ _ (eC (by decide)),dB _ _ (eC (by decide)),dB _ _ (eC (by decide)),dB _ _ (eC (by decide)),hU]
theorem cP9:gG ⟨#[115,104,111,112]⟩=some 4:=by
 unfold gG
 rw [dB _ _ (eC (by decide)),dB _ _ (eC (by decide)),dB _ _ (eC (by decide)),dB _ _ (eC (by decide)),hU]
theorem cN9:gG ⟨#[100,111,110,101]⟩=some 5:=by
 unfold gG
 rw [dB _ _ (eC (by decide)),dB _ _ (eC (by decide)),dB _ _ (eC (by decide)),hU]
theorem cM9:gG ⟨#[99,111,109,101]⟩=some 7:=by
 unfold gG
 rw [dB _ _ (eC (by decide)),dB _ _ (eC (by decide)),hU]
theorem cO9:gG ⟨#[103,111,110,101]⟩=some 8:=by
 unfold gG
 rw [dB _ _ (eC (by decide)),hU]
theorem cS6:gG ⟨#[108,101,97,118,101]⟩=some 6:=by
 unfold gG
 rw [hU]
theorem bS9:gG ⟨#[98,111,111,107]⟩=none:=by
 unfold gG
 rw [dB _ _ (eC (by decide)),dB _ _ (eC (by decide)),dB _ _ (eC (by decide)),dB _ _ (eC (by decide)),dB _ _ (eC (by decide)),dB _ _ (eC (by decide))];rfl
theorem bB4:gG ⟨#[99,97,110,99,101,108]⟩=none:=by
 unfold gG
 rw [dB _ _ (eC (by decide)),dB _ _ (eC (by decide)),dB _ _ (eC (by decide)),dB _ _ (eC (by decide)),dB _ _ (eC (by decide)),dB _ _ (eC (by decide))];rfl
theorem bX6:gG ⟨#[115,116,97,114,116]⟩=none:=by
 unfold gG
 rw [dB _ _ (eC (by decide)),dB _ _ (eC (by decide)),dB _ _ (eC (by decide)),dB _ _ (eC (by decide)),dB _ _ (eC (by decide)),dB _ _ (eC (by decide))];rfl
theorem bT9:gG ⟨#[115,119,97,112]⟩=none:=by
 unfold gG
 rw [dB _ _ (eC (by decide)),dB _ _ (eC (by decide)),dB _ _ (eC (by decide)),dB _ _ (eC (by decide)),dB _ _ (eC (by decide)),dB _ _ (eC (by decide))];rfl
theorem bC4:gG ⟨#[101,120,116,101,110,100]⟩=none:=by
 unfold gG
 rw [dB _ _ (eC (by decide)),dB _ _ (eC (by decide)),dB _ _ (eC (by decide)),dB _ _ (eC (by decide)),dB _ _ (eC (by decide)),dB _ _ (eC (by decide))];rfl
theorem bW6:gG ⟨#[99,108,111,115,101]⟩=none:=by
 unfold gG
 rw [dB _ _ (eC (by decide)),dB _ _ (eC (by decide)),dB _ _ (eC (by decide)),dB _ _ (eC (by decide)),dB _ _ (eC (by decide)),dB _ _ (eC (by decide))];rfl
theorem cF2:gG ⟨#[112,97,121]⟩=none:=by
 unfold gG
 rw [dB _ _ (eC (by decide)),dB _ _ (eC (by decide)),dB _ _ (eC (by decide)),dB _ _ (eC (by decide)),dB _ _ (eC (by decide)),dB _ _ (eC (by decide))];rfl
theorem cY1 (w:World):Calls prog 169 #[] w (fun e w'=>∃g,e=.returned (.map (some g))/\bU vS dM w.heap.size g mK w'/\w.grownBy w' none):=by
 refine cS ⟨3,w,none, []⟩ func169 U ntmps169 U (gM (X:= []) cX cY) (bR (bX U (bQ (bR (kV (enc:=vS) (ek:=dM) (fun g=>True) (fun _ hm=>trivial) U fun mp1 hne_mp1=>jD (enc:=vS) (ek:=dM) (s:=⟨#[101,110,116,101,114]⟩) (v:=⟨#[119,119]⟩) (e:=9) (X':= []) 0 jZ (by kernel_rfl) U U U U gB (jD (enc:=vS) (ek:=dM) (s:=⟨#[115,104,111,112]⟩) (v:=⟨#[119,119]⟩) (e:=9) (X':= []) 0 jZ (by kernel_rfl) U U U U gB (jD (enc:=vS) (ek:=dM) (s:=⟨#[100,111,110,101]⟩) (v:=⟨#[119,119]⟩) (e:=9) (X':= []) 0 jZ (by kernel_rfl) U U U U gB (jD (enc:=vS) (ek:=dM) (s:=⟨#[99,111,109,101]⟩) (v:=⟨#[119,119]⟩) (e:=9) (X':= []) 0 jZ (by kernel_rfl) U U U U gB (jD (enc:=vS) (ek:=dM) (s:=⟨#[103,111,110,101]⟩) (v:=⟨#[119,119]⟩) (e:=9) (X':= []) 0 jZ (by kernel_rfl) U U U U gB (jD (enc:=vS) (ek:=dM) (s:=⟨#[108,101,97,118,101]⟩) (v:=⟨#[119,119,119]⟩) (e:=9) (X':= []) 0 jZ (by kernel_rfl) U U U U gB (jD (enc:=vS) (ek:=dM) (s:=⟨#[98,111,111,107]⟩) (v:=⟨#[119,119,110,110,110]⟩) (e:=9) (X':= []) 0 jZ (by kernel_rfl) U U U U gB (jD (enc:=vS) (ek:=dM) (s:=⟨#[99,97,110,99,101,108]⟩) (v:=⟨#[119]⟩) (e:=9) (X':= []) 0 jZ (by kernel_rfl) U U U U gB (jD (enc:=vS) (ek:=dM) (s:=⟨#[115,116,97,114,116]⟩) (v:=⟨#[119,119,110,119,119,110,110]⟩) (e:=9) (X':= []) 0 jZ (by kernel_rfl) U U U U gB (jD (enc:=vS) (ek:=dM) (s:=⟨#[115,119,97,112]⟩) (v:=⟨#[119,119,110,110,119,110,110]⟩) (e:=9) (X':= []) 0 jZ (by kernel_rfl) U U U U gB (jD (enc:=vS) (ek:=dM) (s:=⟨#[101,120,116,101,110,100]⟩) (v:=⟨#[119,110]⟩) (e:=9) (X':= []) 0 jZ (by kernel_rfl) U U U U gB (jD (enc:=vS) (ek:=dM) (s:=⟨#[99,108,111,115,101]⟩) (v:=⟨#[119,119,110,110]⟩) (e:=9) (X':= []) 0 jZ (by kernel_rfl) U U U U gB (jD (enc:=vS) (ek:=dM) (s:=⟨#[112,97,121]⟩) (v:=⟨#[119,110]⟩) (e:=9) (X':= []) 0 jZ (by kernel_rfl) U U U U gB (bP U (bX U (bQ (bM ?_)))))))))))))))))))))
 exact bJ U U fun wx hm=>⟨mp1,U,(hm.fact 0 U),hm.g⟩
theorem qF (w:World):Calls prog 170 #[] w (fun e w'=>∃g,e=.returned (.map (some g))/\bU vI dM w.heap.size g gG w'/\w.grownBy w' none):=by
 refine cS ⟨3,w,none, []⟩ func170 U ntmps170 U (gM (X:= []) cX cY) (bR (bX U (bQ (bR (kV (enc:=vI) (ek:=dM) (fun g=>True) (fun _ hm=>trivial) U fun mp1 hne_mp1=>jD (enc:=vI) (ek:=dM) (s:=⟨#[101,110,116,101,114]⟩) (v:=1) (e:=3) (X':= []) 0 jZ (by kernel_rfl) U U U U gB (jD (enc:=vI) (ek:=dM) (s:=⟨#[115,104,111,112]⟩) (v:=4) (e:=3) (X':= []) 0 jZ (by kernel_rfl) U U U U gB (jD (enc:=vI) (ek:=dM) (s:=⟨#[100,111,110,101]⟩) (v:=5) (e:=3) (X':= []) 0 jZ (by kernel_rfl) U U U U gB (jD (enc:=vI) (ek:=dM) (s:=⟨#[99,111,109,101]⟩) (v:=7) (e:=3) (X':= []) 0 jZ (by kernel_rfl) U U U U gB (jD (enc:=vI) (ek:=dM) (s:=⟨#[103,111,110,101]⟩) (v:=8) (e:=3) (X':= []) 0 jZ (by kernel_rfl) U U U U gB (jD (enc:=vI) (ek:=dM) (s:=⟨#[108,101,97,118,101]⟩) (v:=6) (e:=3) (X':= []) 0 jZ (by kernel_rfl) U U U U gB (bP U (bX U (bQ (bM ?_))))))))))))))
 exact bJ U U fun wx hm=>⟨mp1,U,(hm.fact 0 U),hm.g⟩
theorem dF5 (s sep:ByteArray) (w:World) (ht:qL w) (hs:s.size<=1000000) (h1:1<=sep.size):
 Calls prog 241 #[.string s,.string sep] w (fun e w'=>∃g n,e=.returned (.slice (some ⟨g,0,none⟩) n n)/\(w.heap.size<=g/\Blk w' g 9 ((bE3 s sep).flatMap fH))/\(bE3 s sep).length=n/\(1<=n/\n<=s.size+1)/\w.grownBy w' none):=by
 obtain ⟨mx,hm⟩:=ht.max
 refine (Any.strings_Split Tryz.lays146 (by kernel_rfl) s sep mx w (by omega) hm h1).mono fun e w' ⟨he,hw⟩=>⟨w.heap.size,Lib.countB s sep+1,he,⟨Nat.le_refl _,?_⟩,dS5 s sep h1,⟨by omega,?_⟩,?_⟩
 ·have e1:(bE3 s sep).flatMap fH=(bE3 s sep).map Value.string:=by
   induction bE3 s sep with
   |nil=>rfl
   |cons x r ih=>rw [List.flatMap_cons,ih];rfl
  rw [e1,hw]
  show (w.heap.push _)[w.heap.size]?=_
  rw [Array.getElem?_push_size];rfl
 ·have:=Lib.countB_le sep h1 s.size s (Nat.le_refl _);omega
 ·rw [hw];exact grow_alloc bY0 _
theorem dS0 {w:World} {g n:Nat} {l:List ByteArray} (h:Blk w g 9 (l.flatMap fH)) (hl:l.length=n) (h1:1<=n):SlT fH 1 9 w (some ⟨g,1,none⟩) (n - 1) (l.drop 1):=by
 have h2:=SlT.ofBlk (l:=l) yR h
 rw [hl] at h2
 have hd:=h2.dropS (c:=n+1) 1 h1 (by omega)
 rw [if_neg (by omega)] at hd
 simpa [Option.map,vH] using hd
theorem dR5 (s:ByteArray) (w:World) (ht:qL w) (hs:s.size<=1000000):
 Calls prog 209 #[.string s] w (fun e w'=>∃g n,e=.returned (.tuple #[.slice (some ⟨g,0,none⟩) n n,.bool (wdB s)])/\(w.heap.size<=g/\Blk w' g 9 ((wdL s).flatMap fH))/\((wdL s).length=n/\1<=n/\n<=s.size+1)/\w.grownBy w' none):=by
 refine cS ⟨11,w,none, []⟩ func209 U ntmps209 U (gM (X:= [TxtO w.heap.size none]) (cF ht.old cX) (cG TxtO.lasts cY)) (bR (bX U (bX U (bQ (bR (bP U ?_))))))
 refine gD (γ:=Nat×Nat) (val:=(fun (q:Nat×Nat)=> .slice (some ⟨q.1,0,none⟩) q.2 q.2)) (φ:=(fun (q:Nat×Nat)=>(wdL s).length=q.2/\1<=q.2/\q.2<=s.size+1)) (K':=fun _=>fun _=>True) (L':=(fun (q:Nat×Nat)=>(q.1,9,(wdL s).flatMap fH):: [])) (O':=fun _=> []) (X':=fun _=> [TxtO w.heap.size none]) U eI9 U U (fun wx hm=>(dF5 s ⟨#[32]⟩ wx (hm.fact 0 U).1 hs (by decide)).mono fun _ _ ⟨g,n,he,⟨h0,hb⟩,h1,h2,hg⟩=>⟨(g,n),he,⟨h1,h2⟩,hm.gn hg h0 hb⟩) ?_
 rintro ⟨g,n⟩ hn
 dsimp only at hn ⊢
 refine bX U (bQ (bR (bP U (bP U (cH (v:= .bool ((wdL s).any (eqP ⟨#[]⟩))) U eV3 U U (fun wx hm=>(by have h:=cO1 (wdL s) (some ⟨g,0,none⟩) n n ⟨#[]⟩ wx (by have h5:=SlT.ofBlk (l:=wdL s) yR (hm.blkI 0 rfl);rw [hn.1] at h5;exact h5) (by omega);exact h)) (bB (cE U) U (bX U (bX U (bQ (bM ?_))))))))))
 refine pN U U U fun wx hm=>?_
 exact ⟨g,n,U,⟨(hm.b _ (List.mem_cons_self ..)).1,hm.bl 0⟩,hn,hm.g⟩
theorem cV9:∀(k u:Nat),(Lib.decDigits u).length<=k+1->u < 10 ^ (k+1)
 |0,u,h=>by
  by_cases h1:u < 10
  ·simpa using h1
  ·rw [Lib.decDigits_length,Lib.nDigits_big h1] at h
   have h2:(Lib.decDigits (u / 10)).length=Lib.nDigits (u / 10):=Lib.decDigits_length _
   have h3:Lib.decDigits (u / 10)≠ []:=(dC1 _).2
   have h4:(Lib.decDigits (u / 10)).length≠0:=fun e=>h3 (List.eq_nil_of_length_eq_zero e)
   omega
 |k+1,u,h=>by
  by_cases h1:u < 10
  ·have h9:0 < 10 ^ (k+1):=Nat.pow_pos (by decide)
   rw [Nat.pow_succ];omega
  ·rw [Lib.decDigits_length,Lib.nDigits_big h1] at h
   have h2:=cV9 k (u / 10) (by rw [Lib.decDigits_length];omega)
   rw [Nat.div_lt_iff_lt_mul (by decide)] at h2
   rw [Nat.pow_succ];exact h2
theorem dV8 {s:ByteArray} (h:bG4 s=true): -1000000000<=cZ6 s/\cZ6 s<=1000000000:=by
 unfold bG4 at h
 unfold cZ6
 split at h
 ·rename_i v hv
  show -1000000000<=v/\v<=1000000000
  simp only [Bool.and_eq_true,decide_eq_true_eq] at h
  obtain ⟨h1,h2⟩:=h
  have h1:Lib.itoa v=s.data.toList:=by simpa using h1
  rw [<-h1] at h2
  unfold Lib.itoa at h2
  split at h2
  ·have h3:Lib.trimPrefix (45::Lib.decDigits v.natAbs) [45]=Lib.decDigits v.natAbs:=rfl
   rw [h3] at h2
   have:=cV9 8 _ h2
   omega
  ·have h4:(Lib.decDigits v.toNat).length<=9:=by
    have h5:Lib.trimPrefix (Lib.decDigits v.toNat) [45]=Lib.decDigits v.toNat:=by
     cases hd:Lib.decDigits v.toNat with
     |nil=>rfl
     |cons c r=>
      have h6:=(dC1 v.toNat).1
      rw [hd,List.all_cons,Bool.and_eq_true] at h6
      have h7:(c==45)=false:=by
       cases hc:c==45 with
       |false=>rfl
       |true=>
        have:c=45:=by simpa using hc
        subst this
        exact absurd h6.1 (by decide)
      have h8:Lib.hasPrefix (c::r) [45]=false:=by
       show ((45:UInt8)==c&&List.isPrefixOf [] r)=false
       rw [show ((45:UInt8)==c)=(c==45) from by rw [Bool.eq_iff_iff];simp only [beq_iff_eq];exact eq_comm,h7];rfl
      unfold Lib.trimPrefix
      rw [h8];rfl
    rw [h5] at h2;exact h2
   have:=cV9 8 _ h4
   omega
 ·cases h
 ·cases h
noncomputable def itC {α:Type} (P:Prop) (a b:α):α:=@ite α P (Classical.propDecidable P) a b
theorem xZ {α:Type} {P:Prop} {a b:α} (h:P):itC P a b=a:=by unfold itC;exact if_pos h
theorem pM {α:Type} {P:Prop} {a b:α} (h:¬P):itC P a b=b:=by unfold itC;exact if_neg h
structure As where
 fs:ByteArray->Option Sa
 fa:ByteArray×Int->Option Bool
 fb:ByteArray->Option Bk
 gh:ByteArray->Option Hr
 lg:List Ev
def fZ (σ:Os):As:=⟨σ.fs,σ.fa,σ.fb,fun k=>(σ.fh k).map hrG,σ.lg⟩
def as0:As:=⟨mY,mY,mY,fun _=>none, []⟩
noncomputable def dI9 (s:As) (x:Ev):As:={ s with fs:=fQ s.fs x.veh (fW ((s.fs x.veh).getD wM) x),fa:=fQ s.fa (x.veh,x.at_) true,lg:=s.lg++ [x] }
def dW2 (s:As) (x:Ev):Prop:=(s.fa (x.veh,x.at_)).getD false=false/\fF ((s.fs x.veh).getD wM) x=true
theorem cB3 {f:ByteArray->Option Hg} {k:ByteArray} {h:Hg}:(fun j=>(fQ f k h j).map hrG)=fQ (fun j=>(f j).map hrG) k (hrG h):=by
 funext j
 by_cases e:j=k
 ·subst e
  rw [hU,hU];rfl
 ·rw [dB _ _ e,dB _ _ e]
theorem dD4 {κ α:Type} {f:κ->Option α} {k:κ} (h:f k=none):yB f k=f:=by
 funext j
 by_cases e:j=k
 ·subst e
  rw [bC1,h]
 ·rw [yC _ e]
section
variable (V:ByteArray->Option ByteArray) (T:ByteArray->Option Bool) (at_:Int) (s:As)
noncomputable def bM5 (x:Ev):As:=itC ((V x.veh).isSome=true/\(T x.sta).getD false=true/\(x.kd=6->(T x.to_).getD false=true/\x.to_≠x.sta)/\dW2 s x) (dI9 s x) s
noncomputable def bJ6 (k d v st:ByteArray) (n0 n1 n2:Int):As:=
 itC (hireE ⟨k,d,at_,n0, [startLeg v ⟨at_,st,n1,n2⟩]⟩=0/\(s.gh k).isSome=false/\((V v).isSome=true/\(T st).getD false=true)/\dW2 s (gL at_ v st)) { dI9 s (gL at_ v st) with gh:=fQ s.gh k ⟨k,d,at_,n0, [startLeg v ⟨at_,st,n1,n2⟩]⟩,fb:=yB s.fb k } s
noncomputable def cQ3 (k:ByteArray) (h:Hr) (n0:Int):As:=itC (bP3 h n0=0) { s with gh:=fQ s.gh k ⟨h.key,h.driver,h.fr,n0,h.legs⟩ } s
noncomputable def rM (k:ByteArray) (n0:Int):As:=match s.gh k with
 |none=>s
 |some h=>cQ3 s k h n0
def bE0 (l:List Lg):ByteArray:=((l[l.length - 1]?).map Lg.veh).getD ⟨#[]⟩
noncomputable def cO8 (k:ByteArray) (h:Hr) (lv st:ByteArray) (n0 n1:Int):As:=itC (closeE h ⟨at_,st,n0,n1⟩=0/\(T st).getD false=true/\dW2 s (eP at_ lv st)) { dI9 s (eP at_ lv st) with gh:=fQ s.gh k ⟨h.key,h.driver,h.fr,h.to_,endLegs h.legs ⟨at_,st,n0,n1⟩⟩ } s
noncomputable def uN (k st:ByteArray) (n0 n1:Int):As:=match s.gh k with
 |none=>s
 |some h=>cO8 T at_ s k h (bE0 h.legs) st n0 n1
noncomputable def dP9 (k:ByteArray) (h:Hr) (lv st v:ByteArray) (n0 n1 n2 n3:Int):As:=itC (cV5 h ⟨at_,st,n0,n1⟩ v ⟨at_,st,n2,n3⟩=0/\((T st).getD false=true/\(V v).isSome=true)/\dW2 s (eP at_ lv st)/\dW2 s (gL at_ v st)) { dI9 (dI9 s (eP at_ lv st)) (gL at_ v st) with gh:=fQ s.gh k ⟨h.key,h.driver,h.fr,h.to_,gZ h.legs ⟨at_,st,n0,n1⟩ v ⟨at_,st,n2,n3⟩⟩ } s
noncomputable def xL (k st v:ByteArray) (n0 n1 n2 n3:Int):As:=match s.gh k with
 |none=>s
 |some h=>dP9 V T at_ s k h (bE0 h.legs) st v n0 n1 n2 n3
variable {V T at_ s} {k:ByteArray}
theorem cO3 {n0:Int} (h:s.gh k=none):rM s k n0=s:=by unfold rM;rw [h]
theorem cP3 {n0:Int} {g:Hr} {lv:ByteArray} (h:s.gh k=some g) (_:bE0 g.legs=lv):rM s k n0=cQ3 s k g n0:=by unfold rM;rw [h]
theorem cP5 {st:ByteArray} {n0 n1:Int} (h:s.gh k=none):uN T at_ s k st n0 n1=s:=by unfold uN;rw [h]
theorem cQ5 {st lv:ByteArray} {n0 n1:Int} {g:Hr} (h:s.gh k=some g) (hl:bE0 g.legs=lv):uN T at_ s k st n0 n1=cO8 T at_ s k g lv st n0 n1:=by unfold uN;rw [h,<-hl]
theorem dI0 {st v:ByteArray} {n0 n1 n2 n3:Int} (h:s.gh k=none):xL V T at_ s k st v n0 n1 n2 n3=s:=by unfold xL;rw [h]
theorem dJ0 {st v lv:ByteArray} {n0 n1 n2 n3:Int} {g:Hr} (h:s.gh k=some g) (hl:bE0 g.legs=lv):xL V T at_ s k st v n0 n1 n2 n3=dP9 V T at_ s k g lv st v n0 n1 n2 n3:=by unfold xL;rw [h,<-hl]
theorem cB4 {σ:Os} (h:(σ.fh k).isSome=false):(fZ σ).gh k=none:=by
 show (σ.fh k).map hrG=none
 cases hf:σ.fh k with
 |none=>rfl
 |some g=>rw [hf] at h;cases h
theorem cC4 {σ:Os} {g:Hg} (h:σ.fh k=some g):(fZ σ).gh k=some (hrG g):=by
 show (σ.fh k).map hrG=_
 rw [h];rfl
def Few {κ α:Type} (f:κ->Option α) (n:Nat):Prop:=∃KL:List κ,(∀k v,f k=some v->k∈KL)/\KL.length<=n
open Classical in
theorem bW2 {α:Type}:∀{l m:List α},l.Nodup->(∀x∈l,x∈m)->l.length<=m.length
 | [],_,_,_=>Nat.zero_le _
 |x::r,m,hn,hs=>by
  have hx:=hs x (List.mem_cons_self ..)
  have h1:=bW2 (l:=r) (m:=m.erase x) (List.nodup_cons.1 hn).2 fun y hy=>(List.mem_erase_of_ne (fun e=>(List.nodup_cons.1 hn).1 (by rw [<-e];exact hy))).2 (hs y (List.mem_cons_of_mem _ hy))
  rw [List.length_erase_of_mem hx] at h1
  have:=List.length_pos_of_mem hx
  rw [List.length_cons];omega
theorem Few.len {κ α:Type} {enc:α->Value} {ek:κ->Value} {N g n:Nat} {f:κ->Option α} {w:World} (hf:Few f n) (h:bU enc ek N g f w):∃m:{ m:Nat // m<=n },rX g m.1 w:=by
 obtain ⟨_,es,ck,hb,hs,hk,hv⟩:=h
 obtain ⟨KL,hKL,hn⟩:=hf
 have h1:(es.toList.map fun x=>x.key).Nodup:=hs.2.2
 have h2:(es.toList.map fun x=>x.key).length<=(KL.map ek).length:=bW2 h1 fun v zJ=>by
  obtain ⟨x,hx,rfl⟩:=List.mem_map.1 zJ
  obtain ⟨b,hb2⟩:=hk x hx
  obtain ⟨y,hy,_⟩:=(hv b x.val).1 ⟨x,hx,hb2,rfl⟩
  rw [hb2]
  exact List.mem_map.2 ⟨b,hKL b y hy,U⟩
 rw [List.length_map,List.length_map,Array.length_toList] at h2
 exact ⟨⟨es.size,by omega⟩,es,ck,hb,U⟩
def tAt (l:List ByteArray) (i:Nat):ByteArray:=(l[i]?).getD ⟨#[]⟩
def nAt (l:List Int) (i:Nat):Int:=(l[i]?).getD 0
end
def cW (fm:ByteArray):Nat->Nat
 |0=>0
 |i+1=>cW fm i+(if pK fm ((i:Nat):Int)=119 then 1 else 0)
theorem cE6 {k f:ByteArray} (h:mK k=some f):1<=f.size/\f.size<=7:=by
 rcases bQ6 h with ⟨_,rfl⟩|⟨_,rfl⟩|⟨_,rfl⟩|⟨_,rfl⟩|⟨_,rfl⟩|⟨_,rfl⟩|⟨_,rfl⟩|⟨_,rfl⟩|⟨_,rfl⟩|⟨_,rfl⟩|⟨_,rfl⟩|⟨_,rfl⟩|⟨_,rfl⟩ <;> exact ⟨by decide,by decide⟩
theorem cM0 (sep:ByteArray):∀(k:Nat) (t:ByteArray),∀x∈Lib.splitB sep 0 k t,x.size<=t.size
 |0,t,x,hx=>by
  rw [Lib.splitB_zero] at hx
  rw [List.mem_singleton.1 hx];exact Nat.le_refl _
 |k+1,t,x,hx=>by
  unfold Lib.splitB at hx
  split at hx
  ·rw [List.mem_singleton.1 hx];exact Nat.le_refl _
  ·rcases List.mem_cons.1 hx with rfl|hx
   ·rw [ByteArray.size_extract];omega
   ·have:=cM0 sep k _ x hx
    rw [ByteArray.size_extract] at this
    omega
theorem eJ7 {α:Type} {P:α->Prop} {l:List α} {x:α} (h:∀y∈l,P y) (hx:P x):∀y∈l++ [x],P y:=fun y hy=>by
 rcases List.mem_append.1 hy with hy|hy
 ·exact h y hy
 ·rw [List.mem_singleton.1 hy];exact hx
def xsW (ln:ByteArray):List ByteArray:=(wdL ln).drop 1
def tW (fm:ByteArray) (xs:List ByteArray):Nat->List ByteArray
 |0=> []
 |i+1=>if pK fm ((i:Nat):Int)=119 then tW fm xs i++ [tAt xs i] else tW fm xs i
def nW (fm:ByteArray) (xs:List ByteArray):Nat->List Int
 |0=> []
 |i+1=>if pK fm ((i:Nat):Int)=119 then nW fm xs i else nW fm xs i++ [cZ6 (tAt xs i)]
def nOk (fm:ByteArray) (xs:List ByteArray):Nat->Bool
 |0=>true
 |i+1=>nOk fm xs i&&(decide (pK fm ((i:Nat):Int)=119)||bG4 (tAt xs i))
theorem dS8 {fm:ByteArray} {xs:List ByteArray} {i:Nat}:∀{j:Nat},i<=j->nOk fm xs j=true->nOk fm xs i=true
 |0,h,hj=>by rw [Nat.le_zero.1 h];exact hj
 |j+1,h,hj=>by
  by_cases e:i=j+1
  ·rw [e];exact hj
  ·unfold nOk at hj
   rw [Bool.and_eq_true] at hj
   exact dS8 (by omega) hj.1
def w0F (ln:ByteArray):ByteArray:=tAt (wdL ln) 0
noncomputable def fmF (ln:ByteArray):ByteArray:=(mK (w0F ln)).getD ⟨#[]⟩
noncomputable def qR (ln:ByteArray):Option (ByteArray×List ByteArray×List Int):=
 itC (wdB ln=true/\(mK (w0F ln)).isSome=true/\(wdL ln).length=1+(fmF ln).size/\nOk (fmF ln) (xsW ln) (fmF ln).size=true) (some (w0F ln,tW (fmF ln) (xsW ln) (fmF ln).size,nW (fmF ln) (xsW ln) (fmF ln).size)) none
theorem dN2 {l:List ByteArray} {i:Nat} {x:ByteArray} (h:l[i]?=some x):tAt l i=x:=by unfold tAt;rw [h];rfl
theorem eV6 (t:ByteArray):∀x∈wdL t,x.size<=t.size:=cM0 _ _ t
theorem cR0 (ln:ByteArray) (gf N0:Nat) (w:World) (hf:bU vS dM N0 gf mK w) (ht:qL w) (hs:ln.size<=1000):
 Calls prog 168 #[.string ln,.map (some gf)] w (fun e w'=>∃wd A n1 c1 A2 n2 c2 ok tl nl,e=.returned (.tuple #[.agg #[.string wd,.slice A n1 c1,.slice A2 n2 c2],.bool ok])/\((ok=true->(∃fm,mK wd=some fm/\n1=cW fm fm.size/\n1+n2=fm.size)/\qR ln=some (wd,tl,nl))/\(ok=false->qR ln=none))/\(SlT fH 1 9 w' A n1 tl/\SlT kN 1 3 w' A2 n2 nl)/\((∀x∈tl,x.size<=1000)/\∀x∈nl, -1000000000<=x/\x<=1000000000)/\w.grownBy w' none):=by
 refine cS ⟨81,w,none, []⟩ func168 U ntmps168 U (gM (X:= [TxtO w.heap.size none,bU vS dM N0 gf mK]) (cF ht.old (cF hf cX)) (cG TxtO.lasts (cG bU.lasts2 cY))) (bR (dL cC8 U fun g1=>bX U (bQ (bR (bP U ?_)))))
 refine gD (γ:=Nat×Nat) (val:=(fun (q:Nat×Nat)=> .tuple #[.slice (some ⟨q.1,0,none⟩) q.2 q.2,.bool (wdB ln)])) (φ:=(fun (q:Nat×Nat)=>(wdL ln).length=q.2/\1<=q.2/\q.2<=ln.size+1)) (K':=fun _=>fun _=>True) (L':=(fun (q:Nat×Nat)=>(q.1,9,(wdL ln).flatMap fH):: [(g1,271, [.string ⟨#[]⟩,.slice none 0 0,.slice none 0 0])])) (O':=fun _=> []) (X':=fun _=> [TxtO w.heap.size none,bU vS dM N0 gf mK]) U eC9 U U (fun wx hm=>(dR5 ln wx (hm.fact 0 U).1 (by omega)).mono fun _ _ ⟨g,n,he,⟨h0,hb⟩,h1,hg⟩=>⟨(g,n),he,h1,hm.gn hg h0 hb⟩) ?_
 rintro ⟨gw,n⟩ hn
 dsimp only at hn ⊢
 obtain ⟨hwl,uQ,hn2⟩:=hn
 have hwz:∀y∈wdL ln,y.size<=1000:=fun y hy=>Nat.le_trans (eV6 ln y hy) hs
 obtain ⟨w0,hw0⟩:∃x,(wdL ln)[0]?=some x:=⟨_,fW3 (by omega)⟩
 have hw0z:=hwz _ (fX3 hw0)
 have hw0F:w0F ln=w0:=dN2 hw0
 obtain ⟨fm,hfm⟩:∃z,z=(mK w0).getD (⟨#[]⟩:ByteArray):=⟨_,rfl⟩
 obtain ⟨isb,hisb⟩:∃z,z=(mK w0).isSome:=⟨_,rfl⟩
 have hfmF:fmF ln=fm:=by unfold fmF;rw [hw0F];exact hfm.symm
 have hfm7:fm.size<=7:=by
  cases hq:mK w0 with
  |none=>rw [hfm,hq];decide
  |some f=>rw [hfm,hq];exact (cE6 hq).2
 refine bP U (bB (cP U U) U (bB (cP U U) U (bX U (bX U (bQ (bR (bP U (bP U (bB (bV (j:=0) jX U U (by omega)) U (bB (dK (k:=0) (v:= .string w0) fC U (fun _ hm=>(SlT.ofBlk (l:=wdL ln) yR (hm.blkI 0 U))) hw0 U U) U (bB (gX (enc:=vS) (ek:=dM) (s:=w0) (e:=9) (⟨#[]⟩:ByteArray) jZ (by kernel_rfl) (by kernel_rfl) U U (fun _ hm=>(hm.fact 1 U))) U (bP U (bB (cP U U) U (bK 26 (v':= .string fm) U (congrArg Value.string hfm.symm) (bB (cP U U) U (bK 27 (v':= .bool isb) U (fU3 hisb.symm) (bX U (bX U (bQ (bH (bR (bP U (bB (cE U) U (bP U ?_))))))))))))))))))))))))
 rcases Bool.eq_false_or_eq_true (!(wdB ln)) with hb2|hb2
 ·refine bK 30 U (fU3 hb2) ?_
  refine dZ U (dZ U (mN U U (bP U (dZ U (dZ U (dZ U (dZ U (dZ U (dZ U (mN U U (bQ (kP U (bR (bB (dJ (cs:= [.string ⟨#[]⟩,.slice none 0 0,.slice none 0 0]) U (by kernel_rfl)) U (kE (cs':= [.string ⟨#[]⟩,.slice none 0 0,.slice none 0 0]) 1 rP U U U U (bX U (bQ (bM (bA ?_)))))))))))))))))))
  have htn:qR ln=none:=pM fun ⟨q1,q2,q3,_⟩=>by
   rw [hw0F] at q2
   rw [hfmF,hwl] at q3
   simp_all
  refine eQ 1 U rP U U U U fun wx hm=>?_
  exact ⟨⟨#[]⟩,none,0,0,none,0,0,false, [], [],U,⟨(fun h=>by cases h),fun _=>htn⟩,⟨SlT.nil_ _ _,SlT.nil_ _ _⟩,⟨(fun _ h=>by cases h),(fun _ h=>by cases h)⟩,hm.g⟩
 refine bK 30 U (fU3 hb2) (eE U (bP U (eE U (bB (cE U) U (nR U U (bP U ?_))))))
 rcases Bool.eq_false_or_eq_true (!isb) with hb3|hb3
 ·refine bK 34 U (fU3 hb3) ?_
  refine dZ U (dZ U (dZ U (dZ U (dZ U (dZ U (mN U U (bQ (kP U (bR (bB (dJ (cs:= [.string ⟨#[]⟩,.slice none 0 0,.slice none 0 0]) U (by kernel_rfl)) U (kE (cs':= [.string ⟨#[]⟩,.slice none 0 0,.slice none 0 0]) 1 rP U U U U (bX U (bQ (bM (bA ?_)))))))))))))))
  have htn:qR ln=none:=pM fun ⟨q1,q2,q3,_⟩=>by
   rw [hw0F] at q2
   rw [hfmF,hwl] at q3
   simp_all
  refine eQ 1 U rP U U U U fun wx hm=>?_
  exact ⟨⟨#[]⟩,none,0,0,none,0,0,false, [], [],U,⟨(fun h=>by cases h),fun _=>htn⟩,⟨SlT.nil_ _ _,SlT.nil_ _ _⟩,⟨(fun _ h=>by cases h),(fun _ h=>by cases h)⟩,hm.g⟩
 refine bK 34 U (fU3 hb3) (eE U (bP U (eE U (bB (dT jX U) U (eE U (bP U (eE U (bB (yF us9 U) U (eE U (gO U U (eE U (bB (gS U U) U (bK 40 (v':= .bool (!decide (n=1+fm.size))) U (congrArg (fun b=>Value.bool (!b)) (by rw [decide_eq_decide];omega)) (nR U U (bQ ?_)))))))))))))))
 refine gI U (fun hcd=>?_) (fun hcd=>?_)
 ·refine bR ?_
  refine bB (dJ (cs:= [.string ⟨#[]⟩,.slice none 0 0,.slice none 0 0]) U (by kernel_rfl)) U (kE (cs':= [.string ⟨#[]⟩,.slice none 0 0,.slice none 0 0]) 1 rP U U U U (bX U (bQ (bM (bA ?_)))))
  have htn:qR ln=none:=pM fun ⟨q1,q2,q3,_⟩=>by
   rw [hw0F] at q2
   rw [hfmF,hwl] at q3
   simp_all
  refine eQ 1 U rP U U U U fun wx hm=>?_
  exact ⟨⟨#[]⟩,none,0,0,none,0,0,false, [], [],U,⟨(fun h=>by cases h),fun _=>htn⟩,⟨SlT.nil_ _ _,SlT.nil_ _ _⟩,⟨(fun _ h=>by cases h),(fun _ h=>by cases h)⟩,hm.g⟩
 refine bN (bD ?_)
 have hisb1:isb=true:=by simp_all
 have hnf:n=1+fm.size:=by simp_all
 obtain ⟨f0,hf0⟩:∃f,mK w0=some f:=Option.isSome_iff_exists.1 (by rw [<-hisb];exact hisb1)
 have hff:fm=f0:=by rw [hfm,hf0];rfl
 have hfz:=cE6 hf0
 rw [<-hff] at hfz
 refine bR ?_
 refine pJ 3 1 ?_
 refine pJ 9 1 ?_
 refine bP U (bB (bV (j:=0) jX U U (by omega)) U (bB (dK (k:=0) (v:= .string w0) fC U (fun _ hm=>(SlT.ofBlk (l:=wdL ln) yR (hm.blkI 0 U))) hw0 U U) U (bB (dJ (cs:= [.string w0,.slice none 0 0,.slice none 0 0]) U (by kernel_rfl)) U (dL cC8 U fun g4=>kE (cs':= [.string w0,.slice none 0 0,.slice none 0 0]) 0 rP U U U U (bQ (bH (bR (bP U (bB (cZ9 (lo:=1) jX U U U (by omega)) U (bK 48 (v':= .slice (some ⟨gw,1,none⟩) (n - 1) (n - 1)) U (by rw [if_neg (by omega)];simp [Option.map,vH]) (bB (dT jX U) U (bP U (bQ (bO ?_))))))))))))))
 refine dX (γ:=Nat×Nat×Nat×Value×Value×List ByteArray×List Int×List Value×List Value) (fun gg=>(gg.1<=n - 1/\gg.2.2.2.2.2.1.length=gg.2.1/\gg.2.2.2.2.2.2.1.length=gg.2.2.1/\gg.2.2.2.2.2.2.2.1=gg.2.2.2.2.2.1.flatMap fH/\gg.2.2.2.2.2.2.2.2=gg.2.2.2.2.2.2.1.flatMap kN)/\(gg.2.1=cW fm gg.1/\gg.2.1+gg.2.2.1=gg.1)/\(gg.2.2.2.2.2.1=tW fm (xsW ln) gg.1/\gg.2.2.2.2.2.2.1=nW fm (xsW ln) gg.1/\nOk fm (xsW ln) gg.1=true)/\(∀x∈gg.2.2.2.2.2.1,x.size<=1000)/\∀x∈gg.2.2.2.2.2.2.1, -1000000000<=x/\x<=1000000000) (fun gg=> [(4,.pointer (some ⟨g1,0,none⟩)),(8,.string fm),(10,.pointer (some ⟨g4,0,none⟩)),(48,.slice (some ⟨gw,1,none⟩) (n - 1) (n - 1)),(49,.int .i64 ((n - 1:Nat):Int)),(50,.int .i64 ((gg.1:Nat):Int))]) (fun gg=>fun _=>True) (fun gg=> [(g4,271, [.string w0,gg.2.2.2.1,gg.2.2.2.2.1]),(gw,9,(wdL ln).flatMap fH),(g1,271, [.string ⟨#[]⟩,.slice none 0 0,.slice none 0 0])]) (fun gg=> [⟨gg.2.2.2.1,9,1,gg.2.1,gg.2.2.2.2.2.2.2.1⟩,⟨gg.2.2.2.2.1,3,1,gg.2.2.1,gg.2.2.2.2.2.2.2.2⟩]) (fun gg=> [TxtO w.heap.size none,bU vS dM N0 gf mK]) (fun gg=>n - gg.1) (0,0,0,.slice none 0 0,.slice none 0 0, [], [], [], []) ⟨⟨Nat.zero_le _,U,U,U,U⟩,⟨U,U⟩,⟨U,U,U⟩,(fun _ h=>by cases h),(fun _ h=>by cases h)⟩ ⟨U,U,U,U,U,U,trivial⟩ (fun _ hm=>hm.pick [0,1,2] [0,1] [0,1] U U) ?_
 rintro ⟨i,nt,nn,tv,nv,tl,nl,xt,xn⟩ cB
 replace cB:(i<=n - 1/\tl.length=nt/\nl.length=nn/\xt=tl.flatMap fH/\xn=nl.flatMap kN)/\(nt=cW fm i/\nt+nn=i)/\(tl=tW fm (xsW ln) i/\nl=nW fm (xsW ln) i/\nOk fm (xsW ln) i=true)/\(∀x∈tl,x.size<=1000)/\∀x∈nl, -1000000000<=x/\x<=1000000000:=cB
 dsimp only
 refine bR ?_
 obtain ⟨⟨hi0,htl,hnl,rfl,rfl⟩,⟨hct,hcn⟩,⟨htW,hnW,hnO⟩,htz,hnz⟩:=cB
 refine bB (dE U U) U (bQ (bH ?_))
 refine cC U (fun hi=>?_) (fun hi=>?_)
 ·refine bN (bD (bH (bO (bR ?_))))
  have hil:i < fm.size:=by omega
  obtain ⟨x,hx⟩:∃x,((wdL ln).drop 1)[i]?=some x:=⟨_,fW3 (by rw [List.length_drop];omega)⟩
  have hxz:=hwz _ (List.mem_of_mem_drop (fX3 hx))
  have hxA:tAt (xsW ln) i=x:=dN2 hx
  have hcs:cW fm (i+1)=cW fm i+(if pK fm ((i:Nat):Int)=119 then 1 else 0):=rfl
  refine bP U (bB (bV (j:=i) jX U U (by omega)) U (bB (dK (k:=0) (v:= .string x) fC U (fun _ hm=>(dS0 (hm.blkI 1 U) hwl uQ)) hx U U) U (bX U (bX U (bQ (bH (bR (bP U (bP U (bB (bI4 us9 U U (by omega) (by omega)) U (bB (eL U U) U (bQ ?_))))))))))))
  refine cC U (fun h9=>?_) (fun h9=>?_)
  ·refine bR ?_
   rw [if_pos h9] at hcs
   refine dY kL U U (eJ qH 0 U U U (bP U (jE 9 [.string x] fun g5=>eB (news:= [.string x]) 0 0 dY5 U U U U U U U (by omega) (by unfold maxLen;omega) U U fun tv2 htv=>?_)))
   refine dV (R:=∃A cc,tv2= .slice A (nt+1) cc) (fun wx hm=>dR (hm.ownI 0 U)) ?_
   rintro ⟨tA,tc,rfl⟩
   refine dY kL U U (jH 1 qH U U U U U U (bQ (dD (bF (bY (bD (bI (gO U U (bP U (bE ?_))))))))))
   exact cN (i+1,nt+1,nn,(Value.slice tA (nt+1) tc),nv,tl++ [x],nl,tl.flatMap fH++([.string x]:List Value),nl.flatMap kN) ⟨⟨by dsimp only;omega,by simp [htl],hnl,by simp [fH],rfl⟩,⟨by dsimp only;omega,by dsimp only;omega⟩,⟨by dsimp only [tW];rw [if_pos h9,hxA,htW],by dsimp only [nW];rw [if_pos h9];exact hnW,by dsimp only [nOk];rw [decide_eq_true h9,hnO];rfl⟩,eJ7 htz hxz,hnz⟩ (by dsimp only;omega) ⟨U,U,U,U,U,(cR (by dsimp only;omega)),trivial⟩ (fun _ hm=>hm.pick [1,2,3] [0,1] [0,1] U U)
  refine bN (bD (bR ?_))
  rw [if_neg h9] at hcs
  refine bP U ?_
  refine gY (γ:=Int) (val:=(fun g=> .tuple #[.int .i64 g,.bool (bG4 x)])) (φ:=(fun g=>bG4 x=true->g=cZ6 x)) (Y:=(fun g=>fun _=>True)) U eD9 U U (fun wx hm=>(cW9 x wx (hm.fact 0 U).1 (by omega)).mono fun _ _ ⟨v,he,h1,hg⟩=>⟨v,he,h1,hg,trivial⟩) (fun _=>Lasts2.true_) ?_
  rintro v hv
  refine bP U (bB (cP U U) U (bB (cP U U) U (bX U (bX U (bQ (bH (bR (bP U (bB (cE U) U (bQ ?_))))))))))
  refine dC U (fun hh=>?_) (fun hh=>?_)
  ·have hnb:(bG4 x)=false:=by simpa using hh
   refine bR (bB (dJ (cs:= [.string ⟨#[]⟩,.slice none 0 0,.slice none 0 0]) U (by kernel_rfl)) U (kE (cs':= [.string ⟨#[]⟩,.slice none 0 0,.slice none 0 0]) 2 rP U U U U (bX U (bQ (bM (bA (bC (bA (bA (bC (bA ?_)))))))))))
   have htn:qR ln=none:=pM fun ⟨_,_,_,q4⟩=>by
    rw [hfmF] at q4
    have q5:=dS8 (i:=i+1) (by omega) q4
    unfold nOk at q5
    rw [hxA,decide_eq_false h9] at q5
    simp_all
   refine eQ 2 U rP U U U U fun wx hm=>?_
   exact ⟨⟨#[]⟩,none,0,0,none,0,0,false, [], [],U,⟨(fun h=>by cases h),fun _=>htn⟩,⟨SlT.nil_ _ _,SlT.nil_ _ _⟩,⟨(fun _ h=>by cases h),(fun _ h=>by cases h)⟩,hm.g⟩
  have hnb:(bG4 x)=true:=by simpa using hh
  refine bN (bD (bI ?_))
  have hnb1:bG4 x=true:=by simpa using hnb
  have hvb:=dV8 hnb1
  rw [<-hv hnb1] at hvb
  refine dY nI U U (eJ kZ 0 U U U (bP U (jE 3 [.int .i64 v] fun g7=>eB (news:= [.int .i64 v]) 1 0 bV1 U U U U U U U (by omega) (by unfold maxLen;omega) U U fun nv2 hnv=>?_)))
  refine dV (R:=∃A cc,nv2= .slice A (nn+1) cc) (fun wx hm=>dR (hm.ownI 1 U)) ?_
  rintro ⟨nA,nc,rfl⟩
  refine dY nI U U (jH 1 kZ U U U U U U (bE (bG (bD (bI (gO U U (bP U (bE ?_))))))))
  exact cN (i+1,nt,nn+1,tv,(Value.slice nA (nn+1) nc),tl,nl++ [v],tl.flatMap fH,nl.flatMap kN++([.int .i64 v]:List Value)) ⟨⟨by dsimp only;omega,htl,by simp [hnl],rfl,by simp [kN]⟩,⟨by dsimp only;omega,by dsimp only;omega⟩,⟨by dsimp only [tW];rw [if_neg h9];exact htW,by dsimp only [nW];rw [if_neg h9,hxA,hnW,hv hnb1],by dsimp only [nOk];rw [decide_eq_false h9,hnO,hxA,hnb1];rfl⟩,htz,eJ7 hnz hvb⟩ (by dsimp only;omega) ⟨U,U,U,U,U,(cR (by dsimp only;omega)),trivial⟩ (fun _ hm=>hm.pick [1,2,3] [0,1] [1,2] U U)
 refine dD (bF (bF (bY (bD (bR ?_)))))
 have hie:i=fm.size:=by omega
 refine dV (R:=∃A cc,tv= .slice A nt cc) (fun wx hm=>dR (hm.ownI 0 U)) ?_
 rintro ⟨tA,tc,rfl⟩
 refine dV (R:=∃A cc,nv= .slice A nn cc) (fun wx hm=>dR (hm.ownI 1 U)) ?_
 rintro ⟨nA,nc,rfl⟩
 refine bB (cU rP U (fun _ hm=>hm.blkI 0 U) U U) U (kE (cs':= [.string w0,.slice tA nt tc,.slice nA nn nc]) 2 rP U U U U (bX U (bQ (bM ?_))))
 have hie:i=fm.size:=by omega
 have htS:qR ln=some (w0,tl,nl):=by
  unfold qR
  rw [hw0F,hfmF]
  refine (xZ ⟨by simp_all,by rw [<-hisb];exact hisb1,by rw [hwl];exact hnf,by rw [<-hie];exact hnO⟩).trans ?_
  rw [<-hie,htW,hnW]
 refine eQ 2 U rP U U U U fun wx hm=>?_
 exact ⟨w0,tA,nt,tc,nA,nn,nc,true,tl,nl,U,⟨fun _=>⟨⟨fm,by rw [hff];exact hf0,by rw [hct,hie],by omega⟩,htS⟩,fun h=>by cases h⟩,⟨SlT.ofOwn yR (hm.ownI 0 U) htl,SlT.ofOwn (fun _=>U) (hm.ownI 1 U) hnl⟩,⟨htz,hnz⟩,hm.g⟩
end Go.Proofs.YtmifpfcmldflkaaGreatDoor
