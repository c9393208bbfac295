/- Several texts as one: Mk Ty Hd He Hf Hg Hh Xho Pv Rt Fm Dka Dkk Shx Nm Txt Bt Ifc Sv Rs Rn Sz Wn Xb Xc Aw Dkb Dkn Dkz Dkt -/
import Derived.Test.YtmifpfcmldflkaaGreatDoorR4a
import Derived.Laws.StructEq
import Derived.Test.YtmifpfcmldflkaaGreatDoorProg
import Derived.Deep.RegionHeld3
import Derived.Laws.ResultCell
import Derived.Ground.NamesProg
import Derived.Shelf.Strings.Cut
import Derived.Shelf.Strings.Split
import Derived.Shelf.Strings.Prefix
import Derived.Shelf.Strings.OnBuilder
import Derived.Shelf.Strings.Builder1
import Derived.Shelf.Strconv.Itoa3
import Derived.Shelf.Strconv.AtoiAll
import Derived.Shelf.Strconv.ErrVarAll
import Derived.Lib.ItoaNum
import Derived.Lib.AtoiAll
import Derived.Lib.Strings
import Derived.Laws.BitsLemmas
import Derived.Laws.Shifts
import Derived.Laws.Build
import Derived.Laws.Slices
import Derived.Laws.Strings
import Derived.Laws.Runes
import Derived.Laws.Concat
import Derived.Laws.AppendOwnNone
set_option maxRecDepth 100000
set_option maxHeartbeats 4000000
namespace Go.Proofs.YtmifpfcmldflkaaGreatDoor
open Tryz
open Go.RowKit Go.MapKept
open Go.ChangeMaps (setBlock)
structure bP8 (P:Program) (k:TypeId) {κ:Type} (ek:κ->Value):Prop where
 inj:∀{a b:κ},ek a=ek b->a=b
 chk:∀(em:Bool) (a:κ) (w:World),(Instr.checkKey em 10000 k (ek a)).run P w= .ok () w
 find:∀(a:κ) (es:List MapEntry) (w:World),(∀x∈es,∃b,x.key=ek b)->((Instr.findKey k (ek a) es).run P w= .ok none w/\∀x∈es,x.key≠ek a)∨∃j e,(Instr.findKey k (ek a) es).run P w= .ok (some (j,e.val)) w/\es[j]?=some e/\e.key=ek a
 stay:∀(a:κ) (w:World),(Instr.keyThatStays (ek a) (ek a)).run P w= .ok (ek a) w
theorem zI {P:Program} {k:TypeId} {κ:Type} {ek:κ->Value} {eqb:κ->κ->Bool} (heq:∀a b w,(Op.equal k (ek a) (ek b)).run P w= .ok (eqb a b) w) (hb:∀a b,eqb a b=true↔a=b) (inj:∀{a b:κ},ek a=ek b->a=b) (a:κ) (w:World):∀(es:List MapEntry) (i:Nat),(∀x∈es,∃b,x.key=ek b)->
 ((Instr.findAsking k (ek a) es i).run P w= .ok none w/\∀x∈es,x.key≠ek a)∨∃j e,(Instr.findAsking k (ek a) es i).run P w= .ok (some (i+j,e.val)) w/\es[j]?=some e/\e.key=ek a
 | [],i,_=> .inl ⟨by simp [Instr.findAsking],by simp⟩
 |e::es,i,h=>by
  obtain ⟨b,hbk⟩:=h e (.head _)
  have hq:=heq a b w
  cases hr:eqb a b with
  |true=>
   refine .inr ⟨0,e,?_,U,by rw [hbk,(hb a b).1 hr]⟩
   simp [Instr.findAsking,hbk,hq,hr,Result.andThen]
  |false=>
   have hne:e.key≠ek a:=fun q=>by
    have h3:=inj (hbk.symm.trans q)
    rw [(hb a b).2 h3.symm] at hr;cases hr
   rcases zI heq hb inj a w es (i+1) (fun x hx=>h x (.tail _ hx)) with ⟨h1,h2⟩|⟨j,e',h1,h2,h3⟩
   ·refine .inl ⟨by simp [Instr.findAsking,hbk,hq,hr,h1,Result.andThen],fun x hx=>?_⟩
    rcases List.mem_cons.1 hx with rfl|hx
    ·exact hne
    ·exact h2 x hx
   ·exact .inr ⟨j+1,e',by simp [Instr.findAsking,hbk,hq,hr,h1,Result.andThen];omega,by simpa using h2,h3⟩
theorem cE0 {P:Program} {k:TypeId} {fs:Array Field} (hu:P.underlying k=some (.struct fs)) (v:Value) (es:List MapEntry) (w:World):(Instr.findKey k v es).run P w=(Instr.findAsking k v es 0).run P w:=by
 cases es with
 |nil=>simp [Instr.findKey,run_underlying hu,Instr.findNow,Instr.findAsking]
 |cons e es=>simp [Instr.findKey,run_underlying hu,Instr.findNow,Instr.sameNow]
theorem bE8 {P:Program} {k:TypeId} {fs:Array Field} {κ:Type} {ek:κ->Value} {eqb:κ->κ->Bool} (hu:P.underlying k=some (.struct fs)) (heq:∀a b w,(Op.equal k (ek a) (ek b)).run P w= .ok (eqb a b) w) (hb:∀a b,eqb a b=true↔a=b) (inj:∀{a b:κ},ek a=ek b->a=b)
 (chk:∀(em:Bool) (a:κ) (w:World),(Instr.checkKey em 10000 k (ek a)).run P w= .ok () w) (hs:∀a,Instr.sameBits 10000 (ek a) (ek a)=true):bP8 P k ek:=
 ⟨inj,chk,fun a es w h=>by
  rw [cE0 hu]
  rcases zI heq hb inj a w es 0 h with h1|⟨j,e,h1,h2,h3⟩
  ·exact .inl h1
  ·exact .inr ⟨j,e,by simpa using h1,h2,h3⟩,fun a w=>by simp [Instr.keyThatStays,hs a]⟩
theorem dS9 {P:Program} {k:TypeId} (hk:cO1 P k=true):bP8 P k (fun s:ByteArray=>Value.string s):=
 ⟨fun h=>by injection h,fun em a w=>xJ hk em a w,fun a es w h=>by
  have hk2:∀x∈es,IsKey .string x.key:=fun x hx=>by
   obtain ⟨b,hb⟩:=h x hx
   rw [hb];trivial
  rcases findNow_spec (show IsKey .string (.string a) from trivial) es 0 hk2 with ⟨h1,h2⟩|⟨j,e,h1,h2,h3⟩
  ·exact .inl ⟨xM hk h1 w,h2⟩
  ·exact .inr ⟨j,e,by rw [xM hk h1 w,Nat.zero_add],h2,h3⟩,fun a w=>run_keyThatStays (show IsKey .string (.string a) from trivial)⟩
section
variable {κ α:Type}
open Classical in
noncomputable def fP (f:κ->Option α) (k:κ) (x:α):κ->Option α:=fun j=>if j=k then some x else f j
open Classical in
noncomputable def yL (f:κ->Option α) (k:κ):κ->Option α:=fun j=>if j=k then none else f j
def mZ:κ->Option α:=fun _=>none
theorem hU (f:κ->Option α) (k:κ) (x:α):fP f k x k=some x:=by unfold fP;rw [if_pos rfl]
theorem dB (f:κ->Option α) {k j:κ} (x:α) (h:j≠k):fP f k x j=f j:=by unfold fP;rw [if_neg h]
theorem bW1 (f:κ->Option α) (k:κ):yL f k k=none:=by unfold yL;rw [if_pos rfl]
theorem yM (f:κ->Option α) {k j:κ} (h:j≠k):yL f k j=f j:=by unfold yL;rw [if_neg h]
def jW (enc:α->Value) (ek:κ->Value) (f:κ->Option α) (es:Array MapEntry) (ck:Nat):Prop:=
 Stamped es ck/\(∀x∈es.toList,∃b,x.key=ek b)/\∀k v,(∃e∈es.toList,e.key=ek k/\e.val=v)↔∃x,f k=some x/\v=enc x
def bV (enc:α->Value) (ek:κ->Value) (N g:Nat) (f:κ->Option α) (w:World):Prop:=
 N<=g/\∃es ck,w.heap[g]?=some (.map es ck)/\jW enc ek f es ck
theorem bV.lt {enc:α->Value} {ek:κ->Value} {N g:Nat} {f:κ->Option α} {w:World} (h:bV enc ek N g f w):g < w.heap.size:=by
 obtain ⟨_,es,ck,hb,_⟩:=h
 exact (Array.getElem?_eq_some_iff.1 hb).1
theorem bV.kept {enc:α->Value} {ek:κ->Value} {N g:Nat} {f:κ->Option α} {w w':World} {row:Option Nat} (h:bV enc ek N g f w) (hg:w.grownBy w' row) (hne:some g≠row):bV enc ek N g f w':=by
 have hlt:=h.lt
 obtain ⟨h0,es,ck,hb,he⟩:=h
 exact ⟨h0,es,ck,(hg.block g hlt hne).trans hb,he⟩
theorem bV.lower {enc:α->Value} {ek:κ->Value} {N M g:Nat} {f:κ->Option α} {w:World} (h:bV enc ek N g f w) (hM:M<=N):bV enc ek M g f w:=⟨Nat.le_trans hM h.1,h.2⟩
theorem bV.lasts2 {enc:α->Value} {ek:κ->Value} {N M:Nat} {row:Option Nat} {Tt:List TypeId} {g:Nat} {f:κ->Option α}:Lasts2 N row Tt (bV enc ek M g f):=
 ⟨fun w w' h hx=>hx.kept h (by simp),
  fun w w' r T c h1 _ _ h3 hx=>hx.kept h3 (fun e=>by
   have e2:g=r:=by injection e
   subst e2
   obtain ⟨_,es,ck,hb,_⟩:=hx
   rw [h1] at hb;cases hb)⟩
theorem bV.far {enc:α->Value} {ek:κ->Value} {N M g g1:Nat} {f:κ->Option α} (hne:g1≠g):∀w w':World,N<=g->w.grownBy w' (some g)->bV enc ek M g1 f w->bV enc ek M g1 f w':=
 fun _ _ _ hg h=>h.kept hg (fun e=>hne (by injection e))
end
section
variable {κ α:Type} {enc:α->Value} {ek:κ->Value} {f:κ->Option α} {es:Array MapEntry} {ck:Nat} {P:Program} {kt:TypeId}
theorem jW.nil:jW enc ek (mZ:κ->Option α) #[] 0:=⟨stamped_empty 0,by simp,fun k v=>by simp [mZ]⟩
theorem jW.find (h:jW enc ek f es ck) (hK:bP8 P kt ek) (k:κ) (w:World):((Instr.findKey kt (ek k) es.toList).run P w= .ok none w/\f k=none/\∀x∈es.toList,x.key≠ek k)∨∃j e x,(Instr.findKey kt (ek k) es.toList).run P w= .ok (some (j,e.val)) w/\es[j]?=some e/\e.key=ek k/\f k=some x/\e.val=enc x:=by
 rcases hK.find k es.toList w h.2.1 with ⟨h1,h2⟩|⟨j,e,h1,h2,h3⟩
 ·left
  refine ⟨h1,?_,h2⟩
  cases hf:f k with
  |none=>rfl
  |some x=>
   obtain ⟨e,he,hek,_⟩:=(h.2.2 k (enc x)).2 ⟨x,hf,rfl⟩
   exact absurd hek (h2 e he)
 ·right
  obtain ⟨x,hx,hv⟩:=(h.2.2 k e.val).1 ⟨e,fK5 h2,h3,rfl⟩
  exact ⟨j,e,x,h1,by simpa using h2,h3,hx,hv⟩
theorem jW.push (h:jW enc ek f es ck) (hK:∀{a b:κ},ek a=ek b->a=b) {k:κ} (x:α) (hn:∀y∈es.toList,y.key≠ek k):jW enc ek (fP f k x) (es.push ⟨ek k,enc x,ck⟩) (ck+1):=by
 refine ⟨stamped_push h.1 hn,fun y hy=>?_,fun j v=>?_⟩
 ·simp only [Array.toList_push,List.mem_append,List.mem_singleton] at hy
  rcases hy with hy|rfl
  ·exact h.2.1 y hy
  ·exact ⟨k,U⟩
 ·simp only [Array.toList_push,List.mem_append,List.mem_singleton]
  by_cases hj:j=k
  ·subst hj
   rw [hU]
   constructor
   ·rintro ⟨e,he|rfl,h1,h2⟩
    ·exact absurd h1 (hn e he)
    ·exact ⟨x,U,h2.symm⟩
   ·rintro ⟨y,hy,rfl⟩
    cases hy
    exact ⟨_,.inr U,U,U⟩
  ·rw [dB _ _ hj,<-h.2.2 j v]
   constructor
   ·rintro ⟨e,he|rfl,h1,h2⟩
    ·exact ⟨e,he,h1,h2⟩
    ·exact absurd (hK h1).symm hj
   ·rintro ⟨e,he,h1,h2⟩
    exact ⟨e,.inl he,h1,h2⟩
theorem jW.modify (h:jW enc ek f es ck) (hK:∀{a b:κ},ek a=ek b->a=b) {k:κ} (x:α) {j:Nat} {e:MapEntry} (he:es[j]?=some e) (hk:e.key=ek k):jW enc ek (fP f k x) (es.modify j fun e=>{ e with key:=ek k,val:=enc x }) ck:=by
 have hkey:∀e',es[j]?=some e'->({ e' with key:=ek k,val:=enc x }:MapEntry).key=e'.key:=fun e' he'=>by rw [he] at he';cases he';exact hk.symm
 have hat:∀q,(es.modify j fun e=>{ e with key:=ek k,val:=enc x })[q]?=if j=q then (es[q]?).map (fun e=>{ e with key:=ek k,val:=enc x }) else es[q]?:=fun q=>by rw [Array.getElem?_modify]
 have uW:∀y,y∈(es.modify j fun e=>{ e with key:=ek k,val:=enc x }).toList↔∃q,(es.modify j fun e=>{ e with key:=ek k,val:=enc x })[q]?=some y:=fun y=>
  ⟨fun hy=>cU0 hy,fun ⟨q,hq⟩=>by
   have:(es.modify j fun e=>{ e with key:=ek k,val:=enc x }).toList[q]?=some y:=by rw [Array.getElem?_toList];exact hq
   exact fK5 this⟩
 refine ⟨stamped_modify h.1 _ _ (fun _ _=>U) (fun e' _ he'=>hkey e' he'),fun y hy=>?_,fun i v=>?_⟩
 ·obtain ⟨q,hq⟩:=(uW y).1 hy
  rw [hat] at hq
  split at hq
  ·rename_i hjq
   subst hjq
   rw [he] at hq
   cases hq
   exact ⟨k,U⟩
  ·exact h.2.1 y (fK5 (i:=q) (by simpa using hq))
 by_cases hi:i=k
 ·subst hi
  rw [hU]
  constructor
  ·rintro ⟨y,hy,h1,h2⟩
   obtain ⟨q,hq⟩:=(uW y).1 hy
   rw [hat] at hq
   split at hq
   ·rename_i hjq
    subst hjq
    rw [he] at hq
    cases hq
    exact ⟨x,U,h2.symm⟩
   ·rename_i hjq
    exact absurd (cX0 h.1.2.2 he hq (hk.trans h1.symm)) hjq
  ·rintro ⟨y,hy,rfl⟩
   cases hy
   exact ⟨{ e with key:=ek i,val:=enc x },(uW _).2 ⟨j,by rw [hat,if_pos rfl,he];rfl⟩,U,U⟩
 ·rw [dB _ _ hi,<-h.2.2 i v]
  constructor
  ·rintro ⟨y,hy,h1,h2⟩
   obtain ⟨q,hq⟩:=(uW y).1 hy
   rw [hat] at hq
   split at hq
   ·rename_i hjq
    subst hjq
    rw [he] at hq
    cases hq
    exact absurd (hK h1).symm hi
   ·exact ⟨y,fK5 (i:=q) (by simpa using hq),h1,h2⟩
  ·rintro ⟨y,hy,h1,h2⟩
   obtain ⟨q,hq⟩:=cU0 hy
   refine ⟨y,(uW y).2 ⟨q,?_⟩,h1,h2⟩
   rw [hat,if_neg (fun e2=>?_),hq]
   subst e2
   rw [he] at hq
   cases hq
   rw [hk] at h1
   exact hi (hK h1).symm
theorem jW.erase (h:jW enc ek f es ck) (hK:∀{a b:κ},ek a=ek b->a=b) {k:κ} {j:Nat} {e:MapEntry} (he:es[j]?=some e) (hk:e.key=ek k):jW enc ek (yL f k) (es.eraseIdxIfInBounds j) ck:=by
 have hjlt:j < es.size:=(Array.getElem?_eq_some_iff.1 he).1
 have hl:(es.eraseIdxIfInBounds j).toList=es.toList.eraseIdx j:=by
  unfold Array.eraseIdxIfInBounds
  rw [dif_pos hjlt,Array.toList_eraseIdx]
 have uW:∀y,y∈(es.eraseIdxIfInBounds j).toList↔∃q,q≠j/\es[q]?=some y:=fun y=>by
  rw [hl,List.mem_eraseIdx_iff_getElem?]
  simp
 have hsub:∀x∈(es.eraseIdxIfInBounds j).toList,x∈es.toList:=fun x hx=>by
  rw [hl] at hx
  exact (List.eraseIdx_sublist _ _).subset hx
 refine ⟨stamped_erase h.1 _,fun x hx=>h.2.1 x (hsub x hx),fun i v=>?_⟩
 by_cases hi:i=k
 ·subst hi
  rw [bW1]
  constructor
  ·rintro ⟨y,hy,h1,h2⟩
   obtain ⟨q,hq,hy2⟩:=(uW y).1 hy
   exact absurd (cX0 h.1.2.2 hy2 he (h1.trans hk.symm)) hq
  ·rintro ⟨y,hy,_⟩
   cases hy
 ·rw [yM _ hi,<-h.2.2 i v]
  constructor
  ·rintro ⟨y,hy,h1,h2⟩
   exact ⟨y,hsub y hy,h1,h2⟩
  ·rintro ⟨y,hy,h1,h2⟩
   obtain ⟨q,hq⟩:=cU0 hy
   refine ⟨y,(uW y).2 ⟨q,fun e2=>?_,hq⟩,h1,h2⟩
   subst e2
   rw [he] at hq
   cases hq
   rw [hk] at h1
   exact hi (hK h1).symm
theorem jW.same (h:jW enc ek f es ck) {k:κ} (hn:f k=none):jW enc ek (yL f k) es ck:=by
 have e:yL f k=f:=by
  funext j
  by_cases hj:j=k
  ·subst hj;rw [bW1,hn]
  ·rw [yM _ hj]
 rw [e];exact h
end
def bN9 (N g:Nat) (A:World->Prop):Prop:=∀w w':World,N<=g->(∃es ck,w.heap[g]?=some (.map es ck))->w.grownBy w' (some g)->A w->A w'
def bL3 (A:World->Prop):Prop:=∀N g,bN9 N g A
theorem SlT.mfar {α:Type} {enc:α->List Value} {k:Nat} {T:TypeId} {A:Option Addr} {n:Nat} {l:List α}:bL3 (fun w=>SlT enc k T w A n l):=fun N g w w' _ ⟨es,ck,hb⟩ hg h=>by
 refine ⟨h.len,fun hn=>?_⟩
 obtain ⟨b,off,cells,fz,e,hh,hr⟩:=h.at_ hn
 exact ⟨b,off,cells,fz,e,(hg.block b (Array.getElem?_eq_some_iff.1 hh).1 (fun e2=>by
  have e3:b=g:=by injection e2
  subst e3
  rw [hb] at hh;cases hh)).trans hh,hr⟩
theorem bU.mfar {α:Type} {enc:α->List Value} {k N0:Nat} {T:TypeId} {row:Option Nat} {A:Option Addr} {n:Nat} {l:List α}:bL3 (bU enc k T N0 row A n l):=fun N g w w' h1 h2 h3 ⟨h4,h5⟩=>⟨SlT.mfar N g w w' h1 h2 h3 h4,h5⟩
theorem bL3.far {A:World->Prop} (h:bL3 A) {N g:Nat}:bN9 N g A:=h N g
theorem bV.farK {κ α:Type} {enc:α->Value} {ek:κ->Value} {N M g g1:Nat} {f:κ->Option α} (hne:g1≠g):bN9 N g (bV enc ek M g1 f):=fun w w' h1 _ h3 h4=>bV.far hne w w' h1 h3 h4
theorem fZ {N g:Nat} {X:List (World->Prop)}:∀A∈([]:List (World->Prop)),bN9 N g A/\A∈X:=fun _ h=>by cases h
theorem cP {N g:Nat} {X X':List (World->Prop)} {A:World->Prop} {i:Nat} (h:bN9 N g A) (hi:X[i]?=some A) (ht:∀B∈X',bN9 N g B/\B∈X):∀B∈A::X',bN9 N g B/\B∈X:=fun B hB=>by
 rcases List.mem_cons.1 hB with rfl|hB
 ·exact ⟨h,fK5 hi⟩
 ·exact ht B hB
theorem cE3 {N g:Nat} {X X1:List (World->Prop)} (n:Nat) (hd:X.drop n=X1) (h:∀A∈X1,bL3 A):∀B∈X1,bN9 N g B/\B∈X:=fun B hB=>⟨h B hB N g,List.mem_of_mem_drop (by rw [hd];exact hB)⟩
def uH (g n:Nat) (w:World):Prop:=∃es ck,w.heap[g]?=some (.map es ck)/\es.size=n
theorem uH.lasts2 {N:Nat} {row:Option Nat} {Tt:List TypeId} {g n:Nat}:Lasts2 N row Tt (uH g n):=
 ⟨fun w w' h ⟨es,ck,hx,hn⟩=>⟨es,ck,(h.block g (Array.getElem?_eq_some_iff.1 hx).1 (by simp)).trans hx,hn⟩,
  fun w w' r T c h1 _ _ h3 ⟨es,ck,hx,hn⟩=>⟨es,ck,(h3.block g (Array.getElem?_eq_some_iff.1 hx).1 (fun e=>by
   have e2:g=r:=by injection e
   subst e2
   rw [h1] at hx;cases hx)).trans hx,hn⟩⟩
section
variable {P:Program} {c:Cx} {eU:Array Oper} {Q:Exit->Act->World->Prop} {rest:List Oper} {S:List (Nat×Value)} {K:World->Prop} {L:List (Nat×TypeId×List Value)} {O:List Own} {X X':List (World->Prop)} {Z:World->Prop} {nn:Nat}
variable {d:Nat} {ty:TypeId} {pos:String} {aft:Array Edge} {κ α:Type} {enc:α->Value} {ek:κ->Value} {f:κ->Option α}
theorem kV {t k e:TypeId} {x y:Operand} {N g:Nat} {s:κ} (z:α) (hK:bP8 P k ek) (ht:bZ0 P t=some (k,e)) (hzz:(P.info? e).bind (·.zero)=some (enc z)) (hx:rd S x=some (.map (some g))) (hy:rd S y=some (ek s)) (hm:∀w,Z w->bV enc ek N g f w):
 OV P nn S Z ⟨some d,.lookup t x y false,ty,pos,aft,none⟩ (enc ((f s).getD z)):=fun a w ha hz=>by
 obtain ⟨_,es,ck,hb,he⟩:=hm w hz
 have hzero:(zeroValue e).run P w= .ok (enc z) w:=by
  cases hi:P.info? e with
  |none=>simp [hi] at hzz
  |some inf=>simp [zeroValue,typeInfo,hi,(by simpa [hi] using hzz:inf.zero=some (enc z))]
 rcases he.find hK s w with ⟨hf,hn,_⟩|⟨j,en,xv,hf,_,_,hn,hv⟩
 ·simp [execOp,ha.eval hx,ha.eval hy,Instr.lookup,run_underlying (nL ht),MapKept.run_getObj_map hb,hK.chk,hf,hzero,hn,Result.andThen]
 ·simp [execOp,ha.eval hx,ha.eval hy,Instr.lookup,run_underlying (nL ht),MapKept.run_getObj_map hb,hK.chk,hf,hn,hv,Result.andThen]
theorem gW {t k e:TypeId} {x y:Operand} {N g:Nat} {s:κ} (z:α) (hK:bP8 P k ek) (ht:bZ0 P t=some (k,e)) (hzz:(P.info? e).bind (·.zero)=some (enc z)) (hx:rd S x=some (.map (some g))) (hy:rd S y=some (ek s)) (hm:∀w,Z w->bV enc ek N g f w):
 OV P nn S Z ⟨some d,.lookup t x y true,ty,pos,aft,none⟩ (.tuple #[enc ((f s).getD z),.bool (f s).isSome]):=fun a w ha hz=>by
 obtain ⟨_,es,ck,hb,he⟩:=hm w hz
 have hzero:(zeroValue e).run P w= .ok (enc z) w:=by
  cases hi:P.info? e with
  |none=>simp [hi] at hzz
  |some inf=>simp [zeroValue,typeInfo,hi,(by simpa [hi] using hzz:inf.zero=some (enc z))]
 rcases he.find hK s w with ⟨hf,hn,_⟩|⟨j,en,xv,hf,_,_,hn,hv⟩
 ·simp [execOp,ha.eval hx,ha.eval hy,Instr.lookup,run_underlying (nL ht),MapKept.run_getObj_map hb,hK.chk,hf,hzero,hn,Result.andThen]
 ·simp [execOp,ha.eval hx,ha.eval hy,Instr.lookup,run_underlying (nL ht),MapKept.run_getObj_map hb,hK.chk,hf,hn,hv,Result.andThen]
theorem kX {t:TypeId} (R:Nat->Prop) (hR:∀w,gM c K L O X w->R w.heap.size) (hd:Nat.ble (d+1) c.n=true) (h:∀g,R g->WL P c eU Q rest ((d,.map (some g))::S) K L O (bV enc ek c.w0.heap.size g mZ::X)):WL P c eU Q (⟨some d,.makeMap t none,ty,pos,aft,none⟩::rest) S K L O X:=by
 intro a w ha hm
 refine wpList_plain U fun K' hK=>?_
 unfold Oper.wp
 have:(execOp a.eval ⟨some d,.makeMap t none,ty,pos,aft,none⟩).run P w= .ok (.value (.map (some w.heap.size))) (w.alloc (.map #[] 0)):=by
  simp [execOp,Instr.makeMap]
 rw [this]
 exact hK _ _ (h _ (hR w hm) _ _ (ha.put hd _) ((hm.grow (grow_alloc (World.grownBy.refl w none) _)).also bV.lasts2 ⟨hm.g.size,_,_,(MapKept.heap_alloc w _).1,jW.nil⟩))
theorem kO {t k e:TypeId} {x y z:Operand} {g:Nat} {s:κ} {v:α} (i:Nat) (hK:bP8 P k ek) (ht:bZ0 P t=some (k,e)) (hx:rd S x=some (.map (some g))) (hy:rd S y=some (ek s)) (hz:rd S z=some (enc v)) (hi:X[i]?=some (bV enc ek c.w0.heap.size g f))
 (hX:∀A∈X',bN9 c.w0.heap.size g A/\A∈X)
 (h:WL P c eU Q rest S K L O (bV enc ek c.w0.heap.size g (fP f s v)::X')):WL P c eU Q (⟨none,.mapUpdate t x y z,ty,pos,aft,none⟩::rest) S K L O X:=by
 intro a w ha hm
 refine wpList_plain U fun K' hK'=>?_
 obtain ⟨hg,es,ck,hb,he⟩:=hm.fact i hi
 have bQ0:∀es' ck',jW enc ek (fP f s v) es' ck'->gM c K L O (bV enc ek c.w0.heap.size g (fP f s v)::X') (setBlock w g (.map es' ck')):=fun es' ck' he'=>hm.mapped hg hb fun A hA=>by
  rcases List.mem_cons.1 hA with rfl|hA
  ·exact ⟨⟨hg,_,_,ChangeMaps.heap_setBlock_same hb _,he'⟩,bV.lasts2⟩
  ·exact ⟨(hX A hA).1 _ _ hg ⟨_,_,hb⟩ (bO0 hb) (hm.x A (hX A hA).2),hm.l A (hX A hA).2⟩
 unfold Oper.wp
 rcases he.find hK s w with ⟨hf,_,hn⟩|⟨j,en,xv,hf,hj,xN,_,_⟩
 ·have:(execOp a.eval ⟨none,.mapUpdate t x y z,ty,pos,aft,none⟩).run P w= .ok .skip (setBlock w g (.map (es.push ⟨ek s,enc v,ck⟩) (ck+1))):=by
   simp [execOp,ha.eval hx,ha.eval hy,ha.eval hz,Instr.mapUpdate,run_underlying (nL ht),MapKept.run_getObj_map hb,MapKept.run_setObj_map _ hb,hK.chk,hf,Result.andThen,setBlock]
  rw [this]
  exact hK' _ _ (h _ _ ha (bQ0 _ _ (he.push hK.inj v hn)))
 ·have:(execOp a.eval ⟨none,.mapUpdate t x y z,ty,pos,aft,none⟩).run P w= .ok .skip (setBlock w g (.map (es.modify j fun e=>{ e with key:=ek s,val:=enc v }) ck)):=by
   simp [execOp,ha.eval hx,ha.eval hy,ha.eval hz,Instr.mapUpdate,run_underlying (nL ht),MapKept.run_getObj_map hb,MapKept.run_setObj_map _ hb,hK.chk,hf,hj,xN,hK.stay,Result.andThen,setBlock]
  rw [this]
  exact hK' _ _ (h _ _ ha (bQ0 _ _ (he.modify hK.inj v hj xN)))
theorem jE {t k e:TypeId} {x y z:Operand} {g:Nat} {s:κ} {v:α} (i:Nat) (hK:bP8 P k ek) (ht:bZ0 P t=some (k,e)) (hx:rd S x=some (.map (some g))) (hy:rd S y=some (ek s)) (hz:rd S z=some (enc v)) (hi:X[i]?=some (bV enc ek c.w0.heap.size g f))
 (hX:∀A∈X',bN9 c.w0.heap.size g A/\A∈X)
 (h:WL P c eU Q rest S K L O (bV enc ek c.w0.heap.size g (fP f s v)::X')):WL P c eU Q (⟨none,.insert t x y z,ty,pos,aft,none⟩::rest) S K L O X:=by
 intro a w ha hm
 refine wpList_plain U fun K' hK'=>?_
 obtain ⟨hg,es,ck,hb,he⟩:=hm.fact i hi
 have bQ0:∀es' ck',jW enc ek (fP f s v) es' ck'->gM c K L O (bV enc ek c.w0.heap.size g (fP f s v)::X') (setBlock w g (.map es' ck')):=fun es' ck' he'=>hm.mapped hg hb fun A hA=>by
  rcases List.mem_cons.1 hA with rfl|hA
  ·exact ⟨⟨hg,_,_,ChangeMaps.heap_setBlock_same hb _,he'⟩,bV.lasts2⟩
  ·exact ⟨(hX A hA).1 _ _ hg ⟨_,_,hb⟩ (bO0 hb) (hm.x A (hX A hA).2),hm.l A (hX A hA).2⟩
 unfold Oper.wp
 rcases he.find hK s w with ⟨hf,_,hn⟩|⟨j,en,xv,hf,hj,xN,_,_⟩
 ·have:(execOp a.eval ⟨none,.insert t x y z,ty,pos,aft,none⟩).run P w= .ok .skip (setBlock w g (.map (es.push ⟨ek s,enc v,ck⟩) (ck+1))):=by
   simp [execOp,ha.eval hx,ha.eval hy,ha.eval hz,Instr.mapUpdate,run_underlying (nL ht),MapKept.run_getObj_map hb,MapKept.run_setObj_map _ hb,hK.chk,hf,Result.andThen,setBlock]
  rw [this]
  exact hK' _ _ (h _ _ ha (bQ0 _ _ (he.push hK.inj v hn)))
 ·have:(execOp a.eval ⟨none,.insert t x y z,ty,pos,aft,none⟩).run P w= .ok .skip (setBlock w g (.map (es.modify j fun e=>{ e with key:=ek s,val:=enc v }) ck)):=by
   simp [execOp,ha.eval hx,ha.eval hy,ha.eval hz,Instr.mapUpdate,run_underlying (nL ht),MapKept.run_getObj_map hb,MapKept.run_setObj_map _ hb,hK.chk,hf,hj,xN,hK.stay,Result.andThen,setBlock]
  rw [this]
  exact hK' _ _ (h _ _ ha (bQ0 _ _ (he.modify hK.inj v hj xN)))
theorem cV1 {t k e:TypeId} {x y:Operand} {g:Nat} {s:κ} {dst:Option Nat} (i:Nat) (hK:bP8 P k ek) (ht:bZ0 P t=some (k,e)) (hx:rd S x=some (.map (some g))) (hy:rd S y=some (ek s)) (hdst:dst=none) (hi:X[i]?=some (bV enc ek c.w0.heap.size g f))
 (hX:∀A∈X',bN9 c.w0.heap.size g A/\A∈X)
 (h:WL P c eU Q rest S K L O (bV enc ek c.w0.heap.size g (yL f s)::X')):WL P c eU Q (⟨dst,.call ⟨.builtin .delete,#[x,y],#[t,k]⟩,ty,pos,aft,none⟩::rest) S K L O X:=by
 subst hdst
 intro a w ha hm
 refine wpList_plain U fun K' hK'=>?_
 obtain ⟨hg,es,ck,hb,he⟩:=hm.fact i hi
 have bQ0:∀es' ck',jW enc ek (yL f s) es' ck'->gM c K L O (bV enc ek c.w0.heap.size g (yL f s)::X') (setBlock w g (.map es' ck')):=fun es' ck' he'=>hm.mapped hg hb fun A hA=>by
  rcases List.mem_cons.1 hA with rfl|hA
  ·exact ⟨⟨hg,_,_,ChangeMaps.heap_setBlock_same hb _,he'⟩,bV.lasts2⟩
  ·exact ⟨(hX A hA).1 _ _ hg ⟨_,_,hb⟩ (bO0 hb) (hm.x A (hX A hA).2),hm.l A (hX A hA).2⟩
 unfold Oper.wp
 rcases he.find hK s w with ⟨hf,hn0,_⟩|⟨j,en,xv,hf,hj,xN,_,_⟩
 ·have:(execOp a.eval ⟨none,.call ⟨.builtin .delete,#[x,y],#[t,k]⟩,ty,pos,aft,none⟩).run P w= .ok (.value (.tuple #[])) (setBlock w g (.map es ck)):=by
   simp [execOp,resolve,invoke,builtin,ha.eval hx,ha.eval hy,Builtin.delete_,run_underlying (nL ht),MapKept.run_getObj_map hb,MapKept.run_setObj_map _ hb,hK.chk,hf,Result.andThen,setBlock]
  rw [this]
  exact hK' _ _ (h _ _ ha (bQ0 _ _ (he.same hn0)))
 ·have:(execOp a.eval ⟨none,.call ⟨.builtin .delete,#[x,y],#[t,k]⟩,ty,pos,aft,none⟩).run P w= .ok (.value (.tuple #[])) (setBlock w g (.map (es.eraseIdxIfInBounds j) ck)):=by
   simp [execOp,resolve,invoke,builtin,ha.eval hx,ha.eval hy,Builtin.delete_,run_underlying (nL ht),MapKept.run_getObj_map hb,MapKept.run_setObj_map _ hb,hK.chk,hf,Result.andThen,setBlock]
  rw [this]
  exact hK' _ _ (h _ _ ha (bQ0 _ _ (he.erase hK.inj hj xN)))
theorem bZ1 {t k e:TypeId} {x:Operand} {g n:Nat} (ht:bZ0 P t=some (k,e)) (hx:rd S x=some (.map (some g))) (hm:∀w,Z w->uH g n w):OV P nn S Z ⟨some d,.call ⟨.builtin .len,#[x],#[t]⟩,ty,pos,aft,none⟩ (.int .i64 (n:Int)):=fun a w ha hz=>by
 obtain ⟨es,ck,hb,hn⟩:=hm w hz
 simp [execOp,resolve,invoke,builtin,ha.eval hx,Builtin.len_,run_underlying (nL ht),MapKept.run_getObj_map hb,goInt,hn,Result.andThen]
theorem zE {γ:Type} {l:List Oper} (Y:γ->World->Prop) (hY:∀w,gM c K L O X w->∃g,Y g w) (hl:∀g,Lasts2 c.w0.heap.size c.row c.Tt (Y g)) (h:∀g,WL P c eU Q l S K L O (Y g::X)):WL P c eU Q l S K L O X:=fun a w ha hm=>by
 obtain ⟨g,hg⟩:=hY w hm
 exact h g a w ha (hm.also (hl g) hg)
theorem cR5 {γ:Type} {code:Code} (Y:γ->World->Prop) (hY:∀w,gM c K L O X w->∃g,Y g w) (hl:∀g,Lasts2 c.w0.heap.size c.row c.Tt (Y g)) (h:∀g,Gw P c Q code S K L O (Y g::X)):Gw P c Q code S K L O X:=fun a w ha hm=>by
 obtain ⟨g,hg⟩:=hY w hm
 exact h g a w ha (hm.also (hl g) hg)
theorem gM.tailL {x:Nat×TypeId×List Value} {w:World} (h:gM c K (x::L) O X w):gM c K L O X w:=h.sub (List.sublist_cons_self ..)
end
theorem fF:gY prog 3=true:=by kernel_rfl
theorem fE:gY prog 9=true:=by kernel_rfl
theorem us9:prog.underlying 9=some .string:=by kernel_rfl
theorem mB:gY prog 22=true:=by kernel_rfl
theorem pE:kJ prog 22=some (3,1):=by kernel_rfl
theorem bO2:bI4 prog 22=some (3,1,8):=by kernel_rfl
theorem eX7:gY prog 26=true:=by kernel_rfl
theorem eO2:kJ prog 26=some (99,15):=by kernel_rfl
theorem eV3:gY prog 27=true:=by kernel_rfl
theorem bJ0:kJ prog 27=some (84,2):=by kernel_rfl
theorem bX2:gY prog 28=true:=by kernel_rfl
theorem bQ3:kJ prog 28=some (57,2):=by kernel_rfl
theorem eE2:bI4 prog 28=some (57,2,32):=by kernel_rfl
theorem fO2:gY prog 29=true:=by kernel_rfl
theorem fT1:kJ prog 29=some (293,3):=by kernel_rfl
theorem bP5:kR prog 31=some 4:=by kernel_rfl
theorem dE0:dF prog 31 0=some 0:=by kernel_rfl
theorem cM5:dF prog 31 1=some 1:=by kernel_rfl
theorem uK:dF prog 31 2=some 2:=by kernel_rfl
theorem dT8:dF prog 31 3=some 3:=by kernel_rfl
theorem fQ4:kP prog 31=some [.slice none 0 0,.slice none 0 0,.slice none 0 0,.slice none 0 0]:=by kernel_rfl
theorem fP2:gY prog 32=true:=by kernel_rfl
theorem bW8:kJ prog 32=some (219,7):=by kernel_rfl
theorem eA9:bI4 prog 32=some (219,7,64):=by kernel_rfl
theorem fQ2:gY prog 33=true:=by kernel_rfl
theorem cI2:kJ prog 33=some (254,4):=by kernel_rfl
theorem fR2:gY prog 34=true:=by kernel_rfl
theorem cB0:kJ prog 34=some (258,3):=by kernel_rfl
theorem eB9:bI4 prog 34=some (258,3,40):=by kernel_rfl
theorem fS2:gY prog 35=true:=by kernel_rfl
theorem cJ2:kJ prog 35=some (260,6):=by kernel_rfl
theorem fH3:bI4 prog 35=some (260,6,64):=by kernel_rfl
theorem fT2:gY prog 36=true:=by kernel_rfl
theorem bK0:kJ prog 36=some (263,4):=by kernel_rfl
theorem eF6:bI4 prog 36=some (263,4,56):=by kernel_rfl
theorem cR2:kR prog 38=some 5:=by kernel_rfl
theorem dU8:dF prog 38 0=some 0:=by kernel_rfl
theorem dV8:dF prog 38 1=some 1:=by kernel_rfl
theorem dW8:dF prog 38 2=some 2:=by kernel_rfl
theorem dX8:dF prog 38 3=some 3:=by kernel_rfl
theorem dY8:dF prog 38 4=some 4:=by kernel_rfl
theorem eL8:kP prog 38=some [.slice none 0 0,.slice none 0 0,.slice none 0 0,.slice none 0 0,.slice none 0 0]:=by kernel_rfl
theorem fP4:kR prog 40=some 7:=by kernel_rfl
theorem cS2:kR prog 42=some 16:=by kernel_rfl
theorem bP6:dF prog 42 0=some 0:=by kernel_rfl
theorem eV6:dF prog 42 1=some 4:=by kernel_rfl
theorem eW6:dF prog 42 2=some 9:=by kernel_rfl
theorem fV2:kP prog 42=some [.slice none 0 0,.slice none 0 0,.slice none 0 0,.slice none 0 0,.slice none 0 0,.slice none 0 0,.slice none 0 0,.slice none 0 0,.slice none 0 0,.int .i64 0,.int .i64 0,.int .i64 0,.int .i64 0,.int .i64 0,.int .i64 0,.int .i64 0]:=by kernel_rfl
theorem vC:kJ prog 44=some (171,4):=by kernel_rfl
theorem cB2:bI4 prog 44=some (171,4,48):=by kernel_rfl
theorem dJ6:gY prog 47=true:=by kernel_rfl
theorem kE:kJ prog 47=some (74,5):=by kernel_rfl
theorem eC9:bI4 prog 47=some (74,5,64):=by kernel_rfl
theorem eX0:gY prog 48=true:=by kernel_rfl
theorem fU1:kJ prog 51=some (64,5):=by kernel_rfl
theorem fI3:bI4 prog 51=some (64,5,72):=by kernel_rfl
theorem cH1:kR prog 55=some 2:=by kernel_rfl
theorem wT:dF prog 55 0=some 0:=by kernel_rfl
theorem yE:dF prog 55 1=some 1:=by kernel_rfl
theorem eM8:kP prog 55=some [.int .i64 0,.int .i64 0]:=by kernel_rfl
theorem bB9:kR prog 57=some 2:=by kernel_rfl
theorem wU:dF prog 57 0=some 0:=by kernel_rfl
theorem dF0:dF prog 57 1=some 1:=by kernel_rfl
theorem eR1:kP prog 57=some [.string ⟨#[]⟩,.string ⟨#[]⟩]:=by kernel_rfl
theorem cS8:kR prog 59=some 6:=by kernel_rfl
theorem bQ6:dF prog 59 0=some 0:=by kernel_rfl
theorem bR6:dF prog 59 1=some 1:=by kernel_rfl
theorem bS3:dF prog 59 2=some 2:=by kernel_rfl
theorem bS6:dF prog 59 3=some 3:=by kernel_rfl
theorem bT6:dF prog 59 4=some 4:=by kernel_rfl
theorem bU6:dF prog 59 5=some 5:=by kernel_rfl
theorem fW2:kP prog 59=some [.int .i64 0,.int .i64 0,.int .i64 0,.int .i64 0,.int .i64 0,.int .i64 0]:=by kernel_rfl
theorem cJ1:gY prog 62=true:=by kernel_rfl
theorem cK2:kJ prog 62=some (68,9):=by kernel_rfl
theorem fJ3:bI4 prog 62=some (68,9,96):=by kernel_rfl
theorem nT:kR prog 64=some 5:=by kernel_rfl
theorem eX6:dF prog 64 2=some 2:=by kernel_rfl
theorem vY:dF prog 64 3=some 4:=by kernel_rfl
theorem bA6:kP prog 64=some [.string ⟨#[]⟩,.string ⟨#[]⟩,.int .i64 0,.int .i64 0,.slice none 0 0]:=by kernel_rfl
theorem dM1:kR prog 66=some 4:=by kernel_rfl
theorem cN5:dF prog 66 0=some 0:=by kernel_rfl
theorem fX2:kP prog 66=some [.int .i64 0,.string ⟨#[]⟩,.int .i64 0,.int .i64 0]:=by kernel_rfl
theorem eV7:kR prog 68=some 9:=by kernel_rfl
theorem cO5:dF prog 68 0=some 0:=by kernel_rfl
theorem dZ8:dF prog 68 1=some 1:=by kernel_rfl
theorem dG0:dF prog 68 2=some 5:=by kernel_rfl
theorem fR4:kP prog 68=some [.string ⟨#[]⟩,.int .i64 0,.string ⟨#[]⟩,.int .i64 0,.int .i64 0,.int .i64 0,.string ⟨#[]⟩,.int .i64 0,.int .i64 0]:=by kernel_rfl
theorem fR:kR prog 74=some 5:=by kernel_rfl
theorem nE:dF prog 74 0=some 0:=by kernel_rfl
theorem rD:dF prog 74 1=some 1:=by kernel_rfl
theorem vD:dF prog 74 2=some 2:=by kernel_rfl
theorem cG0:dF prog 74 3=some 3:=by kernel_rfl
theorem uL:dF prog 74 4=some 4:=by kernel_rfl
theorem cW1:kP prog 74=some [.int .i64 0,.string ⟨#[]⟩,.string ⟨#[]⟩,.int .i64 0,.string ⟨#[]⟩]:=by kernel_rfl
theorem dZ4:kJ prog 79=some (146,6):=by kernel_rfl
theorem cT8:kR prog 84=some 2:=by kernel_rfl
theorem bM0:dF prog 84 0=some 0:=by kernel_rfl
theorem bN0:dF prog 84 1=some 1:=by kernel_rfl
theorem eN8:kP prog 84=some [.string ⟨#[]⟩,.string ⟨#[]⟩]:=by kernel_rfl
theorem eW7:kR prog 99=some 15:=by kernel_rfl
theorem dA9:dF prog 99 0=some 0:=by kernel_rfl
theorem fS4:kP prog 99=some [.string ⟨#[]⟩,.int .i64 0,.int .i64 0,.int .i64 0,.int .i64 0,.int .i64 0,.int .i64 0,.int .i64 0,.int .i64 0,.int .i64 0,.int .i64 0,.int .i64 0,.int .i64 0,.int .i64 0,.int .i64 0]:=by kernel_rfl
theorem qJ:gY prog 101=true:=by kernel_rfl
theorem jY:kJ prog 101=some (9,1):=by kernel_rfl
theorem dF7:bI4 prog 101=some (9,1,16):=by kernel_rfl
theorem dZ3:gY prog 110=true:=by kernel_rfl
theorem cI1:gY prog 111=true:=by kernel_rfl
theorem eV0:gY prog 112=true:=by kernel_rfl
theorem eW0:gY prog 113=true:=by kernel_rfl
theorem cX3:gY prog 114=true:=by kernel_rfl
theorem zN:gY prog 115=true:=by kernel_rfl
theorem eU5:gY prog 116=true:=by kernel_rfl
theorem eV5:gY prog 117=true:=by kernel_rfl
theorem eZ8:bI4 prog 117=some (226,2,16):=by kernel_rfl
theorem eU2:dF prog 119 0=some 0:=by kernel_rfl
theorem bF9:dF prog 119 1=some 16:=by kernel_rfl
theorem yB:dF prog 119 2=some 17:=by kernel_rfl
theorem cE5:dF prog 119 3=some 18:=by kernel_rfl
theorem bU4:dF prog 119 4=some 19:=by kernel_rfl
theorem cF5:dF prog 119 5=some 20:=by kernel_rfl
theorem bM1:dF prog 119 6=some 21:=by kernel_rfl
theorem qV:dF prog 119 7=some 22:=by kernel_rfl
theorem dY2:dF prog 119 8=some 23:=by kernel_rfl
theorem dZ2:dF prog 119 9=some 24:=by kernel_rfl
theorem eM:kR prog 138=some 3:=by kernel_rfl
theorem rV:dF prog 138 0=some 0:=by kernel_rfl
theorem eV2:dF prog 138 1=some 1:=by kernel_rfl
theorem dA3:dF prog 138 2=some 2:=by kernel_rfl
theorem cH4:kP prog 138=some [.int .i64 0,.string ⟨#[]⟩,.int .i64 0]:=by kernel_rfl
theorem bL8:kR prog 146=some 6:=by kernel_rfl
theorem bN1:dF prog 146 0=some 0:=by kernel_rfl
theorem dB3:dF prog 146 1=some 1:=by kernel_rfl
theorem uQ:dF prog 146 2=some 2:=by kernel_rfl
theorem dC3:dF prog 146 3=some 4:=by kernel_rfl
theorem dD3:dF prog 146 4=some 5:=by kernel_rfl
theorem dI4:kP prog 146=some [.string ⟨#[]⟩,.string ⟨#[]⟩,.int .i64 0,.int .i64 0,.int .i64 0,.int .i64 0]:=by kernel_rfl
theorem kM:kR prog 171=some 4:=by kernel_rfl
theorem mP:dF prog 171 0=some 0:=by kernel_rfl
theorem nZ:dF prog 171 1=some 1:=by kernel_rfl
theorem qE:dF prog 171 2=some 2:=by kernel_rfl
theorem qW:dF prog 171 3=some 3:=by kernel_rfl
theorem cI4:kP prog 171=some [.int .i64 0,.string ⟨#[]⟩,.int .i64 0,.string ⟨#[]⟩]:=by kernel_rfl
theorem cB3:kJ prog 181=some (48,1):=by kernel_rfl
theorem bI1:kR prog 219=some 7:=by kernel_rfl
theorem pB:dF prog 219 0=some 0:=by kernel_rfl
theorem qF:dF prog 219 1=some 1:=by kernel_rfl
theorem qX:dF prog 219 2=some 2:=by kernel_rfl
theorem cG5:dF prog 219 3=some 3:=by kernel_rfl
theorem bG9:dF prog 219 4=some 4:=by kernel_rfl
theorem cH5:dF prog 219 5=some 5:=by kernel_rfl
theorem cI5:dF prog 219 6=some 6:=by kernel_rfl
theorem cK9:kP prog 219=some [.string ⟨#[]⟩,.int .i64 0,.int .i64 0,.int .i64 0,.int .i64 0,.int .i64 0,.int .i64 0]:=by kernel_rfl
theorem cV3:kR prog 224=some 2:=by kernel_rfl
theorem eY5:kP prog 224=some [.string ⟨#[]⟩,.int .i64 0]:=by kernel_rfl
theorem cY3:gY prog 233=true:=by kernel_rfl
theorem cC3:kJ prog 234=some (233,1):=by kernel_rfl
theorem cR8:kR prog 254=some 4:=by kernel_rfl
theorem bO1:dF prog 254 0=some 0:=by kernel_rfl
theorem cJ5:dF prog 254 1=some 1:=by kernel_rfl
theorem cK5:dF prog 254 2=some 2:=by kernel_rfl
theorem cL5:dF prog 254 3=some 3:=by kernel_rfl
theorem eZ5:kP prog 254=some [.string ⟨#[]⟩,.int .i64 0,.int .i64 0,.int .i64 0]:=by kernel_rfl
theorem eT5:kR prog 255=some 2:=by kernel_rfl
theorem fU2:kP prog 255=some [.string ⟨#[]⟩,.string ⟨#[]⟩]:=by kernel_rfl
theorem eN5:kJ prog 256=some (255,2):=by kernel_rfl
theorem dX3:kR prog 258=some 3:=by kernel_rfl
theorem uR:dF prog 258 0=some 0:=by kernel_rfl
theorem wP:dF prog 258 1=some 1:=by kernel_rfl
theorem bV4:dF prog 258 2=some 2:=by kernel_rfl
theorem eA6:kP prog 258=some [.string ⟨#[]⟩,.string ⟨#[]⟩,.int .i64 0]:=by kernel_rfl
theorem dY3:kR prog 260=some 6:=by kernel_rfl
theorem vL:dF prog 260 0=some 0:=by kernel_rfl
theorem bP1:dF prog 260 1=some 1:=by kernel_rfl
theorem bQ1:dF prog 260 2=some 2:=by kernel_rfl
theorem qY:dF prog 260 3=some 3:=by kernel_rfl
theorem yC:dF prog 260 4=some 4:=by kernel_rfl
theorem yD:dF prog 260 5=some 5:=by kernel_rfl
theorem eB6:kP prog 260=some [.string ⟨#[]⟩,.string ⟨#[]⟩,.int .i64 0,.int .i64 0,.int .i64 0,.int .i64 0]:=by kernel_rfl
theorem zM:kR prog 263=some 4:=by kernel_rfl
theorem vM:dF prog 263 0=some 0:=by kernel_rfl
theorem bW4:dF prog 263 1=some 1:=by kernel_rfl
theorem kC:dF prog 263 2=some 2:=by kernel_rfl
theorem cL9:kP prog 263=some [.string ⟨#[]⟩,.int .i64 0,.slice none 0 0,.bool false]:=by kernel_rfl
theorem rY:kR prog 271=some 3:=by kernel_rfl
theorem mE:dF prog 271 0=some 0:=by kernel_rfl
theorem kL:dF prog 271 1=some 1:=by kernel_rfl
theorem nJ:dF prog 271 2=some 2:=by kernel_rfl
theorem cM9:kP prog 271=some [.string ⟨#[]⟩,.slice none 0 0,.slice none 0 0]:=by kernel_rfl
theorem cb6:cB prog 6=true:=by kernel_rfl
theorem cb7:cB prog 7=true:=by kernel_rfl
theorem cb8:cB prog 8=true:=by kernel_rfl
theorem cb9:cB prog 9=true:=by kernel_rfl
theorem fK3:cB prog 10=true:=by kernel_rfl
theorem fL3:cB prog 11=true:=by kernel_rfl
theorem fM3:cB prog 12=true:=by kernel_rfl
theorem fN3:cB prog 13=true:=by kernel_rfl
theorem fO3:cB prog 24=true:=by kernel_rfl
theorem rS:cB prog 25=true:=by kernel_rfl
theorem fP3:cB prog 26=true:=by kernel_rfl
theorem fQ3:cB prog 27=true:=by kernel_rfl
theorem fR3:cB prog 28=true:=by kernel_rfl
theorem fS3:cB prog 29=true:=by kernel_rfl
theorem bR9:cB prog 30=true:=by kernel_rfl
theorem fA1:cB prog 31=true:=by kernel_rfl
theorem fT3:cB prog 32=true:=by kernel_rfl
theorem fU3:cB prog 33=true:=by kernel_rfl
theorem wJ:cB prog 34=true:=by kernel_rfl
theorem qK:cB prog 35=true:=by kernel_rfl
theorem fB1:cB prog 36=true:=by kernel_rfl
theorem fV3:cB prog 37=true:=by kernel_rfl
theorem fW3:cB prog 38=true:=by kernel_rfl
theorem fX3:cB prog 39=true:=by kernel_rfl
theorem fC1:cB prog 41=true:=by kernel_rfl
theorem dS7:cB prog 43=true:=by kernel_rfl
theorem dT7:cB prog 44=true:=by kernel_rfl
theorem cV9:cB prog 45=true:=by kernel_rfl
theorem eG2:cB prog 47=true:=by kernel_rfl
theorem fY3:cB prog 51=true:=by kernel_rfl
theorem fZ3:cB prog 52=true:=by kernel_rfl
theorem qB:cB prog 59=true:=by kernel_rfl
theorem xV:cB prog 61=true:=by kernel_rfl
theorem fA4:cB prog 62=true:=by kernel_rfl
theorem fB4:cB prog 63=true:=by kernel_rfl
theorem fD1:cB prog 64=true:=by kernel_rfl
theorem pP:cB prog 67=true:=by kernel_rfl
theorem fE1:cB prog 68=true:=by kernel_rfl
theorem bO3:cB prog 69=true:=by kernel_rfl
theorem fF1:cB prog 70=true:=by kernel_rfl
theorem fG1:cB prog 71=true:=by kernel_rfl
theorem fC4:cB prog 72=true:=by kernel_rfl
theorem fH1:cB prog 73=true:=by kernel_rfl
theorem fD4:cB prog 74=true:=by kernel_rfl
theorem fE4:cB prog 76=true:=by kernel_rfl
theorem fF4:cB prog 77=true:=by kernel_rfl
theorem fG4:cB prog 78=true:=by kernel_rfl
theorem fI1:cB prog 79=true:=by kernel_rfl
theorem fJ1:cB prog 80=true:=by kernel_rfl
theorem fI4:cB prog 81=true:=by kernel_rfl
theorem fJ4:cB prog 83=true:=by kernel_rfl
theorem fK1:cB prog 84=true:=by kernel_rfl
theorem fL1:cB prog 85=true:=by kernel_rfl
theorem fM1:cB prog 86=true:=by kernel_rfl
theorem bP2:cB prog 90=true:=by kernel_rfl
theorem fN1:cB prog 93=true:=by kernel_rfl
theorem fO1:cB prog 94=true:=by kernel_rfl
theorem fP1:cB prog 95=true:=by kernel_rfl
theorem eA5:cB prog 100=true:=by kernel_rfl
theorem eF9:cB prog 101=true:=by kernel_rfl
theorem eG9:cB prog 102=true:=by kernel_rfl
theorem eH9:cB prog 103=true:=by kernel_rfl
theorem eI9:cB prog 106=true:=by kernel_rfl
theorem eJ9:cB prog 107=true:=by kernel_rfl
theorem eK9:cB prog 108=true:=by kernel_rfl
theorem eL9:cB prog 109=true:=by kernel_rfl
theorem eM9:cB prog 110=true:=by kernel_rfl
theorem eN9:cB prog 111=true:=by kernel_rfl
theorem eO9:cB prog 112=true:=by kernel_rfl
theorem eP9:cB prog 113=true:=by kernel_rfl
theorem eQ9:cB prog 114=true:=by kernel_rfl
theorem eR9:cB prog 115=true:=by kernel_rfl
theorem wL:cB prog 116=true:=by kernel_rfl
theorem dK7:cB prog 117=true:=by kernel_rfl
theorem eB5:cB prog 118=true:=by kernel_rfl
theorem eC5:cB prog 119=true:=by kernel_rfl
theorem eS9:cB prog 120=true:=by kernel_rfl
theorem eT9:cB prog 121=true:=by kernel_rfl
theorem bW7:cB prog 122=true:=by kernel_rfl
theorem dL7:cB prog 123=true:=by kernel_rfl
theorem eU9:cB prog 124=true:=by kernel_rfl
theorem eV9:cB prog 125=true:=by kernel_rfl
theorem eW9:cB prog 126=true:=by kernel_rfl
theorem dM7:cB prog 127=true:=by kernel_rfl
theorem eD5:cB prog 128=true:=by kernel_rfl
theorem eX9:cB prog 129=true:=by kernel_rfl
theorem eY9:cB prog 130=true:=by kernel_rfl
theorem bX7:cB prog 131=true:=by kernel_rfl
theorem eZ9:cB prog 134=true:=by kernel_rfl
theorem dJ2:cB prog 135=true:=by kernel_rfl
theorem fA0:cB prog 136=true:=by kernel_rfl
theorem dN7:cB prog 137=true:=by kernel_rfl
theorem dO7:cB prog 138=true:=by kernel_rfl
theorem bL4:cB prog 141=true:=by kernel_rfl
theorem dK2:cB prog 142=true:=by kernel_rfl
theorem eE5:cB prog 149=true:=by kernel_rfl
theorem fB0:cB prog 150=true:=by kernel_rfl
theorem fC0:cB prog 151=true:=by kernel_rfl
theorem eF5:cB prog 152=true:=by kernel_rfl
theorem eG5:cB prog 156=true:=by kernel_rfl
theorem fD0:cB prog 157=true:=by kernel_rfl
theorem dL2:cB prog 159=true:=by kernel_rfl
theorem fE0:cB prog 163=true:=by kernel_rfl
theorem fF0:cB prog 164=true:=by kernel_rfl
theorem fG0:cB prog 165=true:=by kernel_rfl
theorem fH0:cB prog 166=true:=by kernel_rfl
theorem fI0:cB prog 167=true:=by kernel_rfl
theorem dP7:cB prog 168=true:=by kernel_rfl
theorem eH5:cB prog 169=true:=by kernel_rfl
theorem bM4:cB prog 170=true:=by kernel_rfl
theorem eI5:cB prog 171=true:=by kernel_rfl
theorem fJ0:cB prog 172=true:=by kernel_rfl
theorem fK0:cB prog 173=true:=by kernel_rfl
theorem fL0:cB prog 174=true:=by kernel_rfl
theorem dQ7:cB prog 175=true:=by kernel_rfl
theorem fM0:cB prog 187=true:=by kernel_rfl
theorem fN0:cB prog 189=true:=by kernel_rfl
theorem fO0:cB prog 190=true:=by kernel_rfl
theorem fP0:cB prog 191=true:=by kernel_rfl
theorem eJ5:cB prog 193=true:=by kernel_rfl
theorem eK5:cB prog 203=true:=by kernel_rfl
theorem fQ0:cB prog 208=true:=by kernel_rfl
theorem fR0:cB prog 209=true:=by kernel_rfl
theorem fS0:cB prog 210=true:=by kernel_rfl
theorem bE0:cB prog 211=true:=by kernel_rfl
theorem cD7:cB prog 212=true:=by kernel_rfl
theorem eL5:cB prog 213=true:=by kernel_rfl
theorem fT0:cB prog 214=true:=by kernel_rfl
theorem fU0:cB prog 215=true:=by kernel_rfl
theorem fV0:cB prog 216=true:=by kernel_rfl
theorem fW0:cB prog 222=true:=by kernel_rfl
theorem dR7:cB prog 223=true:=by kernel_rfl
theorem fX0:cB prog 241=true:=by kernel_rfl
theorem fY0:cB prog 242=true:=by kernel_rfl
theorem fZ0:cB prog 243=true:=by kernel_rfl
theorem dM2:cB prog 244=true:=by kernel_rfl
theorem eM5:cB prog 245=true:=by kernel_rfl
theorem mixed:prog.follows .mixedOrders=true:=by kernel_rfl
theorem dG3:(prog.info? 68).map (·.size)=some 9:=by kernel_rfl
theorem eS7 (at_:Int) (st:ByteArray) (m f:Int) (w:World):
 (binOp .neq 66 (.agg #[.int .i64 at_,.string st,.int .i64 m,.int .i64 f]) (.agg #[.int .i64 (-1),.string ⟨#[]⟩,.int .i64 0,.int .i64 0])).run prog w= .ok (.bool (dR3 ⟨at_,st,m,f⟩)) w:=by
 have hS:prog.underlying 66=some (.struct (prog.fieldsOf 66)):=by kernel_rfl
 have hp:prog.stoodInHeld 66=false:=by kernel_rfl
 rw [run_neq_struct,show (10000:Nat)=9999+1 from rfl,run_equalIn_agg w 9999 66 _ _ hS hp]
 simp only [Program.fieldsOf,Tryz.underlying66]
 have u3:=Tryz.underlying3
 have u9:=Tryz.underlying9
 go_simp
 by_cases h1:at_= -1 <;> by_cases h2:st.toList= [] <;> by_cases h3:m=0 <;> by_cases h4:f=0 <;> simp [dR3,h1,h2,h3,h4]
theorem bY7 (x:Int):dI [0,x]=x:=by
 simp only [dI];split <;> simp_all
theorem dB1 {fr:Int} {p:Option Lg} {last:Bool} {g:Lg} {e:Int} (h:dI [dK (!keyB g.veh) 5,pX g.out]=e) (hne:e≠0):cS0 fr p last g=e:=by
 unfold cS0
 simp only [dI] at h ⊢
 split
 ·rename_i h1
  rw [if_pos h1] at h
  split
  ·rename_i h2
   rw [if_pos h2] at h
   exact absurd h.symm hne
  ·rename_i h2
   rw [if_neg h2] at h
   exact h
 ·rename_i h1
  rw [if_neg h1] at h
  exact h
theorem dA1 {fr:Int} {p:Option Lg} {last:Bool} {g:Lg} (h:dI [dK (!keyB g.veh) 5,pX g.out]=0):cS0 fr p last g=dI [wC fr p g,cT0 last g]:=by
 have:=bR3 h
 unfold cS0
 rw [this.1,this.2]
 rfl
theorem cU4 (key driver:ByteArray) (fr to_:Int) (l:List Lg) (A:Option Addr) (n c i:Nat) (g:Lg) (w:World) (hl:SlT lgEnc 9 68 w A n l) (hi:l[i]?=some g) (hok:∀g∈l,cO9 g) (hn:n<=1000000):
 Calls prog 92 #[.agg #[.string key,.string driver,.int .i64 fr,.int .i64 to_,.slice A n c],.int .i64 (i:Int)] w (nC w (cS0 fr (prevOf l i) (decide (i+1=n)) g)):=by
 have hin:i < n:=by have:=(List.getElem?_eq_some_iff.1 hi).1;have:=hl.len;omega
 obtain ⟨b,off,rfl,hbl,hrg⟩:=hl.get (by omega)
 have hgo:=hok g (fK5 hi)
 have hpv:∀q,l[i - 1]?=some q->cO9 q:=fun q hq=>hok q (fK5 hq)
 have hr0:=hrg i g hi
 obtain ⟨E1,hE1⟩:∃E,E=dI [dK (!keyB g.veh) 5,pX g.out]:=⟨_,rfl⟩
 have hstop:=fun (h:E1≠0)=>dB1 (fr:=fr) (p:=prevOf l i) (last:=decide (i+1=n)) hE1.symm h
 have hpass:=fun (h:E1=0)=>dA1 (fr:=fr) (p:=prevOf l i) (last:=decide (i+1=n)) (g:=g) (hE1.symm.trans h)
 have Hstop:=Lib.hid hstop
 have Hpass:=Lib.hid hpass
 obtain ⟨R,hR⟩:∃R,R=cS0 fr (prevOf l i) (decide (i+1=n)) g:=⟨_,rfl⟩
 rw [<-hR] at Hstop Hpass ⊢
 obtain ⟨veh,⟨a1,s1,m1,f1⟩,⟨a2,s2,m2,f2⟩⟩:=g
 have cK:∀w,Calls prog 90 #[.string veh] w fun e w'=>e=.returned (.bool (keyB veh))/\w'=w:=fun w=>nG (isKey_any _ _ (by have:=hgo.1;simp at this;omega))
 have hE1':E1=dI [dK (!keyB veh) 5,pX ⟨a1,s1,m1,f1⟩]:=hE1
 generalize keyB veh=K at cK hE1'
 have hr:w.rangeAt b (off+i *9) [.string veh,.int .i64 a1,.string s1,.int .i64 m1,.int .i64 f1,.int .i64 a2,.string s2,.int .i64 m2,.int .i64 f2]:=hr0
 have ho1:RdOk ⟨a1,s1,m1,f1⟩:=hgo.2.1
 have ho2:RdOk ⟨a2,s2,m2,f2⟩:=hgo.2.2
 have CK:=Lib.hid cK
 have HE1:=Lib.hid hE1'
 have Hrg:=Lib.hid hrg
 have Ho1:=Lib.hid ho1
 have Ho2:=Lib.hid ho2
 have hr':=fun (o:Obj)=>(show (w.alloc o).rangeAt b (off+i *9) [.string veh,.int .i64 a1,.string s1,.int .i64 m1,.int .i64 f1,.int .i64 a2,.string s2,.int .i64 m2,.int .i64 f2] from fun j v hv=>(World.cell?_alloc_lt w o _ hbl).trans (hr j v hv))
 clear hstop hpass hE1 hE1' cK hrg ho1 ho2 hr0 hr hgo hR
 go_enter func92,ntmps92
 go_wp2_with (with_reducible refine zP rfl 68 (.tmp 11) rfl b (off+i *9) rfl _ _ (hr' _) Tryz.underlying68 rfl 9 dG3 rfl ?_)
 refine wp_region_still_tail 7 (by kernel_rfl) (by kernel_rfl) ?_
 change wpStill _ _ (World.drew _) _ _ _
 simp only [List.take_succ_cons,List.take_zero,List.drop_succ_cons,List.drop_zero]
 repeat still_step
 still_call (CK.out _)
 repeat still_step
 still_call (nG (eE _ _ _))
 repeat still_step
 refine wpStill_nil ?_
 change wpList _ _ _ _ _ (World.drew _)
 go_wp2_with fail
 refine (xI ⟨a1,s1,m1,f1⟩ _ Ho1.out).mono ?_
 rintro e w1 ⟨rfl,hg1⟩
 obtain ⟨R1,hR1⟩:∃R,R=pX ⟨a1,s1,m1,f1⟩:=⟨_,rfl⟩
 rw [<-hR1] at HE1 ⊢
 clear hR1
 have hz:=hg1.size
 simp at hz
 have hb0:Blk w1 w.heap.size 64 [.string key,.string driver,.int .i64 fr,.int .i64 to_,.slice (some ⟨b,off,none⟩) n c]:=(((Blk.at_ w rfl _ _).alloc _).drew).grown hg1 (by simp)
 have hb1:Blk w1 (w.heap.size+1) 68 [.string veh,.int .i64 a1,.string s1,.int .i64 m1,.int .i64 f1,.int .i64 a2,.string s2,.int .i64 m2,.int .i64 f2]:=((Blk.at_ (w.alloc _) (by simp) _ _).drew).grown hg1 (by simp)
 have hgw:w.grownBy w1 none:=grow_trans (pI (grow_alloc (grow_alloc (World.grownBy.refl _ _) _) _)) hg1
 clear hg1 hr'
 go_wp2_with fail
 refine (fJ [dK (!K) 5,R1] _ _ _ _ (Blk.at_ _ U _ _) (by simp)).mono ?_
 rintro e w2 ⟨rfl,rfl⟩
 rw [<-HE1.out]
 obtain ⟨w2,hw2⟩:∃w2,w2=w1.alloc (.cells (List.map (Value.int .i64) [dK (!K) 5,R1]).toArray 48):=⟨_,rfl⟩
 have hg2:w1.grownBy w2 none:=by rw [hw2];exact grow_alloc (World.grownBy.refl _ _) _
 rw [<-hw2]
 have hb0:=hb0.grown hg2 (by simp)
 have hb1:=hb1.grown hg2 (by simp)
 have hgw:=grow_trans hgw hg2
 have hz:=Nat.lt_of_lt_of_le (show w.heap.size+1 < w1.heap.size by omega) hg2.size
 clear hw2 hg2
 by_cases hE0:E1=0
 ·have hpass:=Hpass.out hE0
  have HP:=Lib.hid hpass
  subst hE0
  clear hpass
  have h2:=hb0.cell_of (i:=2) (v:= .int .i64 fr) rfl
  have h3:=hb0.cell_of (i:=3) (v:= .int .i64 to_) rfl
  have h4:=hb0.cell_of (i:=4) (v:= .slice (some ⟨b,off,none⟩) n c) rfl
  have g0:=hb1.cell_of (i:=0) (v:= .string veh) rfl
  have g1:=hb1.cell_of (i:=1) (v:= .int .i64 a1) rfl
  have g2:=hb1.cell_of (i:=2) (v:= .string s1) rfl
  have g3:=hb1.cell_of (i:=3) (v:= .int .i64 m1) rfl
  have g4:=hb1.cell_of (i:=4) (v:= .int .i64 f1) rfl
  have g5:=hb1.cell_of (i:=5) (v:= .int .i64 a2) rfl
  have g6:=hb1.cell_of (i:=6) (v:= .string s2) rfl
  have g7:=hb1.cell_of (i:=7) (v:= .int .i64 m2) rfl
  have g8:=hb1.cell_of (i:=8) (v:= .int .i64 f2) rfl
  go_upto_if 27 with fail
  go_cut [] (fun wx=>wC fr (prevOf l i) ⟨veh,⟨a1,s1,m1,f1⟩,⟨a2,s2,m2,f2⟩⟩=0/\w2.grownBy wx none)
  case first=>
   by_cases hi0:i=0
   ·subst hi0
    have hq:(((0:Nat):Int)==0)=true:=rfl
    have hV:wC fr (prevOf l 0) ⟨veh,⟨a1,s1,m1,f1⟩,⟨a2,s2,m2,f2⟩⟩=if a1=fr then 0 else 7:=rfl
    have HV:=Lib.hid hV
    by_cases hf:a1=fr
    ·have hne:(a1 !=fr)=false:=by simpa using hf
     have HW:=Lib.hid (show wC fr (prevOf l 0) ⟨veh,⟨a1,s1,m1,f1⟩,⟨a2,s2,m2,f2⟩⟩=0 by rw [HV.out,if_pos hf])
     clear hV hf
     go_wp2_with fail
     go_meet
     exact ⟨HW.out,World.grownBy.refl _ _⟩
    ·have hne:(a1 !=fr)=true:=by simpa using hf
     have HW:=Lib.hid (show wC fr (prevOf l 0) ⟨veh,⟨a1,s1,m1,f1⟩,⟨a2,s2,m2,f2⟩⟩=7 by rw [HV.out,if_neg hf])
     clear hV hf
     go_wp2_with fail
     go_ret
     exact ⟨bW (by rw [HP.out,HW.out];rfl),hgw⟩
   ·have hq:((i:Int)==0)=false:=by simpa using hi0
    obtain ⟨⟨qveh,⟨qa1,qs1,qm1,qf1⟩,⟨qa2,qs2,qm2,qf2⟩⟩,hq1⟩:∃q,l[i - 1]?=some q:=⟨_,fJ5 (by have:=(List.getElem?_eq_some_iff.1 hi).1;omega)⟩
    have hpo:prevOf l i=some ⟨qveh,⟨qa1,qs1,qm1,qf1⟩,⟨qa2,qs2,qm2,qf2⟩⟩:=by simp [prevOf,hi0,hq1]
    have hrq0:=Hrg.out (i - 1) _ hq1
    have hrq:w.rangeAt b (off+(i - 1) *9) [.string qveh,.int .i64 qa1,.string qs1,.int .i64 qm1,.int .i64 qf1,.int .i64 qa2,.string qs2,.int .i64 qm2,.int .i64 qf2]:=hrq0
    have hki:(i:Int) - 1=((i - 1:Nat):Int):=by omega
    have hk1n:(i:Int) - 1 < (n:Int):=by omega
    have hr2:=cI6 hrq hbl hgw
    have hV:wC fr (prevOf l i) ⟨veh,⟨a1,s1,m1,f1⟩,⟨a2,s2,m2,f2⟩⟩=if a1=qa2 then (if zS veh qveh then 16 else if zS s1 qs2 then 0 else 8) else 7:=by rw [hpo];rfl
    have HV:=Lib.hid hV
    clear hV hpo hrq hrq0 hq1 hi0
    go_wp2_with (with_reducible refine zP rfl 68 (.tmp 39) rfl b (off+(i - 1) *9) rfl _ _ hr2 Tryz.underlying68 rfl 9 dG3 rfl ?_)
    ·go_ret
     rename_i h1
     have h1':¬a1=qa2:=by simpa using h1
     exact ⟨bW (by rw [HP.out,HV.out,if_neg h1'];rfl),grow_alloc hgw _⟩
    ·go_ret
     rename_i h1 h2
     have h1':a1=qa2:=by simpa using h1
     have h2':zS veh qveh=true:=h2
     exact ⟨bW (by rw [HP.out,HV.out,if_pos h1',if_pos h2'];rfl),grow_alloc hgw _⟩
    ·go_ret
     rename_i h1 h2 h3
     have h1':a1=qa2:=by simpa using h1
     have h2':¬zS veh qveh=true:=by simpa [zS] using h2
     have h3':¬zS s1 qs2=true:=by simpa [zS] using h3
     exact ⟨bW (by rw [HP.out,HV.out,if_pos h1',if_neg h2',if_neg h3'];rfl),grow_alloc hgw _⟩
    ·go_meet
     rename_i h1 h2 h3
     have h1':a1=qa2:=by simpa using h1
     have h2':¬zS veh qveh=true:=by simpa [zS] using h2
     have h3':zS s1 qs2=true:=by simpa [zS] using h3
     exact ⟨by rw [HV.out,if_pos h1',if_neg h2',if_pos h3'],grow_alloc (World.grownBy.refl _ _) _⟩
  case rest=>
   obtain ⟨hp0,hg3⟩:=hcut
   obtain ⟨w3,hw3⟩:∃w3:World,w3=wc:=⟨_,rfl⟩
   rw [<-hw3] at hg3 ⊢
   clear hw3
   have hb0:=hb0.grown hg3 (by simp)
   have hb1:=hb1.grown hg3 (by simp)
   have hgw:=grow_trans hgw hg3
   have HR:=Lib.hid (show R=dI [0,cT0 (decide (i+1=n)) ⟨veh,⟨a1,s1,m1,f1⟩,⟨a2,s2,m2,f2⟩⟩] by rw [HP.out,hp0])
   have k4:=hb0.cell_of (i:=4) (v:= .slice (some ⟨b,off,none⟩) n c) rfl
   have k1:=hb1.cell_of (i:=1) (v:= .int .i64 a1) rfl
   have k5:=hb1.cell_of (i:=5) (v:= .int .i64 a2) rfl
   have k6:=hb1.cell_of (i:=6) (v:= .string s2) rfl
   have k7:=hb1.cell_of (i:=7) (v:= .int .i64 m2) rfl
   have k8:=hb1.cell_of (i:=8) (v:= .int .i64 f2) rfl
   clear hp0 HP h2 h3 h4 g0 g1 g2 g3 g4 g5 g6 g7 g8
   by_cases ha:a2= -1
   ·subst ha
    have hq:=fun w=>eS7 (-1) s2 m2 f2 w
    obtain ⟨Z,hZ⟩:∃Z,Z=dR3 ⟨-1,s2,m2,f2⟩:=⟨_,rfl⟩
    rw [<-hZ] at hq
    have HZ:=Lib.hid hZ
    have hlt:decide ((i:Int) < (n:Int) - 1)= !decide (i+1=n):=by
     by_cases hl:i+1=n <;> simp [hl] <;> omega
    obtain ⟨L,hL⟩:∃L,L=decide (i+1=n):=⟨_,rfl⟩
    rw [<-hL] at hlt HR
    clear hZ hL
    go_wp2_with fail
    refine wp_region_still_tail 12 (by kernel_rfl) (by kernel_rfl) ?_
    change wpStill _ _ (World.drew _) _ _ _
    simp only [List.take_succ_cons,List.take_zero,List.drop_succ_cons,List.drop_zero]
    repeat still_step
    still_call (nG (eE _ _ _))
    repeat still_step
    still_call (nG (eE _ _ _))
    repeat still_step
    refine wpStill_nil ?_
    change wpList _ _ _ _ _ (World.drew _)
    go_wp2_with fail
    refine (fJ [dK Z 3,dK (!L) 11] _ _ _ _ ((Blk.at_ _ U _ _).drew) (by simp)).mono ?_
    rintro e w4 ⟨rfl,rfl⟩
    go_wp2_with fail
    go_ret
    refine ⟨bW ?_,pI (grow_alloc hgw _)⟩
    rw [HR.out,HZ.out];simp [cT0,bY7]
   ·have hne:(a2== -1)=false:=by simpa using ha
    have hfin:=fun (e:Int) (h:e=dI [pX ⟨a2,s2,m2,f2⟩,dK (decide (a2<=a1)) 7])=>(show e=R by rw [HR.out,h];simp only [cT0,if_neg ha,bY7])
    have Hfin:=Lib.hid hfin
    clear hfin
    go_wp2_with fail
    go_region_held3 (fun wx=>wx.cell? ⟨w.heap.size+1,1,none⟩=some (.int .i64 a1)/\wx.cell? ⟨w.heap.size+1,5,none⟩=some (.int .i64 a2)/\wx.cell? ⟨w.heap.size+1,6,none⟩=some (.string s2)/\wx.cell? ⟨w.heap.size+1,7,none⟩=some (.int .i64 m2)/\wx.cell? ⟨w.heap.size+1,8,none⟩=some (.int .i64 f2))
     (first
      |exact ⟨k1,k5,k6,k7,k8⟩
      |exact q4
      |exact q5 _)
     (first
      |(go_at_call 140;refine (xI ⟨a2,s2,m2,f2⟩ _ Ho2.out).mono ?_;rintro e w4 ⟨rfl,hg4⟩;have hb2:Blk w4 (w.heap.size+1) 68 [.string veh,.int .i64 a1,.string s1,.int .i64 m1,.int .i64 f1,.int .i64 a2,.string s2,.int .i64 m2,.int .i64 f2]:=(hb1.drewN 1).grown hg4 (by simp);have q5:=fun o=>And.intro ((hb2.alloc o).cell_of (i:=1) (v:= .int .i64 a1) rfl) (And.intro ((hb2.alloc o).cell_of (i:=5) (v:= .int .i64 a2) rfl) (And.intro ((hb2.alloc o).cell_of (i:=6) (v:= .string s2) rfl) (And.intro ((hb2.alloc o).cell_of (i:=7) (v:= .int .i64 m2) rfl) ((hb2.alloc o).cell_of (i:=8) (v:= .int .i64 f2) rfl))));have q4:=And.intro (hb2.cell_of (i:=1) (v:= .int .i64 a1) rfl) (And.intro (hb2.cell_of (i:=5) (v:= .int .i64 a2) rfl) (And.intro (hb2.cell_of (i:=6) (v:= .string s2) rfl) (And.intro (hb2.cell_of (i:=7) (v:= .int .i64 m2) rfl) (hb2.cell_of (i:=8) (v:= .int .i64 f2) rfl)))))
      |(go_at_call 35;refine (eE _ _ _).mono ?_;rintro e w5 ⟨rfl,rfl⟩)
      |(go_at_call 34;refine (fJ [pX ⟨a2,s2,m2,f2⟩,dK (decide (a2<=a1)) 7] _ _ _ _ (Blk.at_ _ rfl _ _) (by simp)).mono ?_;rintro e w6 ⟨rfl,rfl⟩))
    all_goals
     go_wp2_with fail
     go_ret
     exact ⟨bW (Hfin.out _ U),grow_alloc (grow_trans (pI hgw) hg4) _⟩
 ·have hne:(E1 !=0)=true:=by simpa using hE0
  have HR:=Lib.hid (Hstop.out hE0)
  clear hE0
  go_wp2_with fail
  go_ret
  exact ⟨bW HR.out.symm,hgw⟩
theorem eH3 {fr:Int} {l:List Lg} {k:Nat} {g:Lg} (h:l[k]?=some g):
 bF5 fr l (l.length - k)=if cS0 fr (prevOf l k) (decide (k+1=l.length)) g=0 then bF5 fr l (l.length - (k+1)) else cS0 fr (prevOf l k) (decide (k+1=l.length)) g:=by
 have hk:=(List.getElem?_eq_some_iff.1 h).1
 obtain ⟨m,hm⟩:∃m,l.length - k=m+1:=⟨l.length - k - 1,by omega⟩
 have hm2:l.length - (k+1)=m:=by omega
 have hm3:l.length - (m+1)=k:=by omega
 rw [hm,hm2]
 simp only [bF5,hm3,h]
 have:decide (m=0)=decide (k+1=l.length):=by
  by_cases h:k+1=l.length <;> simp [h] <;> omega
 rw [this]
def HrOk (key driver:ByteArray) (l:List Lg):Prop:=key.size<=1000000/\driver.size<=1000000/\∀g∈l,cO9 g
theorem dO0 {key driver:ByteArray} {fr to_:Int} {l:List Lg} {e:Int} (h:e=dI [dK (!keyB key|| !keyB driver) 5,zO fr to_]) (hne:e≠0):hireE ⟨key,driver,fr,to_,l⟩=e:=by
 unfold hireE
 simp only [dI] at h ⊢
 split
 ·rename_i h1
  rw [if_pos h1] at h
  split
  ·rename_i h2
   rw [if_pos h2] at h
   exact absurd h hne
  ·rename_i h2
   rw [if_neg h2] at h
   exact h.symm
 ·rename_i h1
  rw [if_neg h1] at h
  exact h.symm
theorem dB0 (X:Int):dI [0,0,X]=X:=by
 show dI [X]=X
 by_cases h:X=0
 ·rw [h];rfl
 ·simp [dI,h]
theorem dN0 {key driver:ByteArray} {fr to_:Int} {l:List Lg} (h:0=dI [dK (!keyB key|| !keyB driver) 5,zO fr to_]):hireE ⟨key,driver,fr,to_,l⟩=if l.length=0 then 3 else if 20 < l.length then 2 else bF5 fr l l.length:=by
 have:=bR3 h.symm
 unfold hireE
 simp only [this.1,this.2]
 exact dB0 _
theorem hcheck_any (key driver:ByteArray) (fr to_:Int) (l:List Lg) (A:Option Addr) (n c:Nat) (w:World) (hl:SlT lgEnc 9 68 w A n l) (hok:HrOk key driver l) (hn:n<=1000000):
 Calls prog 40 #[.agg #[.string key,.string driver,.int .i64 fr,.int .i64 to_,.slice A n c]] w (nC w (hireE ⟨key,driver,fr,to_,l⟩)):=by
 obtain ⟨E1,hE1⟩:∃E,E=dI [dK (!keyB key|| !keyB driver) 5,zO fr to_]:=⟨_,rfl⟩
 have Hstop:=Lib.hid (fun (h:E1≠0)=>dO0 (l:=l) hE1 h)
 have Hpass:=Lib.hid (fun (h:E1=0)=>dN0 (l:=l) (h.symm.trans hE1))
 have Hl:=Lib.hid hl.len
 have cK:∀w,Calls prog 90 #[.string key] w fun e w'=>e=.returned (.bool (keyB key))/\w'=w:=fun w=>nG (isKey_any _ _ (by have:=hok.1;omega))
 have cD:∀w,Calls prog 90 #[.string driver] w fun e w'=>e=.returned (.bool (keyB driver))/\w'=w:=fun w=>nG (isKey_any _ _ (by have:=hok.2.1;omega))
 have Hok:=Lib.hid hok.2.2
 generalize keyB key=K at cK hE1
 generalize keyB driver=D at cD hE1
 obtain ⟨R,hR⟩:∃R,R=hireE ⟨key,driver,fr,to_,l⟩:=⟨_,rfl⟩
 rw [<-hR] at Hstop Hpass ⊢
 have CK:=Lib.hid cK
 have CD:=Lib.hid cD
 have HE1:=Lib.hid hE1
 clear cK cD hE1 hR hok
 obtain ⟨T,hT⟩:∃T,T=zO fr to_:=⟨_,rfl⟩
 have cT:∀w,Calls prog 91 #[.agg #[.int .i64 fr,.int .i64 to_]] w (nC w T):=fun w=>by rw [hT];exact eH1 _ _ _
 have CT:=Lib.hid cT
 rw [<-hT] at HE1
 clear cT hT
 go_enter func40,ntmps40
 go_wp2_with fail
 have hB:Blk (w.alloc (.cells #[.string key,.string driver,.int .i64 fr,.int .i64 to_,.slice A n c] 64)) w.heap.size 64 [.string key,.string driver,.int .i64 fr,.int .i64 to_,.slice A n c]:=Blk.at_ w rfl _ _
 have k0:=hB.cell_of (i:=0) (v:= .string key) rfl
 have k1:=hB.cell_of (i:=1) (v:= .string driver) rfl
 have k2:=hB.cell_of (i:=2) (v:= .int .i64 fr) rfl
 have k3:=hB.cell_of (i:=3) (v:= .int .i64 to_) rfl
 go_upto_region 1 with fail
 go_cut [3] (fun v wx=>v= .int .i64 E1/\(w.alloc (.cells #[.string key,.string driver,.int .i64 fr,.int .i64 to_,.slice A n c] 64)).grownBy wx none)
 case first=>
  cases K
  ·first|go_region_with (first
    |(go_at_call 91;refine (CT.out _).mono ?_;rintro e w4 ⟨rfl,hg4⟩)
    |(go_at_call 90;with_reducible refine (CK.out _).mono ?_;rintro e w3 ⟨rfl,rfl⟩)
    |(go_at_call 90;with_reducible refine (CD.out _).mono ?_;rintro e w3 ⟨rfl,rfl⟩)
    |(go_at_call 35;refine (eE _ _ _).mono ?_;rintro e w5 ⟨rfl,rfl⟩)
    |(go_at_call 34;refine (fJ [dK true 5,T] _ _ _ _ (Blk.at_ _ rfl _ _) (by simp)).mono ?_;rintro e w6 ⟨rfl,rfl⟩))|fail
   all_goals
    go_wp2_with fail
    go_meet
    exact ⟨dS3 (by rw [HE1.out];rfl),grow_alloc (grow_trans (pI (World.grownBy.refl _ _)) hg4) _⟩
  ·go_region_held3 (fun wx=>wx.cell? ⟨w.heap.size,0,none⟩=some (.string key)/\wx.cell? ⟨w.heap.size,1,none⟩=some (.string driver)/\wx.cell? ⟨w.heap.size,2,none⟩=some (.int .i64 fr)/\wx.cell? ⟨w.heap.size,3,none⟩=some (.int .i64 to_))
    (first
     |exact ⟨k0,k1,k2,k3⟩
     |exact q4
     |exact q5 _)
    (first
     |(go_at_call 91;refine (CT.out _).mono ?_;rintro e w4 ⟨rfl,hg4⟩;have hb2:=(hB.drewN 1).grown hg4 (by simp);have q5:=fun o=>And.intro ((hb2.alloc o).cell_of (i:=0) (v:= .string key) rfl) (And.intro ((hb2.alloc o).cell_of (i:=1) (v:= .string driver) rfl) (And.intro ((hb2.alloc o).cell_of (i:=2) (v:= .int .i64 fr) rfl) ((hb2.alloc o).cell_of (i:=3) (v:= .int .i64 to_) rfl)));have q4:=And.intro (hb2.cell_of (i:=0) (v:= .string key) rfl) (And.intro (hb2.cell_of (i:=1) (v:= .string driver) rfl) (And.intro (hb2.cell_of (i:=2) (v:= .int .i64 fr) rfl) (hb2.cell_of (i:=3) (v:= .int .i64 to_) rfl))))
     |(go_at_call 90;with_reducible refine (CK.out _).mono ?_;rintro e w3 ⟨rfl,rfl⟩)
     |(go_at_call 90;with_reducible refine (CD.out _).mono ?_;rintro e w3 ⟨rfl,rfl⟩)
     |(go_at_call 35;refine (eE _ _ _).mono ?_;rintro e w5 ⟨rfl,rfl⟩)
     |(go_at_call 34;refine (fJ [dK (!D) 5,T] _ _ _ _ (Blk.at_ _ rfl _ _) (by simp)).mono ?_;rintro e w6 ⟨rfl,rfl⟩))
   all_goals
    go_wp2_with fail
    go_meet
    exact ⟨dS3 (by rw [HE1.out];rfl),grow_alloc (grow_trans (pI (World.grownBy.refl _ _)) hg4) _⟩
 case rest=>
  obtain ⟨rfl,hg1⟩:=hcut
  obtain ⟨w1,hw1⟩:∃w1:World,w1=wc:=⟨_,rfl⟩
  rw [<-hw1] at hg1 ⊢
  clear hw1 k0 k1 k2 k3
  have hb:=hB.grown hg1 (by simp)
  have hgw:w.grownBy w1 none:=grow_trans (grow_alloc (World.grownBy.refl _ _) _) hg1
  clear hg1 hB
  by_cases h0:E1=0
  ·have HP:=Lib.hid (Hpass.out h0)
   subst h0
   have k4:=hb.cell_of (i:=4) (v:= .slice A n c) rfl
   by_cases hn0:n=0
   ·have hq:((n:Int)==0)=true:=by simpa using hn0
    have HF:=Lib.hid (show R=3 by rw [HP.out,if_pos (by rw [Hl.out];exact hn0)])
    clear hn0
    go_wp2_with fail
    go_ret
    exact ⟨bW HF.out.symm,hgw⟩
   ·have hq:((n:Int)==0)=false:=by simpa using hn0
    by_cases h20:20 < n
    ·have hq2:decide ((20:Int) < (n:Int))=true:=by simp;omega
     have hq3:decide (20 < n)=true:=by simpa using h20
     have HF:=Lib.hid (show R=2 by rw [HP.out,if_neg (by rw [Hl.out];exact hn0),if_pos (by rw [Hl.out];exact h20)])
     clear hn0
     go_wp2_with fail
     go_ret
     exact ⟨bW HF.out.symm,hgw⟩
    ·have hq2:decide ((20:Int) < (n:Int))=false:=by simp;omega
     have hq3:decide (20 < n)=false:=by simpa using h20
     have HF:=Lib.hid (show R=bF5 fr l (l.length - 0) by rw [HP.out,if_neg (by rw [Hl.out];exact hn0),if_neg (by rw [Hl.out];exact h20)];rfl)
     clear hn0 HP
     have hn20:n<=20:=by omega
     go_wp2_with fail
     go_loopw [38] (fun i wr=>∃k:Nat,k<=n/\i= .int .i64 k/\R=bF5 fr l (l.length - k)/\w1.grownBy wr none) (fun i _=>n - (intOf i).toNat)
     case atStart=>exact ⟨0,Nat.zero_le _,rfl,HF.out,World.grownBy.refl _ _⟩
     case round=>
      obtain ⟨k,hk,rfl,hE,hgr⟩:=hrel
      have HE:=Lib.hid hE;clear hE
      by_cases hlt:k < n
      ·have hlr:=hl.grow0 (grow_trans hgw hgr)
       obtain ⟨g,hg⟩:∃g,l[k]?=some g:=⟨_,fJ5 (by have:=Hl.out;omega)⟩
       have hat:=eH3 (fr:=fr) hg
       obtain ⟨E,zX⟩:∃E,E=cS0 fr (prevOf l k) (decide (k+1=n)) g:=⟨_,rfl⟩
       rw [Hl.out,<-zX] at hat
       rw [Hl.out] at HE
       have Hat:=Lib.hid hat;clear hat
       have HEE:=Lib.hid zX;clear zX
       have hbr:=hb.grown hgr (by simp)
       have c0:=hbr.cell_of (i:=0) (v:= .string key) rfl
       have c1:=hbr.cell_of (i:=1) (v:= .string driver) rfl
       have c2:=hbr.cell_of (i:=2) (v:= .int .i64 fr) rfl
       have c3:=hbr.cell_of (i:=3) (v:= .int .i64 to_) rfl
       have c4:=hbr.cell_of (i:=4) (v:= .slice A n c) rfl
       have Hg:=Lib.hid hg
       clear hg
       go_wp2_with fail
       refine (cU4 key driver fr to_ l A n c k g wr hlr Hg.out Hok.out hn).mono ?_
       rintro e w2 ⟨rfl,hg2⟩
       rw [<-HEE.out]
       by_cases hE0:E=0
       ·have HN:=Lib.hid (show R=bF5 fr l (n - (k+1)) by rw [HE.out,Hat.out,if_pos hE0])
        subst hE0
        go_wp2_with fail
        go_roundw
        case rel=>exact ⟨k+1,by omega,by go_num,by rw [HN.out,Hl.out],grow_trans hgr hg2⟩
        case measure=>simp [intOf];omega
       ·have hne:(E !=0)=true:=by simpa using hE0
        have HN:=Lib.hid (show R=E by rw [HE.out,Hat.out,if_neg hE0])
        clear hE0
        go_wp2_with fail
        go_ret
        exact ⟨bW HN.out.symm,grow_trans hgw (grow_trans hgr hg2)⟩
      ·have HN:=Lib.hid (show R=0 by rw [HE.out,Hl.out,show n - k=0 by omega];rfl)
       go_wp2_with fail
       go_ret
       exact ⟨bW HN.out.symm,grow_trans hgw hgr⟩
  ·have hne:(E1 !=0)=true:=by simpa using h0
   have HR:=Lib.hid (Hstop.out h0)
   clear h0
   go_wp2_with fail
   go_ret
   exact ⟨bW HR.out.symm,hgw⟩
def madeV (key driver:ByteArray) (fr to_:Int) (A:Option Addr) (n c:Nat) (e:Int):Value:=
 if e=0 then .agg #[.string key,.string driver,.int .i64 fr,.int .i64 to_,.slice A n c] else .agg #[.string ⟨#[]⟩,.string ⟨#[]⟩,.int .i64 0,.int .i64 0,.slice none 0 0]
def GotVE (w:World) (v:Value) (e:Int) (d:Ending) (w':World):Prop:=d= .returned (.tuple #[v,.int .i64 e])/\w.grownBy w' none
theorem info_hr:(prog.info? 64).map (·.size)=some 5:=by kernel_rfl
theorem ret_blk_tmp {P:Program} {fn:Func} {R:Ending->World->Prop} {a:Act} {w:World} {p u:Tmp} {ty:TypeId} (h:fn.results=#[.cell p ty,.tmp u]) (g:Nat) (t:TypeId) (cs:List Value) (d:TypeDesc) (hb:Blk w g t cs)
 (hp:a.tmps.getD p undef= .pointer (some ⟨g,0,none⟩)) (v:Value) (hv:a.tmps.getD u undef=v) (hu:P.underlying ty=some d) (hd:d.isRow=true) (n:Nat) (hi:(P.info? ty).map (·.size)=some n) (hn:cs.length=n) (hdf:a.defers= [])
 (hR:R (.returned (.tuple #[.agg cs.toArray,v])) w):bodyPost P fn R .ret a w:=by
 refine bodyPost_ret (?_:(results fn a.tmps).run P w= .ok (.tuple #[.agg cs.toArray,v]) w) hdf hR
 have hl:=run_loadVar_row (P:=P) w g t ty cs.toArray (0,0) d hb hu (by cases d <;> simp_all [TypeDesc.isRow]) (by simpa [hn] using hi)
 rw [results_cell_tmp h]
 simp only [hp,hv]
 simp only [asAddr,Sem.run_pure,Result.andThen_ok]
 rw [hl]
 rfl
theorem made_any (key driver : ByteArray) (fr to_ : Int) (l : List Lg) (A : Option Addr) (n c : Nat) (w : World) (hl : SlT lgEnc 9 68 w A n l) (hok : HrOk key driver l) (hn : n <= 1000000) :
    Calls prog 244 #[.agg #[.string key, .string driver, .int .i64 fr, .int .i64 to_, .slice A n c]] w (GotVE w (madeV key driver fr to_ A n c (hireE ⟨key, driver, fr, to_, l⟩)) (hireE ⟨key, driver, fr, to_, l⟩)) := by
  obtain ⟨E, hE⟩ : ∃ E, E = hireE ⟨key, driver, fr, to_, l⟩ := ⟨_, rfl⟩
  rw [<- hE]
  have HE := Lib.hid hE
  clear hE
  go_enter func244, ntmps244
  go_wp2_with fail
  refine (hcheck_any key driver fr to_ l A n c _ ((hl.alloc _).alloc _) hok hn).mono ?_
  rintro e w1 ⟨rfl, hg1⟩
  rw [<- HE.out]
  have hb1 : Blk w1 (w.heap.size + 1) 64 [.string ⟨#[]⟩, .string ⟨#[]⟩, .int .i64 0, .int .i64 0, .slice none 0 0] := (Blk.at_ (w.alloc _) (by simp) _ _).grown hg1 (by simp)
  have hb0 : Blk w1 w.heap.size 64 [.string key, .string driver, .int .i64 fr, .int .i64 to_, .slice A n c] := ((Blk.at_ w rfl _ _).alloc _).grown hg1 (by simp)
  have hgw : w.grownBy w1 none := grow_trans (grow_alloc (grow_alloc (World.grownBy.refl _ _) _) _) hg1
  have hz : ∀ k, some (w.heap.size + 1) = some k -> w.heap.size <= k := fun k h => by cases h; omega
  clear hg1
  by_cases h0 : E = 0
  · have HV := Lib.hid (show madeV key driver fr to_ A n c E = .agg #[.string key, .string driver, .int .i64 fr, .int .i64 to_, .slice A n c] by rw [h0]; rfl)
    subst h0
    go_wp2_with (first
      | (with_reducible refine wpList_load_all rfl 64 (.tmp 1) rfl w.heap.size _ _ _ hb0 rfl Tryz.underlying64 rfl 5 info_hr rfl ?_)
      | (with_reducible refine wpList_store_all rfl 64 (.tmp 2) (.tmp 11) rfl (w.heap.size + 1) _ _ [.string key, .string driver, .int .i64 fr, .int .i64 to_, .slice A n c] hb1 rfl rfl 5 info_hr rfl rfl (by simp [Value.oneCell']) ?_
         intro w2 hb2 hg2))
    refine ret_blk_tmp (p := 2) (u := 3) (ty := 64) rfl (w.heap.size + 1) _ _ _ hb2 rfl (.int .i64 0) rfl Tryz.underlying64 rfl 5 info_hr rfl rfl ?_
    exact ⟨by rw [HV.out], grow_own hgw hg2 hz⟩
  · have hne : (E != 0) = true := by simpa using h0
    have HV := Lib.hid (show madeV key driver fr to_ A n c E = .agg #[.string ⟨#[]⟩, .string ⟨#[]⟩, .int .i64 0, .int .i64 0, .slice none 0 0] by unfold madeV; rw [if_neg h0])
    clear h0
    go_wp2_with (first
      | (with_reducible refine wpList_store_all rfl 64 (.tmp 2) (.tmp 9) rfl (w.heap.size + 1) _ _ [.string ⟨#[]⟩, .string ⟨#[]⟩, .int .i64 0, .int .i64 0, .slice none 0 0] hb1 rfl rfl 5 info_hr rfl rfl (by simp [Value.oneCell']) ?_
         intro w2 hb2 hg2))
    refine ret_blk_tmp (p := 2) (u := 3) (ty := 64) rfl (w.heap.size + 1) _ _ _ hb2 rfl (.int .i64 E) rfl Tryz.underlying64 rfl 5 info_hr rfl rfl ?_
    exact ⟨by rw [HV.out], grow_own hgw hg2 hz⟩
def startLeg (veh:ByteArray) (r:Rd):Lg:=⟨veh,r,⟨-1,⟨#[]⟩,0,0⟩⟩
theorem start_any (key driver : ByteArray) (fr to_ : Int) (veh : ByteArray) (r : Rd) (w : World) (hk : key.size <= 1000000) (hd : driver.size <= 1000000) (hv : veh.size <= 1000000) (hr : RdOk r) :
    Calls prog 213 #[.string key, .string driver, .agg #[.int .i64 fr, .int .i64 to_], .string veh, .agg (rdCells r).toArray] w (fun e w' => ∃ A,
      e = .returned (.tuple #[madeV key driver fr to_ A 1 1 (hireE ⟨key, driver, fr, to_, [startLeg veh r]⟩), .int .i64 (hireE ⟨key, driver, fr, to_, [startLeg veh r]⟩)]) /\ SlT lgEnc 9 68 w' A 1 [startLeg veh r] /\ w.grownBy w' none) := by
  obtain ⟨a1, s1, m1, f1⟩ := r
  have hok : HrOk key driver [startLeg veh ⟨a1, s1, m1, f1⟩] := ⟨hk, hd, fun g hg => by
    simp only [List.mem_singleton] at hg
    subst hg
    exact ⟨hv, hr, (by decide : (⟨#[]⟩ : ByteArray).size <= 1000000)⟩⟩
  show Calls prog 213 #[.string key, .string driver, .agg #[.int .i64 fr, .int .i64 to_], .string veh, .agg #[.int .i64 a1, .string s1, .int .i64 m1, .int .i64 f1]] w _
  have Hok := Lib.hid hok
  clear hok
  obtain ⟨E, hE⟩ : ∃ E, E = hireE ⟨key, driver, fr, to_, [startLeg veh ⟨a1, s1, m1, f1⟩]⟩ := ⟨_, rfl⟩
  rw [<- hE]
  have HE := Lib.hid hE
  clear hE
  go_enter func213, ntmps213
  go_wp2_with fail
  refine (made_any key driver fr to_ [startLeg veh ⟨a1, s1, m1, f1⟩] (some ⟨w.heap.size + 3, 0, none⟩) 1 1 _ (SlT.ofBlk (l := [startLeg veh ⟨a1, s1, m1, f1⟩]) lg_len (Blk.at_ _ (by simp) _ _)) Hok.out (by omega)).mono ?_
  rintro e w1 ⟨rfl, hg1⟩
  rw [<- HE.out]
  clear HE Hok
  have hb1 : Blk w1 (w.heap.size + 2) 64 [.string ⟨#[]⟩, .string ⟨#[]⟩, .int .i64 0, .int .i64 0, .slice none 0 0] := ((Blk.at_ ((w.alloc _).alloc _) (by simp) _ _).alloc _).grown hg1 (by simp)
  have hl1 : SlT lgEnc 9 68 w1 (some ⟨w.heap.size + 3, 0, none⟩) 1 [startLeg veh ⟨a1, s1, m1, f1⟩] := (SlT.ofBlk (l := [startLeg veh ⟨a1, s1, m1, f1⟩]) lg_len (Blk.at_ (((w.alloc _).alloc _).alloc _) (by simp) _ _)).grow0 hg1
  have hgw : w.grownBy w1 none := grow_trans (grow_alloc (grow_alloc (grow_alloc (grow_alloc (World.grownBy.refl _ _) _) _) _) _) hg1
  have hz : ∀ k, some (w.heap.size + 2) = some k -> w.heap.size <= k := fun k h => by cases h; omega
  clear hg1
  by_cases h0 : E = 0
  · have hV : madeV key driver fr to_ (some ⟨w.heap.size + 3, 0, none⟩) 1 1 E = .agg #[.string key, .string driver, .int .i64 fr, .int .i64 to_, .slice (some ⟨w.heap.size + 3, 0, none⟩) 1 1] := by rw [h0]; rfl
    rw [hV]
    have HV := Lib.hid hV
    clear h0 hV
    go_wp2_with (first
      | (with_reducible refine wpList_store_all rfl 64 (.tmp 10) (.tmp 22) rfl (w.heap.size + 2) _ _ [.string key, .string driver, .int .i64 fr, .int .i64 to_, .slice (some ⟨w.heap.size + 3, 0, none⟩) 1 1] hb1 rfl rfl 5 info_hr rfl rfl (by simp [Value.oneCell']) ?_
         intro w2 hb2 hg2))
    refine ret_blk_tmp (p := 10) (u := 11) (ty := 64) rfl (w.heap.size + 2) _ _ _ hb2 rfl (.int .i64 E) rfl Tryz.underlying64 rfl 5 info_hr rfl rfl ?_
    exact ⟨some ⟨w.heap.size + 3, 0, none⟩, by rw [HV.out], hl1.grown hg2 hb1 (by decide), grow_own hgw hg2 hz⟩
  · have hV : madeV key driver fr to_ (some ⟨w.heap.size + 3, 0, none⟩) 1 1 E = .agg #[.string ⟨#[]⟩, .string ⟨#[]⟩, .int .i64 0, .int .i64 0, .slice none 0 0] := by unfold madeV; rw [if_neg h0]
    rw [hV]
    have HV := Lib.hid hV
    clear h0 hV
    go_wp2_with (first
      | (with_reducible refine wpList_store_all rfl 64 (.tmp 10) (.tmp 22) rfl (w.heap.size + 2) _ _ [.string ⟨#[]⟩, .string ⟨#[]⟩, .int .i64 0, .int .i64 0, .slice none 0 0] hb1 rfl rfl 5 info_hr rfl rfl (by simp [Value.oneCell']) ?_
         intro w2 hb2 hg2))
    refine ret_blk_tmp (p := 10) (u := 11) (ty := 64) rfl (w.heap.size + 2) _ _ _ hb2 rfl (.int .i64 E) rfl Tryz.underlying64 rfl 5 info_hr rfl rfl ?_
    exact ⟨some ⟨w.heap.size + 3, 0, none⟩, by rw [HV.out], hl1.grown hg2 hb1 (by decide), grow_own hgw hg2 hz⟩
theorem eF7 (g:Lg):∀v∈lgEnc g,v.oneCell'=true:=by
 intro v hv
 simp [lgEnc,rdCells] at hv
 rcases hv with rfl|rfl|rfl|rfl|rfl|rfl|rfl|rfl|rfl <;> rfl
def openB (l:List Lg):Bool:=
 match l[l.length - 1]? with
 |some g=>g.inn.at_== -1
 |none=>false
theorem open_any (key driver:ByteArray) (fr to_:Int) (l:List Lg) (A:Option Addr) (n c:Nat) (w:World) (hl:SlT lgEnc 9 68 w A n l) (hn0:0 < n) (hn:n<=1000000):
 Calls prog 261 #[.agg #[.string key,.string driver,.int .i64 fr,.int .i64 to_,.slice A n c]] w (fun e w'=>e=.returned (.bool (openB l))/\w.grownBy w' none):=by
 have hlen:=hl.len
 obtain ⟨g,hg⟩:∃g,l[n - 1]?=some g:=⟨_,fJ5 (by omega)⟩
 obtain ⟨b,off,rfl,hbl,hrg⟩:=hl.get hn0
 have HO:=Lib.hid (show openB l=(g.inn.at_== -1) by unfold openB;rw [hlen,hg])
 obtain ⟨veh,⟨a1,s1,m1,f1⟩,⟨a2,s2,m2,f2⟩⟩:=g
 have hr0:=hrg (n - 1) _ hg
 have hc:w.cell? ⟨b,off+(n - 1) *9+5,none⟩=some (.int .i64 a2):=hr0 5 _ rfl
 have hc2:=fun o=>(World.cell?_of_block (a:=⟨b,off+(n - 1) *9+5,none⟩) (Below.heap_alloc w o b hbl)).trans hc
 have hki:(n:Int) - 1=((n - 1:Nat):Int):=by omega
 have hk1:(n:Int) - 1 < (n:Int):=by omega
 have hk0:(0:Int)<=(n:Int) - 1:=by omega
 clear hr0 hrg hc hg hlen hl
 go_enter func261,ntmps261
 go_wp2_with fail
 go_ret
 exact ⟨nP HO.out.symm,grow_alloc (World.grownBy.refl _ _) _⟩
theorem dW9:∃i z,prog.info? 68=some i/\i.zero=some z/\i.size=9/\i.bytes=96/\z.cells.size=9:=dR0 (by kernel_rfl)
theorem cloneLegs_any (l:List Lg) (A:Option Addr) (n c:Nat) (w:World) (hl:SlT lgEnc 9 68 w A n l) (hn0:0 < n) (hn:n<=1000000):
 Calls prog 262 #[.slice A n c] w (fun e w'=>∃g c',e=.returned (.slice (some ⟨g,0,none⟩) n c')/\OwnT lgEnc 9 68 w' w.heap.size g n c' l/\w.grownBy w' none):=by
 obtain ⟨b,off,rfl,hbl,hfl⟩:=hl.flat lg_len hn0
 have hlen:=hl.len
 obtain ⟨i0,z0,hi,hz,hsz,hby,hzs⟩:=dW9
 have hnews:∀(o:Obj) j u,(l.flatMap lgEnc)[j]?=some u->(w.alloc o).cell? ((⟨b,off,none⟩:Addr).add j)=some u:=fun o j u hj=>
  (World.cell?_of_block (Below.heap_alloc w o _ (by unfold Addr.add;split <;> exact hbl))).trans (hfl j u hj)
 have hone:=dS8 lgEnc eF7 l
 have hll:=bT4 lgEnc 9 lg_len l
 rw [hlen] at hll
 clear hfl hl
 have Hnews:=Lib.hid hnews
 clear hnews
 have he:∀w:World,(binOp .eql 62 (.slice (some ⟨b,off,none⟩) n c) (.slice none 0 0)).run prog w= .ok (.bool false) w:=fun _=>rfl
 go_enter func262,ntmps262
 go_wp2_with (at_builtin;refine wpList_append_own_at _ rfl _ _ 62 rfl w.heap.size 68 i0 z0 9 96 Tryz.underlying62 hi hz hsz hby hzs (by decide) (.slice (some ⟨w.heap.size,0,none⟩) 0 0) 0 [] rfl ⟨rfl,.inr ⟨w.heap.size,0,#[],rfl,Nat.le_refl _,heap_alloc_new w _,Nat.le_refl _,by decide,rfl,rfl⟩⟩ ⟨b,off,none⟩ n c (l.flatMap lgEnc) rfl hll (Hnews.out _) hone (by unfold maxLen;omega) (by omega) (by simp) ?_;intro v' w' hown hgrow hnil hat)
 rw [Nat.zero_add,List.nil_append] at hown
 have hown2:=hown
 obtain ⟨_,ho⟩:=hown2
 rcases ho with ⟨_,h0⟩|⟨g,eV,rC,rfl,hg,_⟩
 ·omega
 ·go_ret
  exact ⟨g,eV,U,⟨hg,hown⟩,grow_own (grow_alloc (World.grownBy.refl _ _) _) hgrow (fun k h=>by cases h;exact Nat.le_refl _)⟩
def goingE (h:Hr):Int:=if hireE h=0 then (if openB h.legs then 0 else 11) else hireE h
def noHire:Value:= .agg #[.string ⟨#[]⟩,.string ⟨#[]⟩,.int .i64 0,.int .i64 0,.slice none 0 0]
theorem hireE_legs {h:Hr} (hh:hireE h=0):0 < h.legs.length/\h.legs.length<=20:=by
 obtain ⟨key,driver,fr,to_,l⟩:=h
 unfold hireE at hh
 by_cases h1:l.length=0
 ·exfalso
  simp only [h1,if_true] at hh
  revert hh
  generalize dK (!keyB key|| !keyB driver) 5=x
  generalize zO fr to_=y
  intro hh
  by_cases hx:x=0 <;> by_cases hy:y=0 <;> simp [dI,hx,hy] at hh
 ·by_cases h2:20 < l.length
  ·exfalso
   simp only [h1,h2,if_true,if_false] at hh
   revert hh
   generalize dK (!keyB key|| !keyB driver) 5=x
   generalize zO fr to_=y
   intro hh
   by_cases hx:x=0 <;> by_cases hy:y=0 <;> simp [dI,hx,hy] at hh
  ·show 0 < l.length/\l.length<=20
   omega
theorem going_any (key driver : ByteArray) (fr to_ : Int) (l : List Lg) (A : Option Addr) (n c : Nat) (w : World) (hl : SlT lgEnc 9 68 w A n l) (hok : HrOk key driver l) (hn : n <= 1000000) :
    Calls prog 245 #[.agg #[.string key, .string driver, .int .i64 fr, .int .i64 to_, .slice A n c]] w (fun e w' => w.grownBy w' none /\
      ((goingE ⟨key, driver, fr, to_, l⟩ = 0 /\ ∃ g c', e = .returned (.tuple #[.agg #[.string key, .string driver, .int .i64 fr, .int .i64 to_, .slice (some ⟨g, 0, none⟩) n c'], .int .i64 0]) /\ OwnT lgEnc 9 68 w' w.heap.size g n c' l) ∨
       (goingE ⟨key, driver, fr, to_, l⟩ ≠ 0 /\ e = .returned (.tuple #[noHire, .int .i64 (goingE ⟨key, driver, fr, to_, l⟩)])))) := by
  obtain ⟨E, hE⟩ : ∃ E, E = hireE ⟨key, driver, fr, to_, l⟩ := ⟨_, rfl⟩
  obtain ⟨G, hG⟩ : ∃ G, G = goingE ⟨key, driver, fr, to_, l⟩ := ⟨_, rfl⟩
  rw [<- hG]
  have HE := Lib.hid hE
  have HG := Lib.hid hG
  clear hE hG
  go_enter func245, ntmps245
  go_wp2_with fail
  refine (hcheck_any key driver fr to_ l A n c _ ((hl.alloc _).alloc _) hok hn).mono ?_
  rintro e w1 ⟨rfl, hg1⟩
  rw [<- HE.out]
  have hb1 : Blk w1 (w.heap.size + 1) 64 [.string ⟨#[]⟩, .string ⟨#[]⟩, .int .i64 0, .int .i64 0, .slice none 0 0] := (Blk.at_ (w.alloc _) (by simp) _ _).grown hg1 (by simp)
  have hb0 : Blk w1 w.heap.size 64 [.string key, .string driver, .int .i64 fr, .int .i64 to_, .slice A n c] := ((Blk.at_ w rfl _ _).alloc _).grown hg1 (by simp)
  have hgw : w.grownBy w1 none := grow_trans (grow_alloc (grow_alloc (World.grownBy.refl _ _) _) _) hg1
  have hz : ∀ k, some (w.heap.size + 1) = some k -> w.heap.size <= k := fun k h => by cases h; omega
  clear hg1
  by_cases h0 : E = 0
  · have hlen := hireE_legs (HE.out.symm.trans h0)
    have hn0 : 0 < n := by have := hl.len; exact this ▸ hlen.1
    obtain ⟨O, hO⟩ : ∃ O, O = openB l := ⟨_, rfl⟩
    have HGO := Lib.hid (show G = if O then 0 else 11 by rw [HG.out]; unfold goingE; rw [if_pos (HE.out.symm.trans h0), hO])
    have cO : ∀ w' : World, w.grownBy w' none -> Calls prog 261 #[.agg #[.string key, .string driver, .int .i64 fr, .int .i64 to_, .slice A n c]] w' (fun e w'' => e = .returned (.bool O) /\ w'.grownBy w'' none) := fun w' hg => by
      rw [hO]
      exact open_any key driver fr to_ l A n c w' (hl.grow0 hg) hn0 hn
    have CO := Lib.hid cO
    clear hlen hO cO
    subst h0
    go_wp2_with (with_reducible refine wpList_load_all rfl 64 (.tmp 1) rfl w.heap.size _ _ _ hb0 rfl Tryz.underlying64 rfl 5 info_hr rfl ?_)
    refine (CO.out _ hgw).mono ?_
    rintro e w2 ⟨rfl, hg2⟩
    have hb0 := hb0.grown hg2 (by simp)
    have hb1 := hb1.grown hg2 (by simp)
    have hgw := grow_trans hgw hg2
    clear hg2
    cases O
    · have HF := Lib.hid (show G = 11 from HGO.out)
      go_wp2_with (first
        | (with_reducible refine wpList_store_all rfl 64 (.tmp 2) (.tmp 14) rfl (w.heap.size + 1) _ _ [.string ⟨#[]⟩, .string ⟨#[]⟩, .int .i64 0, .int .i64 0, .slice none 0 0] hb1 rfl rfl 5 info_hr rfl rfl (by simp [Value.oneCell']) ?_
           intro w3 hb3 hg3))
      refine ret_blk_tmp (p := 2) (u := 3) (ty := 64) rfl (w.heap.size + 1) _ _ _ hb3 rfl (.int .i64 11) rfl Tryz.underlying64 rfl 5 info_hr rfl rfl ?_
      exact ⟨grow_own hgw hg3 hz, .inr ⟨by rw [HF.out]; decide, by rw [HF.out]; rfl⟩⟩
    · have HF := Lib.hid (show G = 0 from HGO.out)
      have c3 := hb0.cell_of (i := 4) (v := .slice A n c) rfl
      have f3 := hb0.frozen 4
      go_wp2_with fail
      refine (cloneLegs_any l A n c _ (hl.grow0 hgw) hn0 hn).mono ?_
      rintro e w3 ⟨g, c', rfl, hown, hg3⟩
      have hz2 := hb1.lt
      have hz3 := hown.1
      have hl3 := hown.lt
      have hb0 := hb0.grown hg3 (by simp)
      have hb1 := hb1.grown hg3 (by simp)
      have hgw := grow_trans hgw hg3
      have c4 := hb0.cell_of (i := 4) (v := .slice A n c) rfl
      have f4 := hb0.frozen 4
      have hbS : Blk (w3.setCell ⟨w.heap.size, 4, none⟩ (.slice (some ⟨g, 0, none⟩) n c')) w.heap.size 64 [.string key, .string driver, .int .i64 fr, .int .i64 to_, .slice (some ⟨g, 0, none⟩) n c'] := hb0.set_ 4 _
      have hb1S : Blk (w3.setCell ⟨w.heap.size, 4, none⟩ (.slice (some ⟨g, 0, none⟩) n c')) (w.heap.size + 1) 64 [.string ⟨#[]⟩, .string ⟨#[]⟩, .int .i64 0, .int .i64 0, .slice none 0 0] := hb1.far (by simp) _
      have hgS : w.grownBy (w3.setCell ⟨w.heap.size, 4, none⟩ (.slice (some ⟨g, 0, none⟩) n c')) none := grow_setCell hgw (.inr (Nat.le_refl _)) _
      have hkeep : (w3.setCell ⟨w.heap.size, 4, none⟩ (.slice (some ⟨g, 0, none⟩) n c')).heap[g]? = w3.heap[g]? := Below.heap_setCell w3 _ _ g (by simp; omega)
      have hlS : g < (w3.setCell ⟨w.heap.size, 4, none⟩ (.slice (some ⟨g, 0, none⟩) n c')).heap.size := by simpa [World.setCell] using hl3
      clear c3 f3 hg3
      go_wp2_with (first
        | (with_reducible refine wpList_load_all rfl 64 (.tmp 1) rfl w.heap.size _ _ _ hbS rfl Tryz.underlying64 rfl 5 info_hr rfl ?_)
        | (with_reducible refine wpList_store_all rfl 64 (.tmp 2) (.tmp 19) rfl (w.heap.size + 1) _ _ [.string key, .string driver, .int .i64 fr, .int .i64 to_, .slice (some ⟨g, 0, none⟩) n c'] hb1S rfl rfl 5 info_hr rfl rfl (by simp [Value.oneCell']) ?_
           intro w4 hb4 hg4))
      refine ret_blk_tmp (p := 2) (u := 3) (ty := 64) rfl (w.heap.size + 1) _ _ _ hb4 rfl (.int .i64 0) rfl Tryz.underlying64 rfl 5 info_hr rfl rfl ?_
      exact ⟨grow_own hgS hg4 hz, .inl ⟨HF.out, g, c', rfl, hown.kept ((hg4.block g hlS (fun h => absurd (Option.some.inj h) (by omega))).trans hkeep) (by omega)⟩⟩
  · have hne : (E != 0) = true := by simpa using h0
    have HF := Lib.hid (show G = E by rw [HG.out]; unfold goingE; rw [if_neg (fun h => h0 (HE.out.trans h)), HE.out])
    have HN := Lib.hid h0
    clear h0
    go_wp2_with (first
      | (with_reducible refine wpList_store_all rfl 64 (.tmp 2) (.tmp 9) rfl (w.heap.size + 1) _ _ [.string ⟨#[]⟩, .string ⟨#[]⟩, .int .i64 0, .int .i64 0, .slice none 0 0] hb1 rfl rfl 5 info_hr rfl rfl (by simp [Value.oneCell']) ?_
         intro w2 hb2 hg2))
    refine ret_blk_tmp (p := 2) (u := 3) (ty := 64) rfl (w.heap.size + 1) _ _ _ hb2 rfl (.int .i64 E) rfl Tryz.underlying64 rfl 5 info_hr rfl rfl ?_
    exact ⟨grow_own hgw hg2 hz, .inr ⟨by rw [HF.out]; exact HN.out, by rw [HF.out]; rfl⟩⟩
def endLegs (l:List Lg) (r:Rd):List Lg:=
 match l[l.length - 1]? with
 |some g=>l.set (l.length - 1) ⟨g.veh,g.out,r⟩
 |none=>l
def closeE (h:Hr) (r:Rd):Int:=if goingE h=0 then hireE ⟨h.key,h.driver,h.fr,h.to_,endLegs h.legs r⟩ else goingE h
theorem info_rd:(prog.info? 66).map (·.size)=some 4:=by kernel_rfl
theorem goingE_ok {h:Hr} (hg:goingE h=0):hireE h=0/\openB h.legs=true:=by
 unfold goingE at hg
 by_cases h0:hireE h=0
 ·rw [if_pos h0] at hg
  refine ⟨h0,?_⟩
  by_cases ho:openB h.legs=true
  ·exact ho
  ·rw [if_neg ho] at hg;cases hg
 ·rw [if_neg h0] at hg;exact absurd hg h0
theorem end_ok {l:List Lg} {r:Rd} (h:∀g∈l,cO9 g) (hr:RdOk r):∀g∈endLegs l r,cO9 g:=by
 unfold endLegs
 cases hl:l[l.length - 1]? with
 |none=>exact h
 |some g=>
  intro x hx
  rcases List.mem_or_eq_of_mem_set hx with hx|rfl
  ·exact h x hx
  ·have:=h g (fK5 hl)
   exact ⟨this.1,this.2.1,hr⟩
theorem close_any (key driver : ByteArray) (fr to_ : Int) (l : List Lg) (A : Option Addr) (n c : Nat) (r : Rd) (w : World) (hl : SlT lgEnc 9 68 w A n l) (hok : HrOk key driver l) (hr : RdOk r) (hn : n <= 1000000) :
    Calls prog 215 #[.agg #[.string key, .string driver, .int .i64 fr, .int .i64 to_, .slice A n c], .agg (rdCells r).toArray] w (fun e w' => w.grownBy w' none /\
      ∃ A' c', e = .returned (.tuple #[madeV key driver fr to_ A' n c' (closeE ⟨key, driver, fr, to_, l⟩ r), .int .i64 (closeE ⟨key, driver, fr, to_, l⟩ r)]) /\ (closeE ⟨key, driver, fr, to_, l⟩ r = 0 -> SlT lgEnc 9 68 w' A' n (endLegs l r))) := by
  obtain ⟨E, hE⟩ : ∃ E, E = closeE ⟨key, driver, fr, to_, l⟩ r := ⟨_, rfl⟩
  obtain ⟨G, hG⟩ : ∃ G, G = goingE ⟨key, driver, fr, to_, l⟩ := ⟨_, rfl⟩
  rw [<- hE]
  have HE := Lib.hid hE
  have HG := Lib.hid hG
  have Hok := Lib.hid hok
  have Hend := Lib.hid (end_ok hok.2.2 hr)
  have hlen := hl.len
  clear hE hG hok
  obtain ⟨at_, st, me, fu⟩ := r
  show Calls prog 215 #[.agg #[.string key, .string driver, .int .i64 fr, .int .i64 to_, .slice A n c], .agg #[.int .i64 at_, .string st, .int .i64 me, .int .i64 fu]] w _
  go_enter func215, ntmps215
  go_wp2_with fail
  refine (going_any key driver fr to_ l A n c _ (((hl.alloc _).alloc _).alloc _) Hok.out hn).mono ?_
  rintro e w1 ⟨hg1, hcase⟩
  have hbA : Blk w1 w.heap.size 64 [.string key, .string driver, .int .i64 fr, .int .i64 to_, .slice A n c] := (((Blk.at_ w rfl _ _).alloc _).alloc _).grown hg1 (by simp)
  have hbB : Blk w1 (w.heap.size + 1) 66 [.int .i64 at_, .string st, .int .i64 me, .int .i64 fu] := ((Blk.at_ (w.alloc _) (by simp) _ _).alloc _).grown hg1 (by simp)
  have hbC : Blk w1 (w.heap.size + 2) 64 [.string ⟨#[]⟩, .string ⟨#[]⟩, .int .i64 0, .int .i64 0, .slice none 0 0] := (Blk.at_ ((w.alloc _).alloc _) (by simp) _ _).grown hg1 (by simp)
  have hgw : w.grownBy w1 none := grow_trans (grow_alloc (grow_alloc (grow_alloc (World.grownBy.refl _ _) _) _) _) hg1
  have hzA : ∀ k, some w.heap.size = some k -> w.heap.size <= k := fun k h => by cases h; omega
  have hzC : ∀ k, some (w.heap.size + 2) = some k -> w.heap.size <= k := fun k h => by cases h; omega
  clear hg1
  rw [<- HG.out] at hcase
  rcases hcase with ⟨hG0, g, c', rfl, hown⟩ | ⟨hG0, rfl⟩
  · have hgo := goingE_ok (HG.out.symm.trans hG0)
    have hn0 : 0 < n := by have := (hireE_legs hgo.1).1; exact hlen ▸ this
    have HEE := Lib.hid (show E = hireE ⟨key, driver, fr, to_, endLegs l ⟨at_, st, me, fu⟩⟩ by rw [HE.out]; unfold closeE; rw [if_pos (HG.out.symm.trans hG0)])
    subst hG0
    clear hgo
    have hgz : w.heap.size + 3 <= g := by have := hown.1; simp at this; omega
    have hgl := hown.lt
    obtain ⟨cs, hbg, hcs, htk⟩ := hown.blk
    have Htk := Lib.hid htk
    clear htk hown
    obtain ⟨x, hx⟩ : ∃ x, l[n - 1]? = some x := ⟨_, fJ5 (by omega)⟩
    have Hx := Lib.hid hx
    have HL := Lib.hid (show endLegs l ⟨at_, st, me, fu⟩ = l.set (n - 1) ⟨x.veh, x.out, ⟨at_, st, me, fu⟩⟩ by unfold endLegs; rw [hlen, hx])
    have hfit : (n - 1) * 9 + 5 + 4 <= cs.length := by omega
    have hki : (n : Int) - 1 = ((n - 1 : Nat) : Int) := by omega
    have hk1 : (n : Int) - 1 < (n : Int) := by omega
    clear hx
    go_wp2_with (first
      | (with_reducible refine wpList_store_all rfl 64 (.tmp 2) (.tmp 10) rfl w.heap.size _ _ [.string key, .string driver, .int .i64 fr, .int .i64 to_, .slice (some ⟨g, 0, none⟩) n c'] hbA rfl rfl 5 info_hr rfl rfl (by simp [Value.oneCell']) ?_
         intro w2 hbA2 hg2
         have k4 := hbA2.cell_of (i := 4) (v := .slice (some ⟨g, 0, none⟩) n c') rfl
         have hbB2 := hbB.grown hg2 (fun h => absurd (Option.some.inj h) (by omega))
         have b0 := hbB2.cell_of (i := 0) (v := .int .i64 at_) rfl
         have b1 := hbB2.cell_of (i := 1) (v := .string st) rfl
         have b2 := hbB2.cell_of (i := 2) (v := .int .i64 me) rfl
         have b3 := hbB2.cell_of (i := 3) (v := .int .i64 fu) rfl
         have hbg2 := hbg.grown hg2 (fun h => absurd (Option.some.inj h) (by omega)))
      | (with_reducible refine wpList_store_blk rfl 66 (.tmp 24) (.tmp 22) rfl g ((n - 1) * 9 + 5) _ cs [.int .i64 at_, .string st, .int .i64 me, .int .i64 fu] hbg2 rfl rfl 4 info_rd rfl hfit (by simp [Value.oneCell']) ?_
         intro w3 hbg3 hg3
         have hbA3 := hbA2.grown hg3 (fun h => absurd (Option.some.inj h) (by omega)))
      | (with_reducible refine wpList_load_all rfl 64 (.tmp 2) rfl w.heap.size _ _ _ hbA3 rfl Tryz.underlying64 rfl 5 info_hr rfl ?_))
    have hsl : SlT lgEnc 9 68 w3 (some ⟨g, 0, none⟩) n (endLegs l ⟨at_, st, me, fu⟩) := by
      rw [HL.out]
      exact SlT.spliced lg_len hcs Htk.out hlen (r := 5) (vs := [.int .i64 at_, .string st, .int .i64 me, .int .i64 fu]) Hx.out rfl (by simp) hbg3
    have hz2 := hbC.lt
    have hgw2 := grow_own hgw hg2 hzA
    have hgw3 := grow_own hgw2 hg3 (fun k h => by cases h; omega)
    have hbC3 := (hbC.grown hg2 (fun h => absurd (Option.some.inj h) (by omega))).grown hg3 (fun h => absurd (Option.some.inj h) (by omega))
    clear hbA hbB hbC hbg hg2 hg3 hgw hgw2 hbA2 hbA3 hbB2 b0 b1 b2 b3 k4 hbg2 hbg3
    refine (made_any key driver fr to_ (endLegs l ⟨at_, st, me, fu⟩) (some ⟨g, 0, none⟩) n c' w3 hsl ⟨Hok.out.1, Hok.out.2.1, Hend.out⟩ hn).mono ?_
    rintro e w4 ⟨rfl, hg4⟩
    rw [<- HEE.out]
    have hsl4 := hsl.grow0 hg4
    have hbC4 := hbC3.grown hg4 (by simp)
    have hgw4 := grow_trans hgw3 hg4
    clear hsl hbC3 hgw3 hg4
    by_cases h0 : E = 0
    · have hV : madeV key driver fr to_ (some ⟨g, 0, none⟩) n c' E = .agg #[.string key, .string driver, .int .i64 fr, .int .i64 to_, .slice (some ⟨g, 0, none⟩) n c'] := by rw [h0]; rfl
      rw [hV]
      have HV := Lib.hid hV
      clear h0 hV
      go_wp2_with (first
        | (with_reducible refine wpList_store_all rfl 64 (.tmp 4) (.tmp 27) rfl (w.heap.size + 2) _ _ [.string key, .string driver, .int .i64 fr, .int .i64 to_, .slice (some ⟨g, 0, none⟩) n c'] hbC4 rfl rfl 5 info_hr rfl rfl (by simp [Value.oneCell']) ?_
           intro w5 hb5 hg5))
      refine ret_blk_tmp (p := 4) (u := 5) (ty := 64) rfl (w.heap.size + 2) _ _ _ hb5 rfl (.int .i64 E) rfl Tryz.underlying64 rfl 5 info_hr rfl rfl ?_
      exact ⟨grow_own hgw4 hg5 hzC, some ⟨g, 0, none⟩, c', by rw [HV.out], fun _ => hsl4.grown hg5 hbC4 (by decide)⟩
    · have hV : madeV key driver fr to_ (some ⟨g, 0, none⟩) n c' E = .agg #[.string ⟨#[]⟩, .string ⟨#[]⟩, .int .i64 0, .int .i64 0, .slice none 0 0] := by unfold madeV; rw [if_neg h0]
      rw [hV]
      have HV := Lib.hid hV
      have H0 := Lib.hid h0
      clear h0 hV
      go_wp2_with (first
        | (with_reducible refine wpList_store_all rfl 64 (.tmp 4) (.tmp 27) rfl (w.heap.size + 2) _ _ [.string ⟨#[]⟩, .string ⟨#[]⟩, .int .i64 0, .int .i64 0, .slice none 0 0] hbC4 rfl rfl 5 info_hr rfl rfl (by simp [Value.oneCell']) ?_
           intro w5 hb5 hg5))
      refine ret_blk_tmp (p := 4) (u := 5) (ty := 64) rfl (w.heap.size + 2) _ _ _ hb5 rfl (.int .i64 E) rfl Tryz.underlying64 rfl 5 info_hr rfl rfl ?_
      exact ⟨grow_own hgw4 hg5 hzC, some ⟨g, 0, none⟩, c', by rw [HV.out], fun h => absurd h H0.out⟩
  · have hne : (G != 0) = true := by simpa using hG0
    have HEE := Lib.hid (show E = G by rw [HE.out]; unfold closeE; rw [if_neg (fun h => hG0 (HG.out.trans h)), HG.out])
    rw [show noHire = .agg #[.string ⟨#[]⟩, .string ⟨#[]⟩, .int .i64 0, .int .i64 0, .slice none 0 0] from rfl]
    have hN := Lib.hid hG0
    have HV := Lib.hid (show madeV key driver fr to_ none n 0 E = .agg #[.string ⟨#[]⟩, .string ⟨#[]⟩, .int .i64 0, .int .i64 0, .slice none 0 0] by unfold madeV; rw [if_neg (by rw [HEE.out]; exact hG0)])
    clear hG0
    go_wp2_with (first
      | (with_reducible refine wpList_store_all rfl 64 (.tmp 2) (.tmp 10) rfl w.heap.size _ _ [.string ⟨#[]⟩, .string ⟨#[]⟩, .int .i64 0, .int .i64 0, .slice none 0 0] hbA rfl rfl 5 info_hr rfl rfl (by simp [Value.oneCell']) ?_
         intro w2 hbA2 hg2
         have hbC2 := hbC.grown hg2 (fun h => absurd (Option.some.inj h) (by omega)))
      | (with_reducible refine wpList_store_all rfl 64 (.tmp 4) (.tmp 14) rfl (w.heap.size + 2) _ _ [.string ⟨#[]⟩, .string ⟨#[]⟩, .int .i64 0, .int .i64 0, .slice none 0 0] hbC2 rfl rfl 5 info_hr rfl rfl (by simp [Value.oneCell']) ?_
         intro w3 hb3 hg3))
    refine ret_blk_tmp (p := 4) (u := 5) (ty := 64) rfl (w.heap.size + 2) _ _ _ hb3 rfl (.int .i64 G) rfl Tryz.underlying64 rfl 5 info_hr rfl rfl ?_
    exact ⟨grow_own (grow_own hgw hg2 hzA) hg3 hzC, none, 0, by rw [HV.out, HEE.out], fun h => absurd (HEE.out.symm.trans h) hN.out⟩
def gZ (l:List Lg) (r:Rd) (veh:ByteArray) (q:Rd):List Lg:=endLegs l r++ [startLeg veh q]
theorem dU2 {l:List Lg} {r:Rd} {veh:ByteArray} {q:Rd} (h:∀g∈l,cO9 g) (hr:RdOk r) (hv:veh.size<=1000000) (hq:RdOk q):∀g∈gZ l r veh q,cO9 g:=by
 intro g hg
 rcases List.mem_append.1 hg with hg|hg
 ·exact end_ok h hr g hg
 ·rw [List.mem_singleton.1 hg]
  exact ⟨hv,hq,(by decide:(⟨#[]⟩:ByteArray).size<=1000000)⟩
def bU3 (E:Int) (h:Hr):Hr:=if E=0 then h else ⟨⟨#[]⟩,⟨#[]⟩,0,0, []⟩
theorem bT0 {E:Int} {h:Hr} (h0:E=0):bU3 E h=h:=if_pos h0
theorem eC3 {E:Int} {h:Hr} (h0:¬E=0):bU3 E h=⟨⟨#[]⟩,⟨#[]⟩,0,0, []⟩:=if_neg h0
def cQ9 (w:World) (E:Int) (h:Hr) (e:Ending) (w':World):Prop:=
 ∃A n c,e=.returned (.tuple #[.agg #[.string (bU3 E h).key,.string (bU3 E h).driver,.int .i64 (bU3 E h).fr,.int .i64 (bU3 E h).to_,.slice A n c],.int .i64 E])/\w.grownBy w' none/\SlT lgEnc 9 68 w' A n (bU3 E h).legs
theorem cF1 {w w':World} {E:Int} {key driver:ByteArray} {fr to_:Int} {l:List Lg} {A:Option Addr} {n c:Nat} (h0:E=0) (hg:w.grownBy w' none) (hs:SlT lgEnc 9 68 w' A n l):
 cQ9 w E ⟨key,driver,fr,to_,l⟩ (.returned (.tuple #[.agg #[.string key,.string driver,.int .i64 fr,.int .i64 to_,.slice A n c],.int .i64 E])) w':=by
 refine ⟨A,n,c,?_,hg,?_⟩ <;> rw [bT0 h0]
 exact hs
theorem bM5 {w w':World} {E:Int} {h:Hr} (h0:¬E=0) (hg:w.grownBy w' none):
 cQ9 w E h (.returned (.tuple #[.agg #[.string ⟨#[]⟩,.string ⟨#[]⟩,.int .i64 0,.int .i64 0,.slice none 0 0],.int .i64 E])) w':=by
 refine ⟨none,0,0,?_,hg,?_⟩ <;> rw [eC3 h0]
 exact SlT.nil_ _ _
theorem fL2 {w w':World} {E:Int} {key driver:ByteArray} {fr to_:Int} {l:List Lg} {A:Option Addr} {n c:Nat} {e:Ending} (hg:w.grownBy w' none) (hs:E=0->SlT lgEnc 9 68 w' A n l) (he:e=.returned (.tuple #[madeV key driver fr to_ A n c E,.int .i64 E])):cQ9 w E ⟨key,driver,fr,to_,l⟩ e w':=by
 subst he
 unfold madeV
 by_cases h0:E=0
 ·rw [if_pos h0];exact cF1 h0 hg (hs h0)
 ·rw [if_neg h0];exact bM5 h0 hg
theorem eN6 (key driver:ByteArray) (fr to_:Int) (l:List Lg) (A:Option Addr) (n c:Nat) (r:Rd) (w:World) (hl:SlT lgEnc 9 68 w A n l) (hok:HrOk key driver l) (hr:RdOk r) (hn:n<=1000000):
 Calls prog 215 #[.agg #[.string key,.string driver,.int .i64 fr,.int .i64 to_,.slice A n c],.agg (rdCells r).toArray] w (cQ9 w (closeE ⟨key,driver,fr,to_,l⟩ r) ⟨key,driver,fr,to_,endLegs l r⟩):=
 (close_any key driver fr to_ l A n c r w hl hok hr hn).mono fun _ _ ⟨hg,_,_,he,hs⟩=>fL2 hg hs he
theorem eB1 (key driver:ByteArray) (fr to_:Int) (veh:ByteArray) (r:Rd) (w:World) (hk:key.size<=1000000) (hd:driver.size<=1000000) (hv:veh.size<=1000000) (hr:RdOk r):
 Calls prog 213 #[.string key,.string driver,.agg #[.int .i64 fr,.int .i64 to_],.string veh,.agg (rdCells r).toArray] w (cQ9 w (hireE ⟨key,driver,fr,to_, [startLeg veh r]⟩) ⟨key,driver,fr,to_, [startLeg veh r]⟩):=
 (start_any key driver fr to_ veh r w hk hd hv hr).mono fun _ _ ⟨_,he,hs,hg⟩=>fL2 hg (fun _=>hs) he
theorem dB9 (key driver:ByteArray) (fr to_:Int) (l:List Lg) (A:Option Addr) (n c:Nat) (w:World) (hl:SlT lgEnc 9 68 w A n l) (hok:HrOk key driver l) (hn:n<=1000000):
 Calls prog 245 #[.agg #[.string key,.string driver,.int .i64 fr,.int .i64 to_,.slice A n c]] w (fun e w'=>∃(k d:ByteArray) (f t:Int) (v:Value) (m:Nat) (xs:List Value),e=.returned (.tuple #[.agg #[.string k,.string d,.int .i64 f,.int .i64 t,v],.int .i64 (goingE ⟨key,driver,fr,to_,l⟩)])/\
  (goingE ⟨key,driver,fr,to_,l⟩=0->key=k/\driver=d/\fr=f/\to_=t/\n=m/\l.flatMap lgEnc=xs)/\(¬goingE ⟨key,driver,fr,to_,l⟩=0->(⟨#[]⟩:ByteArray)=k/\(⟨#[]⟩:ByteArray)=d/\0=f/\0=t/\ .slice none 0 0=v/\0=m/\ []=xs)/\w'.ownsRow w.heap.size 68 9 v m xs/\w.grownBy w' none):=by
 refine (going_any key driver fr to_ l A n c w hl hok hn).mono fun e w' ⟨hg,h⟩=>?_
 rcases h with ⟨h0,g,c',he,ho⟩|⟨h0,he⟩
 ·exact ⟨key,driver,fr,to_,_,n,_,by rw [h0];exact he,fun _=>⟨rfl,rfl,rfl,rfl,rfl,rfl⟩,fun h=>absurd h0 h,ho.2,hg⟩
 ·exact ⟨⟨#[]⟩,⟨#[]⟩,0,0,.slice none 0 0,0, [],he,fun h=>absurd h h0,fun _=>⟨U,U,U,U,U,U,U⟩,⟨U,.inl ⟨U,U⟩⟩,hg⟩
theorem cI8 {key driver:ByteArray} {fr to_:Int} {l:List Lg} {A:Option Addr} {n c:Nat} {w:World} (hl:SlT lgEnc 9 68 w A n l) (hok:HrOk key driver l) (hn:n<=1000000) (h0:hireE ⟨key,driver,fr,to_,l⟩=0):
 Calls prog 244 #[.agg #[.string key,.string driver,.int .i64 fr,.int .i64 to_,.slice A n c]] w (fun e w'=>e=.returned (.tuple #[.agg #[.string key,.string driver,.int .i64 fr,.int .i64 to_,.slice A n c],.int .i64 (hireE ⟨key,driver,fr,to_,l⟩)])/\w.grownBy w' none):=by
 refine (made_any key driver fr to_ l A n c w hl hok hn).mono fun e w' ⟨he,hg⟩=>⟨?_,hg⟩
 unfold madeV at he;rw [if_pos h0] at he;exact he
theorem dN3 {key driver:ByteArray} {fr to_:Int} {l:List Lg} {A:Option Addr} {n c:Nat} {w:World} (hl:SlT lgEnc 9 68 w A n l) (hok:HrOk key driver l) (hn:n<=1000000) (h0:¬hireE ⟨key,driver,fr,to_,l⟩=0):
 Calls prog 244 #[.agg #[.string key,.string driver,.int .i64 fr,.int .i64 to_,.slice A n c]] w (fun e w'=>e=.returned (.tuple #[.agg #[.string ⟨#[]⟩,.string ⟨#[]⟩,.int .i64 0,.int .i64 0,.slice none 0 0],.int .i64 (hireE ⟨key,driver,fr,to_,l⟩)])/\w.grownBy w' none):=by
 refine (made_any key driver fr to_ l A n c w hl hok hn).mono fun e w' ⟨he,hg⟩=>⟨?_,hg⟩
 unfold madeV at he;rw [if_neg h0] at he;exact he
def bR4 (h:Hr) (to2:Int):Int:=if goingE h=0 then hireE ⟨h.key,h.driver,h.fr,to2,h.legs⟩ else goingE h
def cL7 (h:Hr) (r:Rd) (veh:ByteArray) (q:Rd):Int:=if goingE h=0 then hireE ⟨h.key,h.driver,h.fr,h.to_,gZ h.legs r veh q⟩ else goingE h
theorem eS2 (key driver:ByteArray) (fr to_:Int) (l:List Lg) (A:Option Addr) (n c:Nat) (to2:Int) (w:World) (hl:SlT lgEnc 9 68 w A n l) (hok:HrOk key driver l) (hn:n<=1000000):
 Calls prog 214 #[.agg #[.string key,.string driver,.int .i64 fr,.int .i64 to_,.slice A n c],.int .i64 to2] w (cQ9 w (bR4 ⟨key,driver,fr,to_,l⟩ to2) ⟨key,driver,fr,to2,l⟩):=by
 have hlen:=hl.len
 refine cV ⟨23,w,none, []⟩ func214 U ntmps214 U (gR (X:= [bU lgEnc 9 68 w.heap.size none A n l]) (cG hl.old cY) (cH bU.lasts cZ)) (bS (fG U U U fun g1=>dH bA6 U fun g2=>bZ U (bR (bS (bB (cX nT U (fun _ hm=>hm.blkI 1 U) U U) U ?_)))))
 refine bL2 (γ:=ByteArray×ByteArray×Int×Int×Value×Nat×List Value) (val:=(fun g=> .tuple #[.agg #[.string g.1,.string g.2.1,.int .i64 g.2.2.1,.int .i64 g.2.2.2.1,g.2.2.2.2.1],.int .i64 (goingE ⟨key,driver,fr,to_,l⟩)])) (φ:=(fun g=>(goingE ⟨key,driver,fr,to_,l⟩=0->key=g.1/\driver=g.2.1/\fr=g.2.2.1/\to_=g.2.2.2.1/\n=g.2.2.2.2.2.1/\l.flatMap lgEnc=g.2.2.2.2.2.2)/\(¬goingE ⟨key,driver,fr,to_,l⟩=0->(⟨#[]⟩:ByteArray)=g.1/\(⟨#[]⟩:ByteArray)=g.2.1/\0=g.2.2.1/\0=g.2.2.2.1/\ .slice none 0 0=g.2.2.2.2.1/\0=g.2.2.2.2.2.1/\ []=g.2.2.2.2.2.2))) (fun g=>⟨g.2.2.2.2.1,68,9,g.2.2.2.2.2.1,g.2.2.2.2.2.2⟩) U eM5 U U (fun wx hm=>(dB9 key driver fr to_ l A n c wx (hm.fact 0 U).1 hok (by omega)).mono fun _ _ ⟨k,d,f,t,v,m,xs,he,h1,h2,ho,hg⟩=>⟨(k,d,f,t,v,m,xs),he,⟨h1,h2⟩,ho,hg⟩) ?_
 rintro ⟨k1,d1,f1,t1,v1,m1,xs1⟩ mT
 dsimp only at mT ⊢
 by_cases hG:goingE ⟨key,driver,fr,to_,l⟩=0
 ·obtain ⟨rfl,rfl,rfl,rfl,rfl,rfl⟩:=mT.1 hG
  clear mT
  have zX:bR4 ⟨key,driver,fr,to_,l⟩ to2=hireE ⟨key,driver,fr,to2,l⟩:=if_pos hG
  have hgo:=goingE_ok hG
  have hn0:0 < n:=by have:=(hireE_legs hgo.1).1;exact hlen ▸ this
  refine eD (R:=∃A cc,v1= .slice A n cc) (fun wx hm=>dS (hm.ownI 0 U)) ?_
  rintro ⟨A1,c1,rfl⟩
  refine bP U (bB (cR U U) U (bB (cR U U) U (jX (cs':= [.string key,.string driver,.int .i64 fr,.int .i64 to_,.slice A1 n c1]) 1 nT U U U U (bZ U (bR (bH (bS (bP U (bB (gX U U) U (bL 13 (v':= .bool false) U (fH5 (by rw [hG];rfl)) (bR (jU U (bN (bD (bS (bP U (dW eX6 U U (dW yE U U (jJ 1 fF U U U U U U (bR (bS (bB (cX nT U (fun _ hm=>hm.blkI 1 U) U U) U ?_))))))))))))))))))))))
  by_cases hE:hireE ⟨key,driver,fr,to2,l⟩=0
  ·refine cL U dM2 U U (fun wx hm=>(cI8 (SlT.ofOwn lg_len (hm.ownI 0 U) hlen) hok hn hE)) ?_
   refine bB (cR U U) U (bB (cR U U) U (jX (cs':= [.string key,.string driver,.int .i64 fr,.int .i64 to2,.slice A1 n c1]) 0 nT U U U U (bZ U (bR (bM ?_)))))
   refine eL 0 U nT U U U U fun wx hm=>?_
   rw [zX];exact cF1 hE hm.g (SlT.ofOwn lg_len (hm.ownI 0 rfl) hlen)
  refine cL U dM2 U U (fun wx hm=>(dN3 (SlT.ofOwn lg_len (hm.ownI 0 U) hlen) hok hn hE)) (bB (cR U U) U (bB (cR U U) U (jX (cs':= [.string ⟨#[]⟩,.string ⟨#[]⟩,.int .i64 0,.int .i64 0,.slice none 0 0]) 0 nT U U U U (bZ U (bR (bM ?_))))))
  refine eL 0 U nT U U U U fun wx hm=>?_
  rw [zX];exact bM5 hE hm.g
 obtain ⟨rfl,rfl,rfl,rfl,rfl,rfl,rfl⟩:=mT.2 hG
 clear mT
 have zX:bR4 ⟨key,driver,fr,to_,l⟩ to2=goingE ⟨key,driver,fr,to_,l⟩:=if_neg hG
 refine bP U (bB (cR U U) U (bB (cR U U) U (jX (cs':= [.string ⟨#[]⟩,.string ⟨#[]⟩,.int .i64 0,.int .i64 0,.slice none 0 0]) 1 nT U U U U (bZ U (bR (bH (bS (bP U (bB (gX U U) U (bL 13 (v':= .bool true) U (fH5 (by simpa using hG)) (bR (kQ U (bS (bB (dJ (cs:= [.string ⟨#[]⟩,.string ⟨#[]⟩,.int .i64 0,.int .i64 0,.slice none 0 0]) U (by kernel_rfl)) U (bP U (jX (cs':= [.string ⟨#[]⟩,.string ⟨#[]⟩,.int .i64 0,.int .i64 0,.slice none 0 0]) 0 nT U U U U (bZ U (bR (bM (bA ?_))))))))))))))))))))
 refine eL 0 U nT U U U U fun wx hm=>?_
 rw [zX];exact bM5 hG hm.g
theorem dB5 (key driver:ByteArray) (fr to_:Int) (l:List Lg) (A:Option Addr) (n c:Nat) (veh:ByteArray) (ra:Int) (rs:ByteArray) (rm rf qa:Int) (qs:ByteArray) (qm qf:Int) (w:World) (hl:SlT lgEnc 9 68 w A n l) (hok:HrOk key driver l) (hn:n<=10000) (hv:veh.size<=1000000) (hr:RdOk ⟨ra,rs,rm,rf⟩) (hq:RdOk ⟨qa,qs,qm,qf⟩):
 Calls prog 216 #[.agg #[.string key,.string driver,.int .i64 fr,.int .i64 to_,.slice A n c],.agg #[.int .i64 ra,.string rs,.int .i64 rm,.int .i64 rf],.string veh,.agg #[.int .i64 qa,.string qs,.int .i64 qm,.int .i64 qf]] w (cQ9 w (cL7 ⟨key,driver,fr,to_,l⟩ ⟨ra,rs,rm,rf⟩ veh ⟨qa,qs,qm,qf⟩) ⟨key,driver,fr,to_,gZ l ⟨ra,rs,rm,rf⟩ veh ⟨qa,qs,qm,qf⟩⟩):=by
 have hlen:=hl.len
 refine cV ⟨42,w,none, []⟩ func216 U ntmps216 U (gR (X:= [bU lgEnc 9 68 w.heap.size none A n l]) (cG hl.old cY) (cH bU.lasts cZ)) (bS (fG U U U fun g1=>fG U U U fun g2=>fG U U U fun g3=>dH bA6 U fun g4=>bZ U (bR (bS (bB (cX nT U (fun _ hm=>hm.blkI 3 U) U U) U ?_)))))
 refine bL2 (γ:=ByteArray×ByteArray×Int×Int×Value×Nat×List Value) (val:=(fun g=> .tuple #[.agg #[.string g.1,.string g.2.1,.int .i64 g.2.2.1,.int .i64 g.2.2.2.1,g.2.2.2.2.1],.int .i64 (goingE ⟨key,driver,fr,to_,l⟩)])) (φ:=(fun g=>(goingE ⟨key,driver,fr,to_,l⟩=0->key=g.1/\driver=g.2.1/\fr=g.2.2.1/\to_=g.2.2.2.1/\n=g.2.2.2.2.2.1/\l.flatMap lgEnc=g.2.2.2.2.2.2)/\(¬goingE ⟨key,driver,fr,to_,l⟩=0->(⟨#[]⟩:ByteArray)=g.1/\(⟨#[]⟩:ByteArray)=g.2.1/\0=g.2.2.1/\0=g.2.2.2.1/\ .slice none 0 0=g.2.2.2.2.1/\0=g.2.2.2.2.2.1/\ []=g.2.2.2.2.2.2))) (fun g=>⟨g.2.2.2.2.1,68,9,g.2.2.2.2.2.1,g.2.2.2.2.2.2⟩) U eM5 U U (fun wx hm=>(dB9 key driver fr to_ l A n c wx (hm.fact 0 U).1 hok (by omega)).mono fun _ _ ⟨k,d,f,t,v,m,xs,he,h1,h2,ho,hg⟩=>⟨(k,d,f,t,v,m,xs),he,⟨h1,h2⟩,ho,hg⟩) ?_
 rintro ⟨k1,d1,f1,t1,v1,m1,xs1⟩ mT
 dsimp only at mT ⊢
 by_cases hG:goingE ⟨key,driver,fr,to_,l⟩=0
 ·obtain ⟨rfl,rfl,rfl,rfl,rfl,rfl⟩:=mT.1 hG
  clear mT
  have zX:cL7 ⟨key,driver,fr,to_,l⟩ ⟨ra,rs,rm,rf⟩ veh ⟨qa,qs,qm,qf⟩=hireE ⟨key,driver,fr,to_,gZ l ⟨ra,rs,rm,rf⟩ veh ⟨qa,qs,qm,qf⟩⟩:=if_pos hG
  have hgo:=goingE_ok hG
  have hn0:0 < n:=by have:=(hireE_legs hgo.1).1;exact hlen ▸ this
  refine eD (R:=∃A cc,v1= .slice A n cc) (fun wx hm=>dS (hm.ownI 0 U)) ?_
  rintro ⟨A1,c1,rfl⟩
  refine eD (R:=∃g,A1=some ⟨g,0,none⟩) (fun wx hm=>bL5 (hm.ownI 0 U) hn0) ?_
  rintro ⟨ro,rfl⟩
  obtain ⟨x,hx⟩:∃x,l[n - 1]?=some x:=⟨_,fJ5 (by omega)⟩
  obtain ⟨x1,x2,x3⟩:=x
  have hL2:gZ l ⟨ra,rs,rm,rf⟩ veh ⟨qa,qs,qm,qf⟩=l.set (n - 1) ⟨x1,x2,⟨ra,rs,rm,rf⟩⟩++ [⟨veh,⟨qa,qs,qm,qf⟩,⟨-1,⟨#[]⟩,0,0⟩⟩]:=by unfold gZ endLegs;rw [hlen,hx];rfl
  have hlen2:(gZ l ⟨ra,rs,rm,rf⟩ veh ⟨qa,qs,qm,qf⟩).length=n+1:=by rw [hL2];simp [hlen]
  have hok2:HrOk key driver (gZ l ⟨ra,rs,rm,rf⟩ veh ⟨qa,qs,qm,qf⟩):=⟨hok.1,hok.2.1,dU2 hok.2.2 hr hv hq⟩
  refine bP U (bB (cR U U) U (bB (cR U U) U (jX (cs':= [.string key,.string driver,.int .i64 fr,.int .i64 to_,.slice (some ⟨ro,0,none⟩) n c1]) 3 nT U U U U (bZ U (bR (bH (bS (bP U (bB (gX U U) U (bL 17 (v':= .bool false) U (fH5 (by rw [hG];rfl)) (bR (jU U (bN (bD (bS (dW vY U U (eI cJ1 3 U U U (dW vY U U (eI cJ1 3 U U U (bB (dT cK2 U) U (bB (ov_sub U U (by omega) (by omega)) U (bL 25 (v':= .int .i64 ((n - 1:Nat):Int)) U (fI5 (by omega)) (bB (cX dM1 U (fun _ hm=>hm.blkI 2 U) U U) U (bB (bT (j:=n - 1) cK2 U U (by omega)) U (dW dG0 U U (dF2 (l:=l) (j:=n - 1) (r:=5) (el:=⟨x1,x2,x3⟩) (el':=⟨x1,x2,⟨ra,rs,rm,rf⟩⟩) 0 dM1 U U U U U lg_len U hx hlen (by decide) U U ?_))))))))))))))))))))))))))
  refine bR (bS (dW vY U U (eI cJ1 3 U U U (bP U (bB (cX dM1 U (fun _ hm=>hm.blkI 1 U) U U) U (bB (dJ (cs:= [.int .i64 (-1),.string ⟨#[]⟩,.int .i64 0,.int .i64 0]) U (by kernel_rfl)) U (bB (dJ (cs:= [.string veh,.int .i64 qa,.string qs,.int .i64 qm,.int .i64 qf,.int .i64 (-1),.string ⟨#[]⟩,.int .i64 0,.int .i64 0]) U (by kernel_rfl)) U (jF 68 [.string veh,.int .i64 qa,.string qs,.int .i64 qm,.int .i64 qf,.int .i64 (-1),.string ⟨#[]⟩,.int .i64 0,.int .i64 0] fun g5=>eF (news:= [.string veh,.int .i64 qa,.string qs,.int .i64 qm,.int .i64 qf,.int .i64 (-1),.string ⟨#[]⟩,.int .i64 0,.int .i64 0]) 0 0 fJ3 U U U U U U U (by omega) (by unfold maxLen;omega) U U fun v2 hv2=>?_))))))))
  refine eD (R:=∃A cc,v2= .slice A (n+1) cc) (fun wx hm=>dS (hm.ownI 0 U)) ?_
  rintro ⟨A2,c2,rfl⟩
  refine dW vY U U (jJ 4 cJ1 U U U U U U (bR (bS (bB (cX nT U (fun _ hm=>hm.blkI 4 U) U U) U ?_))))
  have hxs:(l.set (n - 1) ⟨x1,x2,⟨ra,rs,rm,rf⟩⟩).flatMap lgEnc++([.string veh,.int .i64 qa,.string qs,.int .i64 qm,.int .i64 qf,.int .i64 (-1),.string ⟨#[]⟩,.int .i64 0,.int .i64 0]:List Value)=(gZ l ⟨ra,rs,rm,rf⟩ veh ⟨qa,qs,qm,qf⟩).flatMap lgEnc:=by rw [hL2,List.flatMap_append];rfl
  by_cases hE:hireE ⟨key,driver,fr,to_,gZ l ⟨ra,rs,rm,rf⟩ veh ⟨qa,qs,qm,qf⟩⟩=0
  ·refine cL U dM2 U U (fun wx hm=>(cI8 (SlT.ofOwn lg_len (hxs ▸ (hm.ownI 0 U)) hlen2) hok2 (by omega) hE)) ?_
   refine bB (cR U U) U (bB (cR U U) U (jX (cs':= [.string key,.string driver,.int .i64 fr,.int .i64 to_,.slice A2 (n+1) c2]) 1 nT U U U U (bZ U (bR (bM ?_)))))
   refine eL 1 U nT U U U U fun wx hm=>?_
   rw [zX];exact cF1 hE hm.g (SlT.ofOwn lg_len (hxs ▸ (hm.ownI 0 rfl)) hlen2)
  refine cL U dM2 U U (fun wx hm=>(dN3 (SlT.ofOwn lg_len (hxs ▸ (hm.ownI 0 U)) hlen2) hok2 (by omega) hE)) (bB (cR U U) U (bB (cR U U) U (jX (cs':= [.string ⟨#[]⟩,.string ⟨#[]⟩,.int .i64 0,.int .i64 0,.slice none 0 0]) 1 nT U U U U (bZ U (bR (bM ?_))))))
  refine eL 1 U nT U U U U fun wx hm=>?_
  rw [zX];exact bM5 hE hm.g
 obtain ⟨rfl,rfl,rfl,rfl,rfl,rfl,rfl⟩:=mT.2 hG
 clear mT
 have zX:cL7 ⟨key,driver,fr,to_,l⟩ ⟨ra,rs,rm,rf⟩ veh ⟨qa,qs,qm,qf⟩=goingE ⟨key,driver,fr,to_,l⟩:=if_neg hG
 refine bP U (bB (cR U U) U (bB (cR U U) U (jX (cs':= [.string ⟨#[]⟩,.string ⟨#[]⟩,.int .i64 0,.int .i64 0,.slice none 0 0]) 3 nT U U U U (bZ U (bR (bH (bS (bP U (bB (gX U U) U (bL 17 (v':= .bool true) U (fH5 (by simpa using hG)) (bR (kQ U (bS (bB (dJ (cs:= [.string ⟨#[]⟩,.string ⟨#[]⟩,.int .i64 0,.int .i64 0,.slice none 0 0]) U (by kernel_rfl)) U (bP U (jX (cs':= [.string ⟨#[]⟩,.string ⟨#[]⟩,.int .i64 0,.int .i64 0,.slice none 0 0]) 0 nT U U U U (bZ U (bR (bM (bA ?_))))))))))))))))))))
 refine eL 0 U nT U U U U fun wx hm=>?_
 rw [zX];exact bM5 hG hm.g
theorem mJ {α:Type} {l:List α} {k:Nat} (h:k=0):prevOf l k=none:=by unfold prevOf;rw [if_pos h]
theorem jS {α:Type} {l:List α} {k:Nat} {y:α} (h:¬k=0) (hy:l[k - 1]?=some y):prevOf l k=some y:=by unfold prevOf;rw [if_neg h,hy]
theorem dJ3 {a:ByteArray} (h:keyB a=true):leB a ⟨#[]⟩=false:=by
 obtain ⟨⟨l⟩⟩:=a
 cases l with
 |nil=>cases h
 |cons c r=>unfold leB;rw [ByteArray.toList_eq,ByteArray.toList_eq];rfl
def fH (x:ByteArray):List Value:= [.string x]
theorem zC (x:ByteArray):(fH x).length=1:=rfl
structure Bk where
 key:ByteArray
 cls:ByteArray
 fr:Int
 to_:Int
 made:Int
 odds:Int
def bC0 (b:Bk):List Value:= [.string b.key,.string b.cls,.int .i64 b.fr,.int .i64 b.to_,.int .i64 b.made,.int .i64 b.odds]
theorem eG6 (b:Bk):(bC0 b).length=6:=rfl
def dC7 (b:Bk):Prop:=b.key.size<=1000000/\b.cls.size<=1000000
def leO (p:Option Bk) (b:Bk):Bool:=match p with
 |none=>false
 |some q=>leB b.key q.key
def kY (p:Option Bk) (b:Bk):Int:=
 if !keyB b.key then 5 else if !keyB b.cls then 5 else if leO p b then 7 else
 if b.fr < 0 then 1 else if b.to_<=b.fr then 1 else if 5761439 < b.to_ then 1 else if !inB b.made 0 b.fr then 1 else if !inB b.odds 0 100 then 1 else 0
def bZ7 (l:List Bk):Int:=if 500 < l.length then 2 else scanE kY none l
theorem dI0 (l:List Bk) (A:Option Addr) (n c:Nat) (w:World) (hl:SlT bC0 6 146 w A n l) (hok:∀b∈l,dC7 b) (hn:n<=1000000):
 Calls prog 151 #[.slice A n c] w (nC w (bZ7 l)):=by
 refine cV ⟨75,w,none, []⟩ func151 U ntmps151 U (gR (X:= [bU bC0 6 146 w.heap.size none A n l]) (cG hl.old cY) (cH bU.lasts cZ)) (bS ?_)
 have hlen:=hl.len
 refine bZ U (bR (bH (bS (bP U (bB (dT dZ4 U) U (bB (eJ U U) U (bR ?_)))))))
 refine cE U (fun h1=>?_) (fun h1=>?_)
 ·refine bS (bZ U (bR ?_))
  refine bM (bA ?_)
  exact bK U U fun wx hm=>⟨bW (by unfold bZ7;rw [if_pos (by omega)]),hm.g⟩
 refine bN (bD (bH (bS (bP U (bB (dT dZ4 U) U (bP U (bR (bO ?_))))))))
 refine dX (γ:=Nat) (fun (k:Nat)=>k<=n/\bZ7 l=scanE kY (prevOf l k) (l.drop k)) (fun (k:Nat)=> [(0,.slice A n c),(8,.slice A n c),(9,.int .i64 ((n:Nat):Int)),(10,.int .i64 ((k:Nat):Int))]) (fun (k:Nat)=>fun _=>True) (fun (k:Nat)=> []) (fun (k:Nat)=> []) (fun (k:Nat)=> [bU bC0 6 146 w.heap.size none A n l]) (fun (k:Nat)=>n - k) 0 ⟨Nat.zero_le _,by unfold bZ7;rw [if_neg (by omega)];rfl⟩ ⟨U,U,U,U,trivial⟩ (fun _ hm=>hm.pick [] [] [0] U U) ?_
 intro k cC
 replace cC:k<=n/\bZ7 l=scanE kY (prevOf l k) (l.drop k):=cC
 refine bS (bB (dD U U) U (bR (bH ?_)))
 refine cE U (fun hk=>?_) (fun hk=>?_)
 ·refine bN (bD (bH (bO (bS ?_))))
  obtain ⟨b,off,hA,_,_⟩:=hl.get (by omega)
  subst hA
  obtain ⟨x,hx⟩:∃x,l[k]?=some x:=⟨_,fJ5 (by omega)⟩
  obtain ⟨ke,cl,fr,tt,ma,od⟩:=x
  have hat:=scanE_at kY l k _ hx
  obtain ⟨hk1,hk2⟩:=hok _ (fK5 hx)
  have hk1:ke.size<=1000000:=hk1
  have hk2:cl.size<=1000000:=hk2
  refine bP U (bB (bT (j:=k) dZ4 U U (by omega)) U (bB (dO (vs:= [.string ke,.string cl,.int .i64 fr,.int .i64 tt,.int .i64 ma,.int .i64 od]) bL8 U (fun _ hm=>(hm.fact 0 U).1) hx U U) U (dH dI4 U fun g1=>bZ U (jX (cs':= [.string ke,.string cl,.int .i64 fr,.int .i64 tt,.int .i64 ma,.int .i64 od]) 0 bL8 U U U U (bR (bO (bS (dW bN1 U U (eI fE 0 U U U (dA U bP2 U U (fun wx hm=>(isKey_any _ wx (by omega))) (bB (cF U) U (bP U ?_))))))))))))
  rcases Bool.eq_false_or_eq_true (!(keyB ke)) with h2|h2
  ·refine bL 20 U (fH5 h2) ?_
   refine dY U (dY U (dY U (dY U (mQ U U (bZ U (bR (kQ U (bS (bZ U (bR (bM (bC (bC (bA (bA (bC (bA ?_)))))))))))))))))
   have hE:kY (prevOf l k) ⟨ke,cl,fr,tt,ma,od⟩=5:=by unfold kY;simp [h2]
   exact bK U U fun wx hm=>⟨bW (by rw [cC.2,hat,if_neg (by rw [hE];decide),hE]),hm.g⟩
  refine bL 20 U (fH5 h2) (eG U (dW dB3 U U (eG U (eI fE 0 U U U (eG U (dA U bP2 U U (fun wx hm=>(isKey_any _ wx (by omega))) (eG U (bB (cF U) U (nS U U (bZ U (bR ?_)))))))))))
  refine dC U (fun hh=>?_) (fun hh=>?_)
  ·have h3:(keyB cl)=false:=by simpa using hh
   refine bS (bZ U (bR (bM (bC (bC (bA (bA (bC (bA ?_)))))))))
   have hE:kY (prevOf l k) ⟨ke,cl,fr,tt,ma,od⟩=5:=by unfold kY;simp [h2,h3]
   exact bK U U fun wx hm=>⟨bW (by rw [cC.2,hat,if_neg (by rw [hE];decide),hE]),hm.g⟩
  have h3:(keyB cl)=true:=by simpa using hh
  refine bH ?_
  by_cases hk0:k=0
  ·have hO:leO (prevOf l k) ⟨ke,cl,fr,tt,ma,od⟩=false:=by rw [mJ hk0];rfl
   refine gd (fun wz=>True) mixed (fun _ _=>trivial) fun z=>wq 0 U (bJ U) (wq 1 U (eJ U U) (dG 28 (v':= .bool false) U (fH5 (decide_eq_false (by omega))) (wq 2 U (bJ U) (fC 3 U (fC 4 U (fC 5 U (fC 6 U (fC 7 U (fC 8 U (fC 9 U (fC 10 U (fC 11 U (wq 12 U (fN U U) (wq 13 U (cU U) (jH (bD (jU U (bS (dW uQ U U (dW wT U U (eI fF 0 U U U (bB (dD U U) U (bP U ?_)))))))))))))))))))))))
   rcases Bool.eq_false_or_eq_true (decide (fr < 0)) with h4|h4
   ·refine bL 45 U (fH5 h4) ?_
    replace h4:=of_decide_eq_true h4
    refine dY U (dY U (dY U (dY U (dY U (dY U (dY U (mQ U U (bP U (dY U (dY U (dY U (dY U (mQ U U (bZ U (bR (kQ U (bS (bZ U (bR (bM (bC (bC (bA (bA (bC (bA ?_))))))))))))))))))))))))))
    have hE:kY (prevOf l k) ⟨ke,cl,fr,tt,ma,od⟩=1:=by unfold kY;simp [h2,h3,hO,h4]
    exact bK U U fun wx hm=>⟨bW (by rw [cC.2,hat,if_neg (by rw [hE];decide),hE]),hm.g⟩
   refine bL 45 U (fH5 h4) ?_
   replace h4:=of_decide_eq_false h4
   refine eG U (dW uQ U U (eG U (dW wT U U (eG U (eI fF 0 U U U (eG U (dW uQ U U (eG U (dW yE U U (eG U (eI fF 0 U U U (eG U (bB (mO U U) U (nS U U (bP U ?_)))))))))))))))
   rcases Bool.eq_false_or_eq_true (decide (tt<=fr)) with h5|h5
   ·refine bL 54 U (fH5 h5) ?_
    replace h5:=of_decide_eq_true h5
    refine dY U (dY U (dY U (dY U (mQ U U (bZ U (bR (kQ U (bS (bZ U (bR (bM (bC (bC (bA (bA (bC (bA ?_)))))))))))))))))
    have hE:kY (prevOf l k) ⟨ke,cl,fr,tt,ma,od⟩=1:=by unfold kY;simp [h2,h3,hO,h4,h5]
    exact bK U U fun wx hm=>⟨bW (by rw [cC.2,hat,if_neg (by rw [hE];decide),hE]),hm.g⟩
   refine bL 54 U (fH5 h5) ?_
   replace h5:=of_decide_eq_false h5
   refine eG U (dW uQ U U (eG U (dW yE U U (eG U (eI fF 0 U U U (eG U (bB (eJ U U) U (nS U U (bZ U (bR ?_))))))))))
   refine cE U (fun h6=>?_) (fun h6=>?_)
   ·refine bS (bZ U (bR ?_))
    refine bM (bC (bC (bA (bA (bC (bA ?_))))))
    have hE:kY (prevOf l k) ⟨ke,cl,fr,tt,ma,od⟩=1:=by unfold kY;simp [h2,h3,hO,h4,h5,h6]
    exact bK U U fun wx hm=>⟨bW (by rw [cC.2,hat,if_neg (by rw [hE];decide),hE]),hm.g⟩
   refine bS (dW dC3 U U (eI fF 0 U U U (dW uQ U U (dW wT U U (eI fF 0 U U U (dA U qB U U (fun wx hm=>(in_any _ _ _ wx)) (bB (cF U) U (bP U ?_))))))))
   rcases Bool.eq_false_or_eq_true (!(inB ma 0 fr)) with h7|h7
   ·refine bL 68 U (fH5 h7) ?_
    refine dY U (dY U (dY U (dY U (mQ U U (bZ U (bR (kQ U (bS (bZ U (bR (bM (bC (bC (bA (bA (bC (bA ?_)))))))))))))))))
    have hE:kY (prevOf l k) ⟨ke,cl,fr,tt,ma,od⟩=1:=by unfold kY;simp [h2,h3,hO,h4,h5,h6,h7]
    exact bK U U fun wx hm=>⟨bW (by rw [cC.2,hat,if_neg (by rw [hE];decide),hE]),hm.g⟩
   refine bL 68 U (fH5 h7) (eG U (dW dD3 U U (eG U (eI fF 0 U U U (eG U (dA U qB U U (fun wx hm=>(in_any _ _ _ wx)) (eG U (bB (cF U) U (nS U U (bZ U (bR ?_)))))))))))
   refine dC U (fun hh=>?_) (fun hh=>?_)
   ·have h8:(inB od 0 100)=false:=by simpa using hh
    refine bS (bZ U (bR (bM (bC (bC (bA (bA (bC (bA ?_)))))))))
    have hE:kY (prevOf l k) ⟨ke,cl,fr,tt,ma,od⟩=1:=by unfold kY;simp [h2,h3,hO,h4,h5,h6,h7,h8]
    exact bK U U fun wx hm=>⟨bW (by rw [cC.2,hat,if_neg (by rw [hE];decide),hE]),hm.g⟩
   have h8:(inB od 0 100)=true:=by simpa using hh
   refine bN (bG (bG (bD (bI ?_))))
   have hE:kY (prevOf l k) ⟨ke,cl,fr,tt,ma,od⟩=0:=by unfold kY;simp [h2,h3,hO,h4,h5,h6,h7,h8]
   refine gN U U (bP U (bE ?_))
   exact cQ (k+1) ⟨by omega,by rw [cC.2,hat,if_pos hE]⟩ (by omega) ⟨U,U,U,(cS (by omega)),trivial⟩ (fun _ hm=>hm.pick [] [] [0] U U)
  obtain ⟨y,hy⟩:∃x,l[k - 1]?=some x:=⟨_,fJ5 (by omega)⟩
  obtain ⟨pk,p1,p2,p3,p4,p5⟩:=y
  refine gd (fun wz=>Blk wz g1 146 [.string ke,.string cl,.int .i64 fr,.int .i64 tt,.int .i64 ma,.int .i64 od]/\(bU bC0 6 146 w.heap.size none (some ⟨b,off,none⟩) n l) wz/\True) mixed (fun _ hm=>⟨hm.bl 0,hm.fa 0,trivial⟩) fun z=>wq 0 U (bJ U) (wq 1 U (eJ U U) (dG 28 (v':= .bool true) U (fH5 (decide_eq_true (by omega))) (wq 2 U (bJ U) (fI 3 U (bQ bN1 U U) (fI 4 U (cN fE U (fun _ hm=>hm.1) U) (fI 5 U (bJ U) (fI 6 U (bJ U) (fI 7 U (ov_sub U U (by omega) (by omega)) (dG 34 (v':= .int .i64 ((k - 1:Nat):Int)) U (fI5 (by omega)) (fI 8 U (bT (j:=k - 1) dZ4 U U (by omega)) (fI 9 U (bQ bN1 U U) (fI 10 U (dL (k:=0) (v:= .string pk) fE U (fun _ hm=>(hm.2.1).1) hy U U) (fI 11 U (wS U U) (wq 12 U (fD U U) (wq 13 U (cU U) (jH (bD ?_)))))))))))))))))
  refine dC U (fun hh=>?_) (fun hh=>?_)
  ·have h9:(Op.bytesLess ke.toList pk.toList||ke.toList==pk.toList)=true:=by simpa using hh
   refine bS ?_
   have hO:leO (prevOf l k) ⟨ke,cl,fr,tt,ma,od⟩=true:=by rw [jS hk0 hy];exact h9
   refine bZ U (bR (bM (bC (bC (bA (bA (bC (bA ?_))))))))
   have hE:kY (prevOf l k) ⟨ke,cl,fr,tt,ma,od⟩=7:=by unfold kY;simp [h2,h3,hO]
   exact bK U U fun wx hm=>⟨bW (by rw [cC.2,hat,if_neg (by rw [hE];decide),hE]),hm.g⟩
  have h9:(Op.bytesLess ke.toList pk.toList||ke.toList==pk.toList)=false:=by simpa using hh
  refine bS ?_
  have hO:leO (prevOf l k) ⟨ke,cl,fr,tt,ma,od⟩=false:=by rw [jS hk0 hy];exact h9
  refine dW uQ U U (dW wT U U (eI fF 0 U U U (bB (dD U U) U (bP U ?_))))
  rcases Bool.eq_false_or_eq_true (decide (fr < 0)) with h4|h4
  ·refine bL 45 U (fH5 h4) ?_
   replace h4:=of_decide_eq_true h4
   refine dY U (dY U (dY U (dY U (dY U (dY U (dY U (mQ U U (bP U (dY U (dY U (dY U (dY U (mQ U U (bZ U (bR (kQ U (bS (bZ U (bR (bM (bC (bC (bA (bA (bC (bA ?_))))))))))))))))))))))))))
   have hE:kY (prevOf l k) ⟨ke,cl,fr,tt,ma,od⟩=1:=by unfold kY;simp [h2,h3,hO,h4]
   exact bK U U fun wx hm=>⟨bW (by rw [cC.2,hat,if_neg (by rw [hE];decide),hE]),hm.g⟩
  refine bL 45 U (fH5 h4) ?_
  replace h4:=of_decide_eq_false h4
  refine eG U (dW uQ U U (eG U (dW wT U U (eG U (eI fF 0 U U U (eG U (dW uQ U U (eG U (dW yE U U (eG U (eI fF 0 U U U (eG U (bB (mO U U) U (nS U U (bP U ?_)))))))))))))))
  rcases Bool.eq_false_or_eq_true (decide (tt<=fr)) with h5|h5
  ·refine bL 54 U (fH5 h5) ?_
   replace h5:=of_decide_eq_true h5
   refine dY U (dY U (dY U (dY U (mQ U U (bZ U (bR (kQ U (bS (bZ U (bR (bM (bC (bC (bA (bA (bC (bA ?_)))))))))))))))))
   have hE:kY (prevOf l k) ⟨ke,cl,fr,tt,ma,od⟩=1:=by unfold kY;simp [h2,h3,hO,h4,h5]
   exact bK U U fun wx hm=>⟨bW (by rw [cC.2,hat,if_neg (by rw [hE];decide),hE]),hm.g⟩
  refine bL 54 U (fH5 h5) ?_
  replace h5:=of_decide_eq_false h5
  refine eG U (dW uQ U U (eG U (dW yE U U (eG U (eI fF 0 U U U (eG U (bB (eJ U U) U (nS U U (bZ U (bR ?_))))))))))
  refine cE U (fun h6=>?_) (fun h6=>?_)
  ·refine bS (bZ U (bR ?_))
   refine bM (bC (bC (bA (bA (bC (bA ?_))))))
   have hE:kY (prevOf l k) ⟨ke,cl,fr,tt,ma,od⟩=1:=by unfold kY;simp [h2,h3,hO,h4,h5,h6]
   exact bK U U fun wx hm=>⟨bW (by rw [cC.2,hat,if_neg (by rw [hE];decide),hE]),hm.g⟩
  refine bS (dW dC3 U U (eI fF 0 U U U (dW uQ U U (dW wT U U (eI fF 0 U U U (dA U qB U U (fun wx hm=>(in_any _ _ _ wx)) (bB (cF U) U (bP U ?_))))))))
  rcases Bool.eq_false_or_eq_true (!(inB ma 0 fr)) with h7|h7
  ·refine bL 68 U (fH5 h7) ?_
   refine dY U (dY U (dY U (dY U (mQ U U (bZ U (bR (kQ U (bS (bZ U (bR (bM (bC (bC (bA (bA (bC (bA ?_)))))))))))))))))
   have hE:kY (prevOf l k) ⟨ke,cl,fr,tt,ma,od⟩=1:=by unfold kY;simp [h2,h3,hO,h4,h5,h6,h7]
   exact bK U U fun wx hm=>⟨bW (by rw [cC.2,hat,if_neg (by rw [hE];decide),hE]),hm.g⟩
  refine bL 68 U (fH5 h7) (eG U (dW dD3 U U (eG U (eI fF 0 U U U (eG U (dA U qB U U (fun wx hm=>(in_any _ _ _ wx)) (eG U (bB (cF U) U (nS U U (bZ U (bR ?_)))))))))))
  refine dC U (fun hh=>?_) (fun hh=>?_)
  ·have h8:(inB od 0 100)=false:=by simpa using hh
   refine bS (bZ U (bR (bM (bC (bC (bA (bA (bC (bA ?_)))))))))
   have hE:kY (prevOf l k) ⟨ke,cl,fr,tt,ma,od⟩=1:=by unfold kY;simp [h2,h3,hO,h4,h5,h6,h7,h8]
   exact bK U U fun wx hm=>⟨bW (by rw [cC.2,hat,if_neg (by rw [hE];decide),hE]),hm.g⟩
  have h8:(inB od 0 100)=true:=by simpa using hh
  refine bN (bG (bG (bD (bI ?_))))
  have hE:kY (prevOf l k) ⟨ke,cl,fr,tt,ma,od⟩=0:=by unfold kY;simp [h2,h3,hO,h4,h5,h6,h7,h8]
  refine gN U U (bP U (bE ?_))
  exact cQ (k+1) ⟨by omega,by rw [cC.2,hat,if_pos hE]⟩ (by omega) ⟨U,U,U,(cS (by omega)),trivial⟩ (fun _ hm=>hm.pick [] [] [0] U U)
 refine dE (bF (bF (bY (bD (bS (bZ U (bR (bM ?_))))))))
 exact bK U U fun wx hm=>⟨bW (by rw [cC.2,scanE_end _ _ _ _ (by omega)]),hm.g⟩
theorem gM.cy {n n':Nat} {w0:World} {row:Option Nat} {Tt:List TypeId} {K:World->Prop} {L:List (Nat×TypeId×List Value)} {O:List Own} {X:List (World->Prop)} {w:World} (h:gM ⟨n,w0,row,Tt⟩ K L O X w):gM ⟨n',w0,row,Tt⟩ K L O X w:=⟨h.g,h.k,h.b,h.nd,h.o,h.od,h.oo,h.x,h.kk,h.l,h.rs⟩
theorem gM.gn {c:Cx} {K:World->Prop} {L:List (Nat×TypeId×List Value)} {O:List Own} {X:List (World->Prop)} {w w':World} {g:Nat} {T:TypeId} {cs:List Value} (h:gM c K L O X w) (hgr:w.grownBy w' none) (hN:w.heap.size<=g) (hb:Blk w' g T cs):gM c K ((g,T,cs)::L) O X w':=by
 have h2:=h.grow hgr
 refine ⟨h2.g,h2.k,fun x hx=>?_,List.Pairwise.cons (fun y hy e=>by have h3:=(h.b y hy).2.lt;have e2:g=y.1:=e;omega) h.nd,h2.o,fun r hr x hx=>?_,h.oo,h2.x,h.kk,h.l,h.rs⟩
 ·rcases List.mem_cons.1 hx with rfl|hx
  ·exact ⟨Nat.le_trans h.g.size hN,hb⟩
  ·exact h2.b x hx
 ·rcases List.mem_cons.1 hx with rfl|hx
  ·intro e
   have:=((h.o r hr).lt g e).2
   omega
  ·exact h.od r hr x hx
theorem gM.subX {c:Cx} {K:World->Prop} {L:List (Nat×TypeId×List Value)} {O:List Own} {X X':List (World->Prop)} {w:World} (h:gM c K L O X w) (hs:∀A∈X',A∈X):gM c K L O X' w:=⟨h.g,h.k,h.b,h.nd,h.o,h.od,h.oo,fun A hA=>h.x A (hs A hA),h.kk,fun A hA=>h.l A (hs A hA),h.rs⟩
theorem dQ {X X':List (World->Prop)} {A:World->Prop} (i:Nat) (hi:X[i]?=some A) (h:∀B∈X',B∈X):∀B∈A::X',B∈X:=fun B hB=>by
 rcases List.mem_cons.1 hB with rfl|hB
 ·exact fK5 hi
 ·exact h B hB
theorem cB4 {X X1:List (World->Prop)} (n:Nat) (hd:X.drop n=X1):∀B∈X1,B∈X:=fun B hB=>List.mem_of_mem_drop (by rw [hd];exact hB)
theorem bV5 {X:List (World->Prop)}:∀B∈([]:List (World->Prop)),B∈X:=fun _ h=>by cases h
def dN (s:ByteArray):Value:= .string s
def vS (x:ByteArray):Value:= .string x
def vB (x:Bool):Value:= .bool x
def vI (x:Int):Value:= .int .i64 x
def qU (x:Sa):Value:= .agg (kT x).toArray
def qA (x:Bk):Value:= .agg (bC0 x).toArray
structure Hg where
 key:ByteArray
 driver:ByteArray
 fr:Int
 to_:Int
 A:Option Addr
 n:Nat
 c:Nat
 legs:List Lg
def nH (h:Hg):Value:= .agg #[.string h.key,.string h.driver,.int .i64 h.fr,.int .i64 h.to_,.slice h.A h.n h.c]
def vV:Hg:=⟨⟨#[]⟩,⟨#[]⟩,0,0,none,0,0, []⟩
def bk0:Bk:=⟨⟨#[]⟩,⟨#[]⟩,0,0,0,0⟩
def hrG (h:Hg):Hr:=⟨h.key,h.driver,h.fr,h.to_,h.legs⟩
def gD (T:TypeId) (f:ByteArray->Option Hg) (w:World):Prop:=∀k h,f k=some h->SlT lgEnc 9 T w h.A h.n h.legs
theorem gD.lasts2 {N:Nat} {row:Option Nat} {Tt:List TypeId} {T:TypeId} {f:ByteArray->Option Hg} (hT:Tt.contains T=true):Lasts2 N row Tt (gD T f):=
 ⟨fun w w' h hx k g hk=>(SlT.lasts2 (N:=N) (row:=row) (Tt:=Tt) hT).gr w w' h (hx k g hk),fun w w' r T2 c h1 h2 h3 h4 hx k g hk=>(SlT.lasts2 (N:=N) (row:=row) (Tt:=Tt) hT).st w w' r T2 c h1 h2 h3 h4 (hx k g hk)⟩
theorem gD.mfar {T:TypeId} {f:ByteArray->Option Hg}:bL3 (gD T f):=fun N g w w' h1 h2 h3 hx k y hk=>SlT.mfar N g w w' h1 h2 h3 (hx k y hk)
theorem gD.put {T:TypeId} {f:ByteArray->Option Hg} {w:World} {k:ByteArray} {h:Hg} (hf:gD T f w) (hl:SlT lgEnc 9 T w h.A h.n h.legs):gD T (fP f k h) w:=fun j y hj=>by
 by_cases e:j=k
 ·subst e
  rw [hU] at hj
  cases hj
  exact hl
 ·rw [dB _ _ e] at hj
  exact hf j y hj
def dL4 (h:Hg):Prop:=HrOk h.key h.driver h.legs/\0 < h.n/\h.n<=20/\h.legs.length=h.n
structure Os where
 fs:ByteArray->Option Sa
 fa:ByteArray×Int->Option Bool
 fb:ByteArray->Option Bk
 fh:ByteArray->Option Hg
 lg:List Ev
def os0:Os:=⟨mZ,mZ,mZ,mZ, []⟩
noncomputable def gL (σ:Os) (x:Ev):Os:={ σ with fs:=fP σ.fs x.veh (gU ((σ.fs x.veh).getD pH) x),fa:=fP σ.fa (x.veh,x.at_) true,lg:=σ.lg++ [x] }
def bM2 (σ:Os) (x:Ev):Prop:=(σ.fa (x.veh,x.at_)).getD false=false/\gB ((σ.fs x.veh).getD pH) x=true
def gO (at_:Int) (veh st:ByteArray):Ev:=⟨at_,veh,st,2,⟨#[]⟩⟩
def eQ (at_:Int) (veh st:ByteArray):Ev:=⟨at_,veh,st,3,⟨#[]⟩⟩
inductive kU (V:ByteArray->Option ByteArray) (T:ByteArray->Option Bool) (ck:Bk->Prop) (at_:Int):Os->Os->Prop
 |same (σ:Os):kU V T ck at_ σ σ
 |ev (σ:Os) (x:Ev):x.at_=at_->cJ4 x->x.kd∈([1,4,5,6,7,8]:List Int)->(V x.veh).isSome=true->(T x.sta).getD false=true->(x.kd=6->(T x.to_).getD false=true/\x.to_≠x.sta)->(x.kd≠6->x.to_=⟨#[]⟩)->bM2 σ x->kU V T ck at_ σ (gL σ x)
 |book (σ:Os) (b:Bk):dC7 b->ck b->(σ.fb b.key).isSome=false->(σ.fh b.key).isSome=false->kU V T ck at_ σ { σ with fb:=fP σ.fb b.key b }
 |cancel (σ:Os) (k:ByteArray):kU V T ck at_ σ { σ with fb:=yL σ.fb k }
 |start (σ:Os) (h:Hg) (v:ByteArray) (r:Rd):dL4 h->hireE (hrG h)=0->h.legs= [startLeg v r]->r.at_=at_->(σ.fh h.key).isSome=false->(V v).isSome=true->(T r.st).getD false=true->bM2 σ (gO at_ v r.st)->
  kU V T ck at_ σ { gL σ (gO at_ v r.st) with fh:=fP σ.fh h.key h,fb:=yL σ.fb h.key }
 |extend (σ:Os) (k:ByteArray) (h h':Hg):σ.fh k=some h->dL4 h'->hireE (hrG h')=0->h'.legs=h.legs->h'.key=h.key->kU V T ck at_ σ { σ with fh:=fP σ.fh k h' }
 |close (σ:Os) (k:ByteArray) (h h':Hg) (g:Lg) (r:Rd):σ.fh k=some h->dL4 h'->hireE (hrG h')=0->openB h.legs=true->h.legs[h.n - 1]?=some g->h'.legs=endLegs h.legs r->h'.key=h.key->r.at_=at_->(T r.st).getD false=true->bM2 σ (eQ at_ g.veh r.st)->
  kU V T ck at_ σ { gL σ (eQ at_ g.veh r.st) with fh:=fP σ.fh k h' }
 |swap (σ:Os) (k:ByteArray) (h h':Hg) (g:Lg) (r q:Rd) (v:ByteArray):σ.fh k=some h->dL4 h'->hireE (hrG h')=0->openB h.legs=true->h.legs[h.n - 1]?=some g->h'.legs=gZ h.legs r v q->h'.key=h.key->r.at_=at_->q.at_=at_->q.st=r.st->(T r.st).getD false=true->(V v).isSome=true->bM2 σ (eQ at_ g.veh r.st)->bM2 σ (gO at_ v r.st)->
  kU V T ck at_ σ { gL (gL σ (eQ at_ g.veh r.st)) (gO at_ v r.st) with fh:=fP σ.fh k h' }
structure cM4 (σ:Os):Prop where
 hi:∀k h,σ.fh k=some h->dL4 h
def bB0 (fp:ByteArray->Option Int):Prop:=∀k n,fp k=some n->0<=n/\n<=1000000000
theorem eN7:cM4 os0:=⟨fun _ _ h=>by cases h⟩
theorem eO7:bB0 mZ:=fun _ _ h=>by cases h
theorem eK {κ α:Type} {f:κ->Option α} {k j:κ} {x y:α} (h:fP f k x j=some y):(j=k/\y=x)∨f j=some y:=by
 by_cases e:j=k
 ·subst e
  rw [hU] at h
  cases h
  exact .inl ⟨U,U⟩
 ·rw [dB _ _ e] at h
  exact .inr h
theorem cP0 {κ α:Type} {f:κ->Option α} {k j:κ} {y:α} (h:yL f k j=some y):j≠k/\f j=some y:=by
 by_cases e:j=k
 ·subst e
  rw [bW1] at h
  cases h
 ·rw [yM _ e] at h
  exact ⟨e,h⟩
theorem kU.ok {V:ByteArray->Option ByteArray} {T:ByteArray->Option Bool} {ck:Bk->Prop} {at_:Int} {σ τ:Os} (h:kU V T ck at_ σ τ) (hs:cM4 σ):cM4 τ:=by
 refine ⟨fun k y hy=>?_⟩
 cases h with
 |same=>exact hs.hi k y hy
 |ev x=>exact hs.hi k y hy
 |book b=>exact hs.hi k y hy
 |cancel _=>exact hs.hi k y hy
 |start h v r h1=>
  rcases eK hy with ⟨_,rfl⟩|hy
  ·exact h1
  ·exact hs.hi k y hy
 |extend k0 h h' _ h1=>
  rcases eK hy with ⟨_,rfl⟩|hy
  ·exact h1
  ·exact hs.hi k y hy
 |close k0 h h' g r _ h1=>
  rcases eK hy with ⟨_,rfl⟩|hy
  ·exact h1
  ·exact hs.hi k y hy
 |swap k0 h h' g r q v _ h1=>
  rcases eK hy with ⟨_,rfl⟩|hy
  ·exact h1
  ·exact hs.hi k y hy
theorem kU.len {V:ByteArray->Option ByteArray} {T:ByteArray->Option Bool} {ck:Bk->Prop} {at_:Int} {σ τ:Os} (h:kU V T ck at_ σ τ):τ.lg.length<=σ.lg.length+2:=by
 cases h <;> (try dsimp only [gL]) <;> (try simp only [List.length_append,List.length_cons,List.length_nil]) <;> omega
theorem fN4:bP8 prog 9 (fun s:ByteArray=>Value.string s):=dS9 (by kernel_rfl)
def nD (x:ByteArray×Int):Value:= .agg #[.string x.1,.int .i64 x.2]
def dY4 (a b:ByteArray×Int):Bool:=a.1.toList==b.1.toList&&decide (a.2=b.2)
theorem dR2 {a b:ByteArray×Int} (h:nD a=nD b):a=b:=by
 unfold nD at h
 simp only [Value.agg.injEq,Array.mk.injEq,List.cons.injEq,Value.string.injEq,Value.int.injEq,true_and,and_true] at h
 exact Prod.ext h.1 h.2
theorem cK7 (a b:ByteArray×Int):dY4 a b=true↔a=b:=by
 unfold dY4
 rw [Bool.and_eq_true,rI,decide_eq_true_eq]
 exact ⟨fun h=>Prod.ext h.1 h.2,fun h=>by subst h;exact ⟨rfl,rfl⟩⟩
theorem fR1 (a b:ByteArray×Int) (w:World):(Op.equal 345 (nD a) (nD b)).run prog w= .ok (dY4 a b) w:=by
 have hS:prog.underlying 345=some (.struct (prog.fieldsOf 345)):=by kernel_rfl
 have hp:prog.stoodInHeld 345=false:=by kernel_rfl
 obtain ⟨a0,a1⟩:=a
 obtain ⟨b0,b1⟩:=b
 unfold nD dY4 Op.equal Op.maxDepth
 rw [show (10000:Nat)=9999+1 from rfl,run_equalIn_agg w 9999 345 _ _ hS hp]
 simp only [Program.fieldsOf,Tryz.underlying345]
 have u3:=Tryz.underlying3
 have u9:=Tryz.underlying9
 clear hS hp
 go_simp
 repeat' split
 all_goals simp_all
theorem eJ6 (em:Bool) (a:ByteArray×Int) (w:World):(Instr.checkKey em 10000 345 (nD a)).run prog w= .ok () w:=by
 obtain ⟨a0,a1⟩:=a
 unfold nD
 rw [show (10000:Nat)=9998+1+1 from rfl]
 have u3:=Tryz.underlying3
 have u9:=Tryz.underlying9
 unfold Instr.checkKey
 simp only [Sem.run_bind,run_underlying Tryz.underlying345]
 unfold Instr.checkKey
 go_simp
theorem dV0:bP8 prog 345 nD:=bE8 Tryz.underlying345 fR1 cK7 dR2 eJ6 (fun a=>by
 unfold nD
 rw [show (10000:Nat)=9998+1+1 from rfl]
 simp [Instr.sameBits]
 exact (Go.MapKept.bytes_beq _ _).2 U)
theorem fS1 (a b:ByteArray×Int) (w:World):(Op.equal 224 (nD a) (nD b)).run prog w= .ok (dY4 a b) w:=by
 have hS:prog.underlying 224=some (.struct (prog.fieldsOf 224)):=by kernel_rfl
 have hp:prog.stoodInHeld 224=false:=by kernel_rfl
 obtain ⟨a0,a1⟩:=a
 obtain ⟨b0,b1⟩:=b
 unfold nD dY4 Op.equal Op.maxDepth
 rw [show (10000:Nat)=9999+1 from rfl,run_equalIn_agg w 9999 224 _ _ hS hp]
 simp only [Program.fieldsOf,Tryz.underlying224]
 have u3:=Tryz.underlying3
 have u9:=Tryz.underlying9
 clear hS hp
 go_simp
 repeat' split
 all_goals simp_all
theorem eK6 (em:Bool) (a:ByteArray×Int) (w:World):(Instr.checkKey em 10000 224 (nD a)).run prog w= .ok () w:=by
 obtain ⟨a0,a1⟩:=a
 unfold nD
 rw [show (10000:Nat)=9998+1+1 from rfl]
 have u3:=Tryz.underlying3
 have u9:=Tryz.underlying9
 unfold Instr.checkKey
 simp only [Sem.run_bind,run_underlying Tryz.underlying224]
 unfold Instr.checkKey
 go_simp
theorem cZ5:bP8 prog 224 nD:=bE8 Tryz.underlying224 fS1 cK7 dR2 eK6 (fun a=>by
 unfold nD
 rw [show (10000:Nat)=9998+1+1 from rfl]
 simp [Instr.sameBits]
 exact (Go.MapKept.bytes_beq _ _).2 U)
end Go.Proofs.YtmifpfcmldflkaaGreatDoor
namespace Go.Proofs
open Go.Shelf
def Tryz.laysM171_ren:Go.Shelf.Ren:=⟨fun|171=>117|243=>158|246=>204|283=>229|284=>230|285=>231|286=>232|129=>186|317=>249|318=>250|319=>251|320=>252|337=>264|338=>265|n=>n,fun|3=>3|9=>9|2=>2|4=>4|171=>327|0=>0|53=>291|37=>329|5=>5|173=>330|212=>351|51=>289|20=>20|213=>352|46=>229|232=>369|233=>370|n=>n,fun|17=>1|18=>2|19=>3|n=>n⟩
theorem Tryz.laysM171:Go.Proofs.LaysM.n171 prog Tryz.laysM171_ren:={
 mixed:=by kernel_rfl
 f129:=func186.trans (congrArg some (by kernel_rfl))
 f171:=func117.trans (congrArg some (by kernel_rfl))
 f243:=func158.trans (congrArg some (by kernel_rfl))
 f246:=func204.trans (congrArg some (by kernel_rfl))
 f283:=func229.trans (congrArg some (by kernel_rfl))
 f284:=func230.trans (congrArg some (by kernel_rfl))
 f285:=func231.trans (congrArg some (by kernel_rfl))
 f286:=func232.trans (congrArg some (by kernel_rfl))
 f317:=func249.trans (congrArg some (by kernel_rfl))
 f318:=func250.trans (congrArg some (by kernel_rfl))
 f319:=func251.trans (congrArg some (by kernel_rfl))
 f320:=func252.trans (congrArg some (by kernel_rfl))
 f337:=func264.trans (congrArg some (by kernel_rfl))
 f338:=func265.trans (congrArg some (by kernel_rfl))
 t0:=Tryz.underlying0
 a0:=Tryz.isAgg0
 z0:=Tryz.sizeOf0
 v0:=Tryz.zeroValue0
 t2:=Tryz.underlying2
 a2:=Tryz.isAgg2
 z2:=Tryz.sizeOf2
 v2:=Tryz.zeroValue2
 t3:=Tryz.underlying3
 a3:=Tryz.isAgg3
 z3:=Tryz.sizeOf3
 v3:=Tryz.zeroValue3
 t4:=Tryz.underlying4
 a4:=Tryz.isAgg4
 z4:=Tryz.sizeOf4
 v4:=Tryz.zeroValue4
 t5:=Tryz.underlying5
 a5:=Tryz.isAgg5
 z5:=Tryz.sizeOf5
 v5:=Tryz.zeroValue5
 t9:=Tryz.underlying9
 a9:=Tryz.isAgg9
 z9:=Tryz.sizeOf9
 v9:=Tryz.zeroValue9
 t20:=Tryz.underlying20
 a20:=Tryz.isAgg20
 z20:=Tryz.sizeOf20
 v20:=Tryz.zeroValue20
 t37:=Tryz.underlying329
 a37:=Tryz.isAgg329
 z37:=Tryz.sizeOf329
 v37:=Tryz.zeroValue329
 t46:=Tryz.underlying229
 a46:=Tryz.isAgg229
 z46:=Tryz.sizeOf229
 v46:=Tryz.zeroValue229
 t51:=Tryz.underlying289
 a51:=Tryz.isAgg289
 z51:=Tryz.sizeOf289
 v51:=Tryz.zeroValue289
 t53:=Tryz.underlying291
 a53:=Tryz.isAgg291
 z53:=Tryz.sizeOf291
 v53:=Tryz.zeroValue291
 t171:=Tryz.underlying327
 a171:=Tryz.isAgg327
 z171:=Tryz.sizeOf327
 v171:=Tryz.zeroValue327
 t173:=Tryz.underlying330
 a173:=Tryz.isAgg330
 z173:=Tryz.sizeOf330
 v173:=Tryz.zeroValue330
 t212:=Tryz.underlying351
 a212:=Tryz.isAgg351
 z212:=Tryz.sizeOf351
 v212:=Tryz.zeroValue351
 t213:=Tryz.underlying352
 a213:=Tryz.isAgg352
 z213:=Tryz.sizeOf352
 t232:=Tryz.underlying369
 a232:=Tryz.isAgg369
 z232:=Tryz.sizeOf369
 v232:=Tryz.zeroValue369
 t233:=Tryz.underlying370
 a233:=Tryz.isAgg370
 z233:=Tryz.sizeOf370
 v233:=Tryz.zeroValue370
 g17:=by kernel_rfl
 g18:=by kernel_rfl
 g19:=by kernel_rfl
 i0:=by kernel_rfl
 i2:=by kernel_rfl
 i3:=by kernel_rfl
 i4:=by kernel_rfl
 i5:=by kernel_rfl
 i9:=by kernel_rfl
 i20:=by kernel_rfl
 i37:=by kernel_rfl
 i46:=by kernel_rfl
 i51:=by kernel_rfl
 i53:=by kernel_rfl
 i171:=by kernel_rfl
 i173:=by kernel_rfl
 i212:=by kernel_rfl
 i232:=by kernel_rfl
 i233:=by kernel_rfl
 m17:=by kernel_rfl
 m18:=by kernel_rfl
 m19:=by kernel_rfl }
def Tryz.laysC172_ren:Go.Shelf.Ren:=⟨fun|172=>242|244=>258|245=>259|247=>272|279=>273|280=>274|281=>275|282=>276|287=>285|316=>286|171=>117|205=>287|321=>290|322=>291|243=>158|246=>204|283=>229|284=>230|285=>231|286=>232|129=>186|317=>249|318=>250|319=>251|320=>252|337=>264|338=>265|n=>n,fun|9=>9|3=>3|75=>341|76=>342|4=>4|5=>5|167=>363|37=>329|0=>0|85=>364|2=>2|168=>366|53=>291|175=>378|46=>229|210=>382|127=>385|145=>388|143=>386|21=>21|171=>327|173=>330|212=>351|51=>289|20=>20|213=>352|232=>369|233=>370|80=>391|n=>n,fun|15=>6|16=>7|17=>1|18=>2|19=>3|n=>n⟩
theorem Tryz.laysC172:Go.Proofs.LaysC.n172 prog Tryz.laysC172_ren:={
 mixed:=by kernel_rfl
 f129:=func186.trans (congrArg some (by kernel_rfl))
 f171:=func117.trans (congrArg some (by kernel_rfl))
 f172:=func242.trans (congrArg some (by kernel_rfl))
 f205:=func287.trans (congrArg some (by kernel_rfl))
 f243:=func158.trans (congrArg some (by kernel_rfl))
 f244:=func258.trans (congrArg some (by kernel_rfl))
 f245:=func259.trans (congrArg some (by kernel_rfl))
 f246:=func204.trans (congrArg some (by kernel_rfl))
 f247:=func272.trans (congrArg some (by kernel_rfl))
 f279:=func273.trans (congrArg some (by kernel_rfl))
 f280:=func274.trans (congrArg some (by kernel_rfl))
 f281:=func275.trans (congrArg some (by kernel_rfl))
 f282:=func276.trans (congrArg some (by kernel_rfl))
 f283:=func229.trans (congrArg some (by kernel_rfl))
 f284:=func230.trans (congrArg some (by kernel_rfl))
 f285:=func231.trans (congrArg some (by kernel_rfl))
 f286:=func232.trans (congrArg some (by kernel_rfl))
 f287:=func285.trans (congrArg some (by kernel_rfl))
 f316:=func286.trans (congrArg some (by kernel_rfl))
 f317:=func249.trans (congrArg some (by kernel_rfl))
 f318:=func250.trans (congrArg some (by kernel_rfl))
 f319:=func251.trans (congrArg some (by kernel_rfl))
 f320:=func252.trans (congrArg some (by kernel_rfl))
 f321:=func290.trans (congrArg some (by kernel_rfl))
 f322:=func291.trans (congrArg some (by kernel_rfl))
 f337:=func264.trans (congrArg some (by kernel_rfl))
 f338:=func265.trans (congrArg some (by kernel_rfl))
 t0:=Tryz.underlying0
 a0:=Tryz.isAgg0
 z0:=Tryz.sizeOf0
 v0:=Tryz.zeroValue0
 t2:=Tryz.underlying2
 a2:=Tryz.isAgg2
 z2:=Tryz.sizeOf2
 v2:=Tryz.zeroValue2
 t3:=Tryz.underlying3
 a3:=Tryz.isAgg3
 z3:=Tryz.sizeOf3
 v3:=Tryz.zeroValue3
 t4:=Tryz.underlying4
 a4:=Tryz.isAgg4
 z4:=Tryz.sizeOf4
 v4:=Tryz.zeroValue4
 t5:=Tryz.underlying5
 a5:=Tryz.isAgg5
 z5:=Tryz.sizeOf5
 v5:=Tryz.zeroValue5
 t9:=Tryz.underlying9
 a9:=Tryz.isAgg9
 z9:=Tryz.sizeOf9
 v9:=Tryz.zeroValue9
 t20:=Tryz.underlying20
 a20:=Tryz.isAgg20
 z20:=Tryz.sizeOf20
 v20:=Tryz.zeroValue20
 t21:=Tryz.underlying21
 a21:=Tryz.isAgg21
 z21:=Tryz.sizeOf21
 v21:=Tryz.zeroValue21
 t37:=Tryz.underlying329
 a37:=Tryz.isAgg329
 z37:=Tryz.sizeOf329
 v37:=Tryz.zeroValue329
 t46:=Tryz.underlying229
 a46:=Tryz.isAgg229
 z46:=Tryz.sizeOf229
 v46:=Tryz.zeroValue229
 t51:=Tryz.underlying289
 a51:=Tryz.isAgg289
 z51:=Tryz.sizeOf289
 v51:=Tryz.zeroValue289
 t53:=Tryz.underlying291
 a53:=Tryz.isAgg291
 z53:=Tryz.sizeOf291
 v53:=Tryz.zeroValue291
 t75:=Tryz.underlying341
 a75:=Tryz.isAgg341
 z75:=Tryz.sizeOf341
 v75:=Tryz.zeroValue341
 t76:=Tryz.underlying342
 a76:=Tryz.isAgg342
 z76:=Tryz.sizeOf342
 v76:=Tryz.zeroValue342
 t85:=Tryz.underlying364
 a85:=Tryz.isAgg364
 z85:=Tryz.sizeOf364
 v85:=Tryz.zeroValue364
 t127:=Tryz.underlying385
 a127:=Tryz.isAgg385
 z127:=Tryz.sizeOf385
 v127:=Tryz.zeroValue385
 t143:=Tryz.underlying386
 a143:=Tryz.isAgg386
 z143:=Tryz.sizeOf386
 v143:=Tryz.zeroValue386
 t145:=Tryz.underlying388
 a145:=Tryz.isAgg388
 z145:=Tryz.sizeOf388
 v145:=Tryz.zeroValue388
 t167:=Tryz.underlying363
 a167:=Tryz.isAgg363
 z167:=Tryz.sizeOf363
 v167:=Tryz.zeroValue363
 t168:=Tryz.underlying366
 a168:=Tryz.isAgg366
 z168:=Tryz.sizeOf366
 v168:=Tryz.zeroValue366
 t171:=Tryz.underlying327
 a171:=Tryz.isAgg327
 z171:=Tryz.sizeOf327
 v171:=Tryz.zeroValue327
 t173:=Tryz.underlying330
 a173:=Tryz.isAgg330
 z173:=Tryz.sizeOf330
 v173:=Tryz.zeroValue330
 t175:=Tryz.underlying378
 a175:=Tryz.isAgg378
 z175:=Tryz.sizeOf378
 v175:=Tryz.zeroValue378
 t210:=Tryz.underlying382
 a210:=Tryz.isAgg382
 z210:=Tryz.sizeOf382
 v210:=Tryz.zeroValue382
 t212:=Tryz.underlying351
 a212:=Tryz.isAgg351
 z212:=Tryz.sizeOf351
 v212:=Tryz.zeroValue351
 t213:=Tryz.underlying352
 a213:=Tryz.isAgg352
 z213:=Tryz.sizeOf352
 t232:=Tryz.underlying369
 a232:=Tryz.isAgg369
 z232:=Tryz.sizeOf369
 v232:=Tryz.zeroValue369
 t233:=Tryz.underlying370
 a233:=Tryz.isAgg370
 z233:=Tryz.sizeOf370
 v233:=Tryz.zeroValue370
 g15:=by kernel_rfl
 g16:=by kernel_rfl
 g17:=by kernel_rfl
 g18:=by kernel_rfl
 g19:=by kernel_rfl
 t80:=Tryz.underlying391
 a80:=Tryz.isAgg391
 z80:=Tryz.sizeOf391
 v80:=Tryz.zeroValue391
 i0:=by kernel_rfl
 i2:=by kernel_rfl
 i3:=by kernel_rfl
 i4:=by kernel_rfl
 i5:=by kernel_rfl
 i9:=by kernel_rfl
 i20:=by kernel_rfl
 i21:=by kernel_rfl
 i37:=by kernel_rfl
 i46:=by kernel_rfl
 i51:=by kernel_rfl
 i53:=by kernel_rfl
 i75:=by kernel_rfl
 i76:=by kernel_rfl
 i80:=by kernel_rfl
 i85:=by kernel_rfl
 i127:=by kernel_rfl
 i143:=by kernel_rfl
 i145:=by kernel_rfl
 i167:=by kernel_rfl
 i168:=by kernel_rfl
 i171:=by kernel_rfl
 i173:=by kernel_rfl
 i175:=by kernel_rfl
 i210:=by kernel_rfl
 i212:=by kernel_rfl
 i232:=by kernel_rfl
 i233:=by kernel_rfl
 m15:=by kernel_rfl
 m16:=by kernel_rfl
 m17:=by kernel_rfl
 m18:=by kernel_rfl
 m19:=by kernel_rfl
 c0:=by kernel_rfl
 c2:=by kernel_rfl
 c3:=by kernel_rfl
 c4:=by kernel_rfl
 c5:=by kernel_rfl
 c9:=by kernel_rfl
 c20:=by kernel_rfl
 c21:=by kernel_rfl
 c37:=by kernel_rfl
 c46:=by kernel_rfl
 c51:=by kernel_rfl
 c53:=by kernel_rfl
 c75:=by kernel_rfl
 c76:=by kernel_rfl
 c80:=by kernel_rfl
 c85:=by kernel_rfl
 c127:=by kernel_rfl
 c143:=by kernel_rfl
 c145:=by kernel_rfl
 c167:=by kernel_rfl
 c168:=by kernel_rfl
 c171:=by kernel_rfl
 c173:=by kernel_rfl
 c175:=by kernel_rfl
 c210:=by kernel_rfl
 c212:=by kernel_rfl
 c213:=by kernel_rfl
 c232:=by kernel_rfl
 c233:=by kernel_rfl }
def Tryz.lays101_ren:Go.Shelf.Ren:=⟨fun|101=>243|208=>260|206=>277|n=>n,fun|9=>9|4=>4|3=>3|n=>n,fun|n=>n⟩
theorem Tryz.lays101:Go.Proofs.Lays.n101 prog Tryz.lays101_ren:={
 mixed:=by kernel_rfl
 f101:=func243.trans (congrArg some (by kernel_rfl))
 f206:=func277.trans (congrArg some (by kernel_rfl))
 f208:=func260.trans (congrArg some (by kernel_rfl))
 t3:=Tryz.underlying3
 a3:=Tryz.isAgg3
 z3:=Tryz.sizeOf3
 v3:=Tryz.zeroValue3
 t4:=Tryz.underlying4
 a4:=Tryz.isAgg4
 z4:=Tryz.sizeOf4
 v4:=Tryz.zeroValue4
 t9:=Tryz.underlying9
 a9:=Tryz.isAgg9
 z9:=Tryz.sizeOf9
 v9:=Tryz.zeroValue9 }
def Tryz.lays146_ren:Go.Shelf.Ren:=⟨fun|146=>241|221=>257|268=>269|138=>270|143=>271|195=>282|197=>254|218=>283|219=>284|260=>266|217=>288|225=>281|224=>280|267=>289|266=>292|314=>293|n=>n,fun|9=>9|31=>101|3=>3|4=>4|0=>0|105=>354|21=>21|5=>5|46=>229|119=>371|139=>374|138=>373|146=>389|51=>289|n=>n,fun|1=>0|3=>4|4=>5|n=>n⟩
theorem Tryz.lays146:Go.Proofs.Lays.n146 prog Tryz.lays146_ren:={
 mixed:=by kernel_rfl
 f138:=func270.trans (congrArg some (by kernel_rfl))
 f143:=func271.trans (congrArg some (by kernel_rfl))
 f146:=func241.trans (congrArg some (by kernel_rfl))
 f195:=func282.trans (congrArg some (by kernel_rfl))
 f197:=func254.trans (congrArg some (by kernel_rfl))
 f217:=func288.trans (congrArg some (by kernel_rfl))
 f218:=func283.trans (congrArg some (by kernel_rfl))
 f219:=func284.trans (congrArg some (by kernel_rfl))
 f221:=func257.trans (congrArg some (by kernel_rfl))
 f224:=func280.trans (congrArg some (by kernel_rfl))
 f225:=func281.trans (congrArg some (by kernel_rfl))
 f260:=func266.trans (congrArg some (by kernel_rfl))
 f266:=func292.trans (congrArg some (by kernel_rfl))
 f267:=func289.trans (congrArg some (by kernel_rfl))
 f268:=func269.trans (congrArg some (by kernel_rfl))
 f314:=func293.trans (congrArg some (by kernel_rfl))
 t0:=Tryz.underlying0
 a0:=Tryz.isAgg0
 z0:=Tryz.sizeOf0
 v0:=Tryz.zeroValue0
 t3:=Tryz.underlying3
 a3:=Tryz.isAgg3
 z3:=Tryz.sizeOf3
 v3:=Tryz.zeroValue3
 t4:=Tryz.underlying4
 a4:=Tryz.isAgg4
 z4:=Tryz.sizeOf4
 v4:=Tryz.zeroValue4
 t5:=Tryz.underlying5
 a5:=Tryz.isAgg5
 z5:=Tryz.sizeOf5
 v5:=Tryz.zeroValue5
 t9:=Tryz.underlying9
 a9:=Tryz.isAgg9
 z9:=Tryz.sizeOf9
 v9:=Tryz.zeroValue9
 t21:=Tryz.underlying21
 a21:=Tryz.isAgg21
 z21:=Tryz.sizeOf21
 v21:=Tryz.zeroValue21
 t31:=Tryz.underlying101
 a31:=Tryz.isAgg101
 z31:=Tryz.sizeOf101
 v31:=Tryz.zeroValue101
 t46:=Tryz.underlying229
 a46:=Tryz.isAgg229
 z46:=Tryz.sizeOf229
 v46:=Tryz.zeroValue229
 t51:=Tryz.underlying289
 a51:=Tryz.isAgg289
 z51:=Tryz.sizeOf289
 v51:=Tryz.zeroValue289
 t105:=Tryz.underlying354
 a105:=Tryz.isAgg354
 z105:=Tryz.sizeOf354
 v105:=Tryz.zeroValue354
 t119:=Tryz.underlying371
 a119:=Tryz.isAgg371
 z119:=Tryz.sizeOf371
 t138:=Tryz.underlying373
 a138:=Tryz.isAgg373
 z138:=Tryz.sizeOf373
 v138:=Tryz.zeroValue373
 t139:=Tryz.underlying374
 a139:=Tryz.isAgg374
 z139:=Tryz.sizeOf374
 v139:=Tryz.zeroValue374
 t146:=Tryz.underlying389
 a146:=Tryz.isAgg389
 z146:=Tryz.sizeOf389
 v146:=Tryz.zeroValue389
 g1:=by kernel_rfl
 g3:=by kernel_rfl
 g4:=by kernel_rfl }
end Go.Proofs
namespace Go.Proofs.YtmifpfcmldflkaaGreatDoor
open Tryz
open Go.RowKit
def bI5 (s:ByteArray):Bool:=match Lib.atoiAll s.data.toList with
 | .ok v=>(Lib.itoa v==s.data.toList)&&decide ((Lib.trimPrefix s.data.toList [45]).length<=9)
 | .range=>false
 | _=>false
def cK8 (s:ByteArray):Int:=match Lib.atoiAll s.data.toList with
 | .ok v=>v
 | .range=>0
 | _=>0
def eQ6 (c:UInt8):Bool:=decide (48<=c.toNat)&&decide (c.toNat<=57)
theorem dD8 {n:Nat} (h:n < 10):eQ6 (UInt8.ofNat (48+n))=true:=by
 have h2:(UInt8.ofNat (48+n)).toNat=48+n:=by
  rw [UInt8.toNat_ofNat']
  omega
 unfold eQ6
 rw [h2,decide_eq_true (by omega),decide_eq_true (by omega)];rfl
theorem dQ2:∀(n:Nat),(Lib.decDigits n).all eQ6=true/\Lib.decDigits n≠ []:=by
 intro n
 induction n using Nat.strongRecOn with
 |ind n ih=>
  rw [Lib.decDigits]
  by_cases h:n < 10
  ·rw [dif_pos h]
   exact ⟨by rw [List.all_cons,dD8 h];rfl,by simp⟩
  ·rw [dif_neg h]
   obtain ⟨h1,h2⟩:=ih (n / 10) (by omega)
   refine ⟨?_,by simp⟩
   rw [List.all_append,h1,List.all_cons,dD8 (Nat.mod_lt _ (by decide))];rfl
def eW2:Nat:=1
def eY6:Nat:=0
def eY2:Nat:=6
def eX2:Nat:=7
def qN (w:World):Prop:=
 (∃T f,w.heap[eW2]?=some (.cells (Lib.pow10Tab.map fun z=>Value.int .u64 z).toArray T f))/\
 (∃cs T f m,w.heap[eY6]?=some (.cells cs T f)/\cs[0]?=some (.int .i64 m))/\
 (∃T f tp p,w.heap[eY2]?=some (.cells #[.iface tp p] T f))/\
 (∃T f tp p,w.heap[eX2]?=some (.cells #[.iface tp p] T f))
def isG (k:Nat):Prop:=k=eW2∨k=eY6∨k=eY2∨k=eX2
theorem qN.lt {w:World} (h:qN w) {k:Nat} (hk:isG k):k < w.heap.size:=by
 obtain ⟨⟨_,_,h1⟩,⟨_,_,_,_,h2,_⟩,⟨_,_,_,_,h3⟩,⟨_,_,_,_,h4⟩⟩:=h
 rcases hk with rfl|rfl|rfl|rfl
 ·exact (Array.getElem?_eq_some_iff.1 h1).1
 ·exact (Array.getElem?_eq_some_iff.1 h2).1
 ·exact (Array.getElem?_eq_some_iff.1 h3).1
 ·exact (Array.getElem?_eq_some_iff.1 h4).1
theorem qN.same {w w':World} (h:qN w) (hk:∀k,isG k->w'.heap[k]?=w.heap[k]?):qN w':=by
 obtain ⟨⟨T1,f1,h1⟩,⟨cs,T2,f2,m,h2,h2b⟩,⟨T3,f3,t3,p3,h3⟩,⟨T4,f4,t4,p4,h4⟩⟩:=h
 exact ⟨⟨T1,f1,(hk _ (.inl U)).trans h1⟩,⟨cs,T2,f2,m,(hk _ (.inr (.inl U))).trans h2,h2b⟩,⟨T3,f3,t3,p3,(hk _ (.inr (.inr (.inl U)))).trans h3⟩,⟨T4,f4,t4,p4,(hk _ (.inr (.inr (.inr U)))).trans h4⟩⟩
def TxtO (N:Nat) (row:Option Nat) (w:World):Prop:=qN w/\∀k,isG k->k < N/\row≠some k
theorem qN.old {w:World} (h:qN w):TxtO w.heap.size none w:=⟨h,fun _ hk=>⟨h.lt hk,fun e=>by cases e⟩⟩
theorem TxtO.lasts {N : Nat} {row : Option Nat} {Tt : List TypeId} : Lasts2 N row Tt (TxtO N row) :=
  ⟨fun _ _ hg h => ⟨h.1.same fun k hk => hg.block k (h.1.lt hk) (fun e => by cases e), h.2⟩,
   fun w w' r T c _ _ h3 hg h => ⟨h.1.same fun k hk => hg.block k (h.1.lt hk) (fun e => by
      have e2 : k = r := by injection e
      subst e2
      have := h.2 k hk
      rcases h3 with h3 | h3
      · omega
      · exact this.2 h3), h.2⟩⟩
theorem bR1 {w:World}:w.grownBy w none:=⟨rfl,rfl,rfl,Nat.le_refl _,fun _ _ _=>rfl⟩
theorem dF5 {a w:World} (h:a.grownBy w none) (os:Array Obj):a.grownBy (Go.Sort.grow w os) none:=
 ⟨h.os,h.tape,h.output,Nat.le_trans h.size (by simp [Go.Sort.grow]),fun k hk hn=>by
  have hk2:=Nat.lt_of_lt_of_le hk h.size
  show (w.heap++os)[k]?=_
  rw [Array.getElem?_append_left hk2]
  exact h.block k hk hn⟩
theorem qN.pow {w:World} (h:qN w):Lib.TabIs prog w "internal/strconv.uint64pow10" .u64 Lib.pow10Tab:=by
 obtain ⟨⟨T1,f1,h1⟩,_⟩:=h
 have hn:prog.globalNamed "internal/strconv.uint64pow10"=some eW2:=by kernel_rfl
 unfold Lib.TabIs World.var?
 rw [hn]
 show (match w.heap[eW2]? with|some (.cells cs _ _)=>some cs|_=>none)=_
 rw [h1]
theorem qN.max {w:World} (h:qN w):∃m,w.cell? ⟨eY6,0,none⟩=some (.int .i64 m):=by
 obtain ⟨_,⟨cs,T2,f2,m,h2,h2b⟩,_⟩:=h
 exact ⟨m,by simp [World.cell?,h2,h2b]⟩
theorem qN.syn {w:World} (h:qN w):∃tp p,w.var? prog "strconv.ErrSyntax"=some #[.iface tp p]:=by
 obtain ⟨_,_,⟨T3,f3,t3,p3,h3⟩,_⟩:=h
 have hn:prog.globalNamed "strconv.ErrSyntax"=some eY2:=by kernel_rfl
 refine ⟨t3,p3,?_⟩
 unfold World.var?
 rw [hn]
 show (match w.heap[eY2]? with|some (.cells cs _ _)=>some cs|_=>none)=_
 rw [h3]
theorem qN.ran {w:World} (h:qN w):∃tp p,w.var? prog "strconv.ErrRange"=some #[.iface tp p]:=by
 obtain ⟨_,_,_,⟨T3,f3,t3,p3,h3⟩⟩:=h
 have hn:prog.globalNamed "strconv.ErrRange"=some eX2:=by kernel_rfl
 refine ⟨t3,p3,?_⟩
 unfold World.var?
 rw [hn]
 show (match w.heap[eX2]? with|some (.cells cs _ _)=>some cs|_=>none)=_
 rw [h3]
def bC8 (n:Int):ByteArray:=⟨(Lib.itoa n).toArray⟩
theorem cN0 (n:Int) (w:World) (ht:qN w) (h0: -9223372036854775808<=n) (h1:n<=9223372036854775807):
 Calls prog 117 #[.int .i64 n] w (fun e w'=>e=.returned (.string (bC8 n))/\w.grownBy w' none):=
 (Any.strconv_Itoa Tryz.laysM171 n h0 h1 w ht.pow).mono fun _ _ ⟨he,k,os,hw⟩=>⟨he,by
  subst hw
  exact dF5 (grow_drewN bR1 k) os⟩
theorem eK1 (s p:ByteArray) (w:World):
 Calls prog 243 #[.string s,.string p] w (fun e w'=>e=.returned (.string ⟨(Lib.trimPrefix s.data.toList p.data.toList).toArray⟩)/\w.grownBy w' none):=
 (Any.strings_TrimPrefix Tryz.lays101 s p w).mono fun _ _ ⟨he,hw⟩=>⟨he,hw ▸ bR1⟩
def bE4 (s sep:ByteArray):List ByteArray:=Lib.splitB sep 0 (Lib.countB s sep) s
theorem dI7 (s:ByteArray) (w:World) (ht:qN w) (hs:s.size<=1000000000):
 Calls prog 242 #[.string s] w (fun e w'=>∃(v:Int) (E:Value),e=.returned (.tuple #[.int .i64 v,E])/\((∃u,Lib.atoiAll s.data.toList= .ok u/\v=u/\E= .nilIface)∨((∀u,Lib.atoiAll s.data.toList≠ .ok u)/\∃T p,E= .iface T (.pointer (some p))))/\w.grownBy w' none):=by
 rcases ha:Lib.atoiAll s.data.toList with u|_|_
 ·refine (Any.strconv_Atoi_ok Tryz.laysC172 s (by omega) u ha w).mono fun _ w' ⟨he,hw⟩=>⟨u,.nilIface,he,.inl ⟨u,U,U,U⟩,?_⟩
  rcases hw with rfl|⟨t,rfl⟩
  ·exact bR1
  ·exact ⟨U,U,U,by rw [Lib.bytesWorld_size];omega,fun k hk _=>Lib.bytesWorld_at_old _ _ _ k hk⟩
 ·obtain ⟨tp,p,hv⟩:=ht.syn
  exact (Any.strconv_Atoi_syntax_var Tryz.laysC172 s (by omega) ha tp p w hv).mono fun _ _ ⟨N,he,_,_,hb⟩=>⟨0,_,he,.inr ⟨(fun u h=>by cases h),_,_,U⟩,wV hb⟩
 ·obtain ⟨tp,p,hv⟩:=ht.ran
  exact (Any.strconv_Atoi_range_var Tryz.laysC172 s (by omega) ha tp p w hv).mono fun _ _ ⟨N,he,_,_,hb⟩=>⟨_,_,he,.inr ⟨(fun u h=>by cases h),_,_,U⟩,wV hb⟩
section
variable {P:Program} {nn:Nat} {S:List (Nat×Value)} {Z:World->Prop} {d:Nat} {ty:TypeId} {pos:String} {aft:Array Edge}
def bH7 (P:Program) (t:TypeId):Option IntKind:=
 match P.underlying t with
 |some (.int k)=>some k
 |_=>none
theorem xO {t:TypeId} {k:IntKind} (h:bH7 P t=some k):P.underlying t=some (.int k):=by
 unfold bH7 at h
 cases hu:P.underlying t with
 |none=>simp [hu] at h
 |some dd=>cases dd <;> simp [hu] at h <;> simp [h]
theorem cA1 {s t:TypeId} {k:IntKind} {x:Operand} {a:Nat} (hs:bH7 P s=some .i64) (ht:bH7 P t=some .u64) (hx:rd S x=some (.int k (a:Int))) (ha:a<=9223372036854775807):OV P nn S Z ⟨some d,.convert s t x,ty,pos,aft,none⟩ (.int .u64 (a:Int)):=fun b w hb hm=>by
 have h1:IntKind.u64.wrap (a:Int)=(a:Int):=by rw [IntKind.wrap_u64];omega
 have hk:P.intKind t= .u64:=by simp [Program.intKind,xO ht]
 have h2:=run_convert_int (P:=P) w s t k (a:Int) (by rw [xO hs];rfl) (by rw [hk];exact xO ht)
 rw [hk,h1] at h2
 simp [execOp,hb.eval hx,h2]
theorem bM7 {s t:TypeId} {k:IntKind} {x:Operand} {a:Nat} (hs:(bH7 P s).isSome=true) (ht:bH7 P t=some .i64) (hx:rd S x=some (.int k (a:Int))) (ha:a<=9223372036854775807):OV P nn S Z ⟨some d,.convert s t x,ty,pos,aft,none⟩ (.int .i64 (a:Int)):=fun b w hb hm=>by
 have h1:IntKind.i64.wrap (a:Int)=(a:Int):=IntWalk.i64_in _ (by omega)
 have hk:P.intKind t= .i64:=by simp [Program.intKind,xO ht]
 obtain ⟨k',hk'⟩:=Option.isSome_iff_exists.1 hs
 have h2:=run_convert_int (P:=P) w s t k (a:Int) (by rw [xO hk'];rfl) (by rw [hk];exact xO ht)
 rw [hk,h1] at h2
 simp [execOp,hb.eval hx,h2]
theorem bB1 {t t':TypeId} {x y:Operand} {a:Nat} (hx:rd S x=some (.int .u64 (a:Int))) (hy:rd S y=some (.int .u64 1)):OV P nn S Z ⟨some d,.binOp .shr t x y t',ty,pos,aft,none⟩ (.int .u64 ((a / 2:Nat):Int)):=
 ov_bin hx hy (fun w=>by simp [go_sem,IntKind.bits])
end
def pK (s:ByteArray) (j:Int):Int:=if h:0<=j/\j < s.size then ((s[j.toNat]'(by omega)).toNat:Int) else 0
theorem dR4 (s:ByteArray) (j:Int):0<=pK s j/\pK s j<=255:=by
 unfold pK
 split
 ·have:=(s[j.toNat]'(by omega)).toNat_lt
  omega
 ·omega
section
variable {P:Program} {nn:Nat} {S:List (Nat×Value)} {Z:World->Prop} {d:Nat} {ty:TypeId} {pos:String} {aft:Array Edge}
theorem bK5 {t:TypeId} {x y:Operand} {s:ByteArray} {j:Int} (ht:P.underlying t=some .string) (hx:rd S x=some (.string s)) (hy:rd S y=some (.int .i64 j)) (h0:0<=j) (h1:j < s.size):
 OV P nn S Z ⟨some d,.index t x y,ty,pos,aft,none⟩ (.int .u8 (pK s j)):=fun a w ha hm=>by
 have h:=run_index_string (P:=P) (w:=w) t s .i64 j ht
 rw [dif_pos ⟨h0,h1⟩] at h
 simp [execOp,ha.eval hx,ha.eval hy,h,pK,h0,h1]
end
theorem cA2 {a:Nat} {l:List Nat} (h:zG (a::l)=true):a∉l/\zG l=true:=by
 simp only [zG,Bool.and_eq_true] at h
 refine ⟨fun hm=>?_,h.2⟩
 have:=List.all_eq_true.1 h.1 a hm
 simp at this
theorem gM.toOwn {c:Cx} {K:World->Prop} {L:List (Nat×TypeId×List Value)} {O:List Own} {X:List (World->Prop)} {w:World} (h:gM c K L O X w) (i:Nat) (ls:List Nat) {g:Nat} {T:TypeId} {cs:List Value} (hi:L[i]?=some (g,T,cs)) (hls:zG (i::ls)=true) {n sz:Nat} (hcs:cs.length=n *sz) (hn:n<=maxLen):
 gM c K (wF L ls) (⟨.slice (some ⟨g,0,none⟩) n n,T,sz,n,cs⟩::O) X w:=by
 obtain ⟨hni,hl2⟩:=cA2 hls
 have hp:=h.pickL ls hl2
 have rW:=h.rowOf i hi hcs hn
 have hib:(⟨.slice (some ⟨g,0,none⟩) n n,T,sz,n,cs⟩:Own).v.ownBlock=some g:=rfl
 refine ⟨h.g,h.k,hp.b,hp.nd,fun r hr=>?_,fun r hr x hx=>?_,?_,h.x,h.kk,h.l,h.rs⟩
 ·rcases List.mem_cons.1 hr with rfl|hr
  ·exact rW
  ·exact h.o r hr
 ·rcases List.mem_cons.1 hr with rfl|hr
  ·obtain ⟨j,hj,hjx⟩:=pJ hx
   intro e
   have hg:g=x.1:=by injection e
   have hij:i≠j:=fun e=>hni (e ▸ hj)
   obtain ⟨hi1,vO⟩:=List.getElem?_eq_some_iff.1 hi
   obtain ⟨hj1,hj2⟩:=List.getElem?_eq_some_iff.1 hjx
   rcases Nat.lt_or_gt_of_ne hij with hlt|hlt
   ·have:=List.pairwise_iff_getElem.1 h.nd i j hi1 hj1 hlt
    rw [vO,hj2] at this;exact this hg
   ·have:=List.pairwise_iff_getElem.1 h.nd j i hj1 hi1 hlt
    rw [vO,hj2] at this;exact this hg.symm
  ·exact hp.od r hr x hx
 ·refine List.Pairwise.cons (fun s hs b hb hsb=>?_) h.oo
  have hgb:g=b:=by injection hb
  subst hgb
  exact h.od s hs _ (fK5 hi) hsb
section
variable {P:Program} {c:Cx} {eU:Array Oper} {Q:Exit->Act->World->Prop} {S:List (Nat×Value)} {K:World->Prop} {L:List (Nat×TypeId×List Value)} {O:List Own} {X:List (World->Prop)}
theorem dE9 {code:Code} (i:Nat) (ls:List Nat) {g:Nat} {T:TypeId} {cs:List Value} {n sz:Nat} (hi:L[i]?=some (g,T,cs)) (hls:zG (i::ls)=true) (hcs:cs.length=n *sz) (hn:n<=maxLen) (h:Gw P c Q code S K (wF L ls) (⟨.slice (some ⟨g,0,none⟩) n n,T,sz,n,cs⟩::O) X):Gw P c Q code S K L O X:=fun a w ha hm=>h a w ha (hm.toOwn i ls hi hls hcs hn)
end
section
variable {P:Program} {c:Cx} {eU:Array Oper} {Q:Exit->Act->World->Prop} {rest:List Oper} {S:List (Nat×Value)} {K:World->Prop} {L:List (Nat×TypeId×List Value)} {O:List Own} {X:List (World->Prop)}
variable {d:Nat} {ty:TypeId} {pos:String} {aft:Array Edge}
theorem cT1 {f:FuncId} {x:Operand} {ags:List Operand} {ats:Array TypeId} {vs fs cs:List Value} {v:Value} {r:Own} {xs':List Value} (i:Nat) (hO:O[i]?=some r) (hT:c.Tt.contains r.e=false) (hx:rd S x=some (.func (.func f) fs.toArray cs.toArray)) (hf:cB P f=true) (ha:pS S ags=some vs) (hd:Nat.ble (d+1) c.n=true)
 (hC:∀w,gM c K L O X w->Calls P f (fs++vs++cs).toArray w (fun e w'=>e=.returned v/\w'.ownsRow c.w0.heap.size r.e r.sz r.v r.n xs'/\w.grownBy w' r.v.ownBlock)) (h:WL P c eU Q rest ((d,v)::S) K L (wX ⟨r.v,r.e,r.sz,r.n,xs'⟩ O i) X):
 WL P c eU Q (⟨some d,.call ⟨.value x,ags.toArray,ats⟩,ty,pos,aft,none⟩::rest) S K L O X:=
 fO (γ:=Unit) (val:=fun _=>v) (φ:=fun _=>True) (K':=fun _=>K) (L':=fun _=>L) (O':=fun _=>wX ⟨r.v,r.e,r.sz,r.n,xs'⟩ O i) (X':=fun _=>X) hx hf ha hd (fun w hm=>(hC w hm).mono fun _ _ ⟨he,ho,hg⟩=>⟨(),he,trivial,hm.append hO hT ho hg (.inl rfl)⟩) (fun _ _=>h)
end
section
variable {P:Program} {nn:Nat} {S:List (Nat×Value)} {Z:World->Prop} {d:Nat} {ty:TypeId} {pos:String} {aft:Array Edge}
theorem eP3 {t t':TypeId} {x y:Operand} {m n:ByteArray} (hx:rd S x=some (.string m)) (hy:rd S y=some (.string n)):OV P nn S Z ⟨some d,.binOp .gtr t x y t',ty,pos,aft,none⟩ (.bool !(Op.bytesLess m.toList n.toList||m.toList==n.toList)):=
 ov_bin hx hy (fun w=>by simp [go_sem])
theorem cG6 {t t':TypeId} {x y:Operand} {m n:ByteArray} (hx:rd S x=some (.string m)) (hy:rd S y=some (.string n)):OV P nn S Z ⟨some d,.binOp .lss t x y t',ty,pos,aft,none⟩ (.bool (Op.bytesLess m.toList n.toList)):=
 ov_bin hx hy (fun w=>by simp [go_sem])
theorem eD0 (k k':IntKind) (x y:Int):Builtin.min2 (.int k x) (.int k' y)=pure (.int k (min x y)):=by
 have e:(if y < x then y else x)=min x y:=by split <;> omega
 simp only [Builtin.min2,e]
theorem eC0 (k k':IntKind) (x y:Int):Builtin.max2 (.int k x) (.int k' y)=pure (.int k (max x y)):=by
 have e:(if y > x then y else x)=max x y:=by split <;> omega
 simp only [Builtin.max2,e]
theorem eO3 {ts:Array TypeId} {x y z u:Operand} {m n p q:Int} (hx:rd S x=some (.int .i64 m)) (hy:rd S y=some (.int .i64 n)) (hz:rd S z=some (.int .i64 p)) (hu:rd S u=some (.int .i64 q)):OV P nn S Z ⟨some d,.call ⟨.builtin .min,#[x,y,z,u],ts⟩,ty,pos,aft,none⟩ (.int .i64 (min (min (min m n) p) q)):=
 (fun a w ha hm=>by
  simp [execOp,resolve,invoke,builtin,ha.eval hx,ha.eval hy,ha.eval hz,ha.eval hu,Builtin.min_,eD0])
theorem eN3 {ts:Array TypeId} {x y z u:Operand} {m n p q:Int} (hx:rd S x=some (.int .i64 m)) (hy:rd S y=some (.int .i64 n)) (hz:rd S z=some (.int .i64 p)) (hu:rd S u=some (.int .i64 q)):OV P nn S Z ⟨some d,.call ⟨.builtin .max,#[x,y,z,u],ts⟩,ty,pos,aft,none⟩ (.int .i64 (max (max (max m n) p) q)):=
 (fun a w ha hm=>by
  simp [execOp,resolve,invoke,builtin,ha.eval hx,ha.eval hy,ha.eval hz,ha.eval hu,Builtin.max_,eC0])
end
def gG (base:Nat) (e:TypeId) (sz n eV g:Nat) (xs:List Value) (w:World):Prop:=w.ownsRow base e sz (.slice (some ⟨g,0,none⟩) n eV) n xs
theorem gG.lt {base:Nat} {e:TypeId} {sz n eV g:Nat} {xs:List Value} {w:World} (h:gG base e sz n eV g xs w):base<=g/\g < w.heap.size:=(show w.ownsRow base e sz (.slice (some ⟨g,0,none⟩) n eV) n xs from h).lt g rfl
theorem gG.keeps {base:Nat} {e:TypeId} {sz n eV g:Nat} {xs:List Value} {N:Nat} (h:g < N):bA3 N (gG base e sz n eV g xs):=
 ⟨fun _ _ hg hk=>World.ownsRow.kept hk hg (.inr (fun e=>by simp [Value.ownBlock] at e)),fun _ _ r hr hg hk=>World.ownsRow.kept hk hg (.inr (fun e=>by
  have e:g=r:=by simpa [Value.ownBlock] using e
  omega))⟩
section
variable {P:Program} {c:Cx} {eU:Array Oper} {Q:Exit->Act->World->Prop} {rest:List Oper} {S:List (Nat×Value)} {L:List (Nat×TypeId×List Value)} {O:List Own} {X:List (World->Prop)} {d:Nat} {ty:TypeId} {pos:String} {aft:Array Edge}
theorem gG.get {α:Type} {enc:α->List Value} {base:Nat} {e:TypeId} {sz n eV g:Nat} {l:List α} {w:World} (h:gG base e sz n eV g (l.flatMap enc) w) (hk:∀x,(enc x).length=sz) (hl:l.length=n):SlT enc sz e w (some ⟨g,0,none⟩) n l:=SlT.ofOwn hk h hl
theorem rP {α:Type} {enc:α->List Value} {t:TypeId} {x y:Operand} {base g n eV sz o j r:Nat} {e:TypeId} {v:Value} {l:List α} {el el':α} (rW:c.row=some g) (hs:gY P t=true) (hx:rd S x=some (.pointer (some ⟨g,o,none⟩))) (hy:rd S y=some v) (h1:v.oneCell'=true)
 (hk:∀x,(enc x).length=sz) (ho:0+j *sz+r=o) (hj:l[j]?=some el) (hl:l.length=n) (hr:r < sz) (he:(enc el).set r v=enc el') (hT:c.Tt.contains e=false)
 (h:WL P c eU Q rest S (gG base e sz n eV g ((l.set j el').flatMap enc)) L O X):WL P c eU Q (⟨none,.store t x y,ty,pos,aft,none⟩::rest) S (gG base e sz n eV g (l.flatMap enc)) L O X:=by
 intro a w ha hm
 refine wpList_plain U fun K' hK=>?_
 have hown:w.ownsRow base e sz (.slice (some ⟨g,0,none⟩) n eV) n (l.flatMap enc):=hm.k
 have hjl:=(List.getElem?_eq_some_iff.1 hj).1
 have hlt:j *sz+r < n *sz:=by
  have:(j+1) *sz<=n *sz:=Nat.mul_le_mul_right sz (by omega)
  rw [Nat.add_mul] at this
  omega
 have ho':o=j *sz+r:=by omega
 obtain ⟨u,hu⟩:∃u,(l.flatMap enc)[o]?=some u:=⟨_,fJ5 (by rw [hown.1];omega)⟩
 have hc:w.cell? ⟨g,o,none⟩=some u:=by rw [hown.cellAt o (by omega)];exact hu
 have hst:(store ⟨g,o,none⟩ v).run P w= .ok () (w.setCell ⟨g,o,none⟩ v):=by
  rw [run_store P w _ _ _ h1]
  simp [hc,hown.frozenAt]
 have hv1:v.cells=#[v]:=by cases v <;> simp_all [Value.cells,Value.oneCell']
 unfold Oper.wp
 have:(execOp a.eval ⟨none,.store t x y,ty,pos,aft,none⟩).run P w= .ok .skip (w.setCell ⟨g,o,none⟩ v):=by
  simp only [execOp,ha.eval hx,ha.eval hy,Instr.storeAt,Instr.sureAddr,storeVar,hv1]
  simp [(yZ hs w).2,storeCells,uT,hst]
 rw [this]
 have hs2:=hown.stored o v
 rw [ho',bO6 enc sz hk hj he hr,<-ho'] at hs2
 refine hK _ _ (h _ _ ⟨ha.size,ha.val,ha.df⟩ ?_)
 have hg:w.grownBy (w.setCell ⟨g,o,none⟩ v) (some g):=hs2.2
 have hlt0:=hm.rs g rW
 obtain ⟨cells,hcells⟩:∃cells,w.heap[g]?=some (.cells cells e (0,0)):=by
  rcases hown.2 with ⟨h1,_⟩|⟨g',cap',rC,h1,_,h2,_⟩
  ·cases h1
  ·injection h1 with h1 _ _
   injection h1 with h1
   injection h1 with h1 _ _
   subst h1
   exact ⟨_,h2⟩
 refine ⟨grow_trans hm.g (rW ▸ hg),hs2.1,fun x hx=>⟨(hm.b x hx).1,(hm.b x hx).2.grown hg (fun e=>?_)⟩,hm.nd,fun r hr=>(hm.o r hr).kept hg ?_,hm.od,hm.oo,fun A hA=>?_,gG.keeps hlt0,hm.l,hm.rs⟩
 ·have:=(hm.b x hx).1;injection e with e;omega
 ·cases hv:r.v.ownBlock with
  |none=>exact .inl rfl
  |some g'=>exact .inr (fun e=>by have:=((hm.o r hr).lt g' hv).1;injection e with e;omega)
 ·exact (hm.l A hA).st w _ g e cells hcells (fun e=>by simp [e] at hT) (.inr rW) hg (hm.x A hA)
end
theorem gM.newOwnS {c:Cx} {L:List (Nat×TypeId×List Value)} {O:List Own} {X:List (World->Prop)} {w w':World} {TS:TypeId} {B sb m m':Nat} (h:gM c (fun w=>eW TS w B sb m) L O X w) (rW:c.row=some sb) (hT:c.Tt.contains TS=false) (hS:eW TS w' B sb m') (hg:w.grownBy w' (some sb)) {v:Value} {e:TypeId} {sz n:Nat} {xs:List Value} (hown:w'.ownsRow w.heap.size e sz v n xs):gM c (fun w=>eW TS w B sb m') L (⟨v,e,sz,n,xs⟩::O) X w':=by
 have h2:=h.strm rW hT hS hg Lasts2.true_ trivial
 refine ⟨h2.g,h2.k,h2.b,h2.nd,fun r hr=>?_,fun r hr x hx=>?_,List.Pairwise.cons (fun x hx g hg' e'=>?_) h.oo,fun A hA=>h2.x A (List.mem_cons_of_mem _ hA),h2.kk,h.l,h.rs⟩
 ·rcases List.mem_cons.1 hr with rfl|hr
  ·refine ⟨hown.1,?_⟩
   rcases hown.2 with hn|⟨g,eV,rC,h1,h3,h4⟩
   ·exact .inl hn
   ·exact .inr ⟨g,eV,rC,h1,Nat.le_trans h.g.size h3,h4⟩
  ·exact h2.o r hr
 ·rcases List.mem_cons.1 hr with rfl|hr
  ·intro e'
   have h3:=(hown.lt _ e').1
   have h4:=(h.b x hx).2.lt
   omega
  ·exact h.od r hr x hx
 ·have h3:=(hown.lt _ hg').1
  have h4:=((h.o x hx).lt _ e').2
  omega
section
variable {P:Program} {c:Cx} {eU:Array Oper} {Q:Exit->Act->World->Prop} {rest:List Oper} {S:List (Nat×Value)} {L:List (Nat×TypeId×List Value)} {O:List Own} {X:List (World->Prop)} {d:Nat} {ty:TypeId} {pos:String} {aft:Array Edge}
theorem dW6 {γ:Type} {TS:TypeId} {B sb m m':Nat} {f:FuncId} {x:Operand} {ags:List Operand} {ats:Array TypeId} {vs fs cs:List Value} {val:γ->Value} {φ:γ->Prop} (r:γ->Own) (hx:rd S x=some (.func (.func f) fs.toArray cs.toArray)) (hf:cB P f=true) (ha:pS S ags=some vs) (hd:Nat.ble (d+1) c.n=true) (rW:c.row=some sb) (hT:c.Tt.contains TS=false)
 (hC:∀w,gM c (fun w=>eW TS w B sb m) L O X w->Calls P f (fs++vs++cs).toArray w (fun e w'=>∃g,e=.returned (val g)/\φ g/\eW TS w' B sb m'/\w.grownBy w' (some sb)/\w'.ownsRow w.heap.size (r g).e (r g).sz (r g).v (r g).n (r g).xs)) (h:∀g,φ g->WL P c eU Q rest ((d,val g)::S) (fun w=>eW TS w B sb m') L (r g::O) X):
 WL P c eU Q (⟨some d,.call ⟨.value x,ags.toArray,ats⟩,ty,pos,aft,none⟩::rest) S (fun w=>eW TS w B sb m) L O X:=
 fO (γ:=γ) (val:=val) (φ:=φ) (K':=fun _ w=>eW TS w B sb m') (L':=fun _=>L) (O':=fun g=>r g::O) (X':=fun _=>X) hx hf ha hd (fun w hm=>(hC w hm).mono fun _ _ ⟨g,he,hφ,hS,hg,ho⟩=>⟨g,he,hφ,hm.newOwnS rW hT hS hg ho⟩) h
end
def dH7 (P:Program) (t:TypeId):Option (Nat×Nat):=
 match P.underlying t with
 |some (.array n e)=>(P.info? e).map (fun i=>(n,i.size))
 |_=>none
section
variable {P:Program} {nn:Nat} {S:List (Nat×Value)} {Z:World->Prop} {d:Nat} {ty:TypeId} {pos:String} {aft:Array Edge}
theorem cQ3 {t:TypeId} {x y:Operand} {g o n sz j o':Nat} (ha':dH7 P t=some (n,sz)) (hx:rd S x=some (.pointer (some ⟨g,o,none⟩))) (hy:rd S y=some (.int .i64 (j:Int))) (hj:j < n) (ho:o+j *sz=o'):OV P nn S Z ⟨some d,.indexAddr t x y,ty,pos,aft,none⟩ (.pointer (some ⟨g,o',none⟩)):=fun a w ha hm=>by
 unfold dH7 at ha'
 split at ha'
 ·rename_i n' e hu
  cases hi:P.info? e with
  |none=>simp [hi] at ha'
  |some inf=>
   simp [hi] at ha'
   obtain ⟨rfl,rfl⟩:=ha'
   have hn:P.arrayLen t=n':=by simp [Program.arrayLen,hu]
   have he:P.elem t=e:=by simp [Program.elem,hu]
   have h1:(Instr.indexAt t (.pointer (some ⟨g,o,none⟩)) (.int .i64 (j:Int))).run P w= .ok (.pointer (some ⟨g,o',none⟩)) w:=by
    rw [run_indexAt_array w t _ _ _ (by rw [hn,he];exact hu),if_pos ⟨by omega,by rw [hn];omega⟩]
    subst ho
    simp [sizeOf,typeInfo,he,hi,uT]
   simp [execOp,ha.eval hx,ha.eval hy,h1]
 ·cases ha'
end
theorem SlT.takeT {α:Type} {enc:α->List Value} {k:Nat} {T:TypeId} {w:World} {A:Option Addr} {n q:Nat} {l:List α} (h:SlT enc k T w A n l) (hq:q<=n):SlT enc k T w A q (l.take q):=by
 refine ⟨by rw [List.length_take,h.len];omega,fun hn=>?_⟩
 obtain ⟨b,off,cells,fz,e,hh,hr⟩:=h.at_ (by omega)
 refine ⟨b,off,cells,fz,e,hh,fun i x hx j v hv=>hr i x ?_ j v hv⟩
 rw [List.getElem?_take] at hx
 split at hx
 ·exact hx
 ·cases hx
section
variable {P:Program} {nn:Nat} {S:List (Nat×Value)} {Z:World->Prop} {d:Nat} {ty:TypeId} {pos:String} {aft:Array Edge}
theorem eP {t t':TypeId} {x y:Operand} {m n:ByteArray} (hx:rd S x=some (.string m)) (hy:rd S y=some (.string n)) (h:m.size+n.size<=9223372036854775807):OV P nn S Z ⟨some d,.binOp .add t x y t',ty,pos,aft,none⟩ (.string (m++n)):=
 ov_bin hx hy (fun w=>by
  have e:=run_string_add_sum (P:=P) w m n h
  simp [binOp_string_add,e,go_sem])
end
theorem eF2 {l:List UInt8} {v:Int} (h:Lib.atoiAll l= .ok v): -9223372036854775808<=v/\v<=9223372036854775807:=by
 unfold Lib.atoiAll at h
 split at h
 ·cases h
 ·dsimp only at h
  split at h
  ·cases h
  ·cases h
  ·split at h
   ·cases h
   ·split at h
    ·cases h
    ·rename_i h1 h2
     injection h with h
     subst h
     split
     ·rename_i hn
      have:¬9223372036854775808 < _:=fun e=>h2 ⟨hn,e⟩
      omega
     ·rename_i hn
      have:¬9223372036854775808<=_:=fun e=>h1 ⟨hn,e⟩
      omega
theorem cA8 {v:Int} {s:ByteArray}:((bC8 v).toList==s.toList)=(Lib.itoa v==s.data.toList):=by
 unfold bC8
 rw [ByteArray.toList_eq,ByteArray.toList_eq]
theorem eI7 {s:ByteArray} {v:Int} (h:Lib.atoiAll s.data.toList= .ok v):bI5 s=((Lib.itoa v==s.data.toList)&&decide ((Lib.trimPrefix s.data.toList [45]).length<=9))/\cK8 s=v:=by
 unfold bI5 cK8;rw [h];exact ⟨rfl,rfl⟩
theorem eI0 {s:ByteArray} (h:∀v,Lib.atoiAll s.data.toList≠ .ok v):bI5 s=false:=by
 unfold bI5
 rcases ha:Lib.atoiAll s.data.toList with v|_|_
 ·exact absurd ha (h v)
 ·rfl
 ·rfl
theorem eX5 (l:List UInt8):(⟨l.toArray⟩:ByteArray).size=l.length:=by
 show l.toArray.size=l.length
 simp
theorem dC8 (n:Nat):decide ((n:Int)<=9)=decide (n<=9):=by
 rw [decide_eq_decide];omega
theorem dF1 (s:ByteArray) (w:World) (ht:qN w) (hs:s.size<=1000000):
 Calls prog 210 #[.string s] w (fun e w'=>∃v,e=.returned (.tuple #[.int .i64 v,.bool (bI5 s)])/\(bI5 s=true->v=cK8 s)/\w.grownBy w' none):=by
 refine cV ⟨26,w,none, []⟩ func210 U ntmps210 U (gR (X:= [TxtO w.heap.size none]) (cG ht.old cY) (cH TxtO.lasts cZ)) (bS (bZ U (bZ U (bR (bS (bP U ?_))))))
 refine jC (γ:=Int×Value) (val:=(fun g=> .tuple #[.int .i64 g.1,g.2])) (φ:=(fun g=>(∃u,Lib.atoiAll s.data.toList= .ok u/\g.1=u/\g.2= .nilIface)∨((∀u,Lib.atoiAll s.data.toList≠ .ok u)/\∃T p,g.2= .iface T (.pointer (some p))))) (Y:=(fun g=>fun _=>True)) U fY0 U U (fun wx hm=>(dI7 s wx (hm.fact 0 U).1 (by omega)).mono fun _ _ ⟨v,E,he,hE,hg⟩=>⟨(v,E),he,hE,hg,trivial⟩) (fun _=>Lasts2.true_) ?_
 rintro ⟨v,E⟩ hE
 dsimp only at hE ⊢
 rcases hE with ⟨u,hu,rfl,rfl⟩|⟨hno,T,p,rfl⟩
 ·have hbd:=eF2 hu
  obtain ⟨vE,hn2⟩:=eI7 hu
  refine bP U (bB (cR U U) U (bB (cR U U) U (bZ U (bZ U (bR (bS (bP U (bP U (bB (ov_bin (v:= .bool true) U U (fun _=>by kernel_rfl)) U (bP U (eG U (bP U (eG U (cL U dK7 U U (fun wx hm=>(cN0 v wx (hm.fact 1 U).1 (by omega) (by omega))) (eG U (bP U (eG U (bB (eR U U) U (mQ U U (bP U ?_))))))))))))))))))))
  rcases Bool.eq_false_or_eq_true ((bC8 v).toList==s.toList) with he|he
  ·refine bL 20 U (fH5 he) ?_
   refine eG U (bP U (eG U (cL U fZ0 U U (fun wx hm=>(eK1 s ⟨#[45]⟩ wx)) (eG U (bB (yP us9 U) U (eG U (bB (mV U U) U (mQ U U (bZ U (bZ U (bR (bM ?_))))))))))))
   refine vR U U U fun wx hm=>?_
   exact ⟨v,by rw [vE,<-cA8,he,Bool.true_and,eX5,dC8],fun _=>hn2.symm,hm.g⟩
  refine bL 20 U (fH5 he) (dY U (dY U (dY U (dY U (nS U U (bZ U (bZ U (bR (bM ?_)))))))))
  refine vR U U U fun wx hm=>?_
  exact ⟨v,by rw [vE,<-cA8,he];rfl,fun _=>hn2.symm,hm.g⟩
 refine bP U (bB (cR U U) U (bB (cR U U) U (bZ U (bZ U (bR (bS (bP U (bP U (bB (ov_bin (v:= .bool false) U U (fun _=>by kernel_rfl)) U (bP U (dY U (dY U (dY U (dY U (nS U U (bP U (dY U (dY U (dY U (dY U (nS U U (bZ U (bZ U (bR (bM ?_)))))))))))))))))))))))))
 refine vR U U U fun wx hm=>?_
 exact ⟨_,by rw [eI0 hno],fun h=>by (rw [eI0 hno] at h;cases h),hm.g⟩
def kN (x:Int):List Value:= [.int .i64 x]
def eqP (k:ByteArray) (y:ByteArray):Bool:=k.toList==y.toList
theorem dA7 (s sep:ByteArray) (h1:1<=sep.size):(bE4 s sep).length=Lib.countB s sep+1:=Lib.splitB_all sep h1 0 _ s rfl
theorem dX1 (l:List ByteArray) (A:Option Addr) (n c:Nat) (k:ByteArray) (w:World) (hl:SlT fH 1 9 w A n l) (hn:n<=1000001):
 Calls prog 193 #[.slice A n c,.string k] w (nC w (mH (eqP k) l 0)):=by
 refine cV ⟨19,w,none, []⟩ func193 U ntmps193 U (gR (X:= [bU fH 1 9 w.heap.size none A n l]) (cG hl.old cY) (cH bU.lasts cZ)) (bS ?_)
 have hlen:=hl.len
 refine bZ U (bR (bH (bS (bP U (bB (dT jY U) U (bP U (bR (bO ?_))))))))
 refine dX (γ:=Nat) (fun (i:Nat)=>i<=n/\mH (eqP k) l 0=mH (eqP k) (l.drop i) i) (fun (i:Nat)=> [(0,.slice A n c),(1,.string k),(7,.int .i64 ((n:Nat):Int)),(8,.int .i64 ((i:Nat):Int))]) (fun (i:Nat)=>fun _=>True) (fun (i:Nat)=> []) (fun (i:Nat)=> []) (fun (i:Nat)=> [bU fH 1 9 w.heap.size none A n l]) (fun (i:Nat)=>n - i) 0 ⟨Nat.zero_le _,U⟩ ⟨U,U,U,U,trivial⟩ (fun _ hm=>hm.pick [] [] [0] U U) ?_
 intro i cC
 replace cC:i<=n/\mH (eqP k) l 0=mH (eqP k) (l.drop i) i:=cC
 refine bS (bB (dD U U) U (bR (bH ?_)))
 refine cE U (fun hi=>?_) (fun hi=>?_)
 ·refine bN (bD (bH (bO (bS ?_))))
  obtain ⟨b,off,hA,_,_⟩:=hl.get (by omega)
  subst hA
  obtain ⟨x,hx⟩:∃x,l[i]?=some x:=⟨_,fJ5 (by omega)⟩
  have hat:=bX0 (p:=eqP k) hx
  refine bP U (bZ U (bR (bS (bP U (bP U (bP U (bB (bT (j:=i) jY U U (by omega)) U (bB (dL (k:=0) (v:= .string x) fE U (fun _ hm=>(hm.fact 0 U).1) hx U U) U (bB (eR U U) U (bR ?_))))))))))
  refine dC U (fun hh=>?_) (fun hh=>?_)
  ·have hq:(k.toList==x.toList)=true:=by simpa using hh
   refine bS ?_
   have hq2:eqP k x=true:=hq
   refine bP U (bZ U (bR (bM (bC (bA (bA (bC (bA ?_))))))))
   exact bK U U fun wx hm=>⟨bW (by rw [cC.2,hat,if_pos hq2]),hm.g⟩
  have hq:(k.toList==x.toList)=false:=by simpa using hh
  refine bN (bG (bD (bI ?_)))
  have hq2:eqP k x=false:=hq
  refine gN U U (bP U (bE ?_))
  exact cQ (i+1) ⟨by omega,by rw [cC.2,hat,if_neg (by rw [hq2];decide)]⟩ (by omega) ⟨U,U,U,(cS (by omega)),trivial⟩ (fun _ hm=>hm.pick [] [] [0] U U)
 refine dE (bF (bF (bY (bD (bS (bZ U (bL 4 (v':= .int .i64 (-1)) U U (bR (bM ?_)))))))))
 exact bK U U fun wx hm=>⟨bW (by rw [cC.2,List.drop_eq_nil_of_le (by omega)];rfl),hm.g⟩
theorem eK4 {p:ByteArray->Bool} {l:List ByteArray}:decide (0<=mH p l 0)=l.any p:=by
 rcases qQ (p:=p) l 0 with ⟨h,h2⟩|⟨j,y,h,hj,hp,_⟩
 ·rw [h,decide_eq_false (by omega)]
  exact (List.any_eq_false.2 fun x hx=>by simpa using h2 x hx).symm
 ·rw [h,decide_eq_true (by omega)]
  exact (List.any_eq_true.2 ⟨y,fK5 hj,hp⟩).symm
theorem cT2 (l:List ByteArray) (A:Option Addr) (n c:Nat) (k:ByteArray) (w:World) (hl:SlT fH 1 9 w A n l) (hn:n<=1000001):
 Calls prog 149 #[.slice A n c,.string k] w (fun e w'=>e=.returned (.bool (l.any (eqP k)))/\w.grownBy w' none):=by
 refine cV ⟨9,w,none, []⟩ func149 U ntmps149 U (gR (X:= [bU fH 1 9 w.heap.size none A n l]) (cG hl.old cY) (cH bU.lasts cZ)) (bS (bZ U (bR (bS (bP U (bP U (cL U eJ5 U U (fun wx hm=>(dX1 l A n c k wx (hm.fact 0 U).1 hn)) (bB (mO U U) U (bZ U (bR (bM ?_)))))))))))
 exact bK U U fun wx hm=>⟨by rw [eK4],hm.g⟩
def wdL (s:ByteArray):List ByteArray:=bE4 s ⟨#[32]⟩
def wdB (s:ByteArray):Bool:= !((wdL s).any (eqP ⟨#[]⟩))
theorem kB:bP8 prog 9 dN:=fN4
noncomputable def mL:ByteArray->Option ByteArray:=fP (fP (fP (fP (fP (fP (fP (fP (fP (fP (fP (fP (fP (mZ) ⟨#[101,110,116,101,114]⟩ ⟨#[119,119]⟩) ⟨#[115,104,111,112]⟩ ⟨#[119,119]⟩) ⟨#[100,111,110,101]⟩ ⟨#[119,119]⟩) ⟨#[99,111,109,101]⟩ ⟨#[119,119]⟩) ⟨#[103,111,110,101]⟩ ⟨#[119,119]⟩) ⟨#[108,101,97,118,101]⟩ ⟨#[119,119,119]⟩) ⟨#[98,111,111,107]⟩ ⟨#[119,119,110,110,110]⟩) ⟨#[99,97,110,99,101,108]⟩ ⟨#[119]⟩) ⟨#[115,116,97,114,116]⟩ ⟨#[119,119,110,119,119,110,110]⟩) ⟨#[115,119,97,112]⟩ ⟨#[119,119,110,110,119,110,110]⟩) ⟨#[101,120,116,101,110,100]⟩ ⟨#[119,110]⟩) ⟨#[99,108,111,115,101]⟩ ⟨#[119,119,110,110]⟩) ⟨#[112,97,121]⟩ ⟨#[119,110]⟩
noncomputable def gF:ByteArray->Option Int:=fP (fP (fP (fP (fP (fP (mZ) ⟨#[101,110,116,101,114]⟩ 1) ⟨#[115,104,111,112]⟩ 4) ⟨#[100,111,110,101]⟩ 5) ⟨#[99,111,109,101]⟩ 7) ⟨#[103,111,110,101]⟩ 8) ⟨#[108,101,97,118,101]⟩ 6
theorem bA8 {k f:ByteArray} (h:mL k=some f):(k=⟨#[112,97,121]⟩/\f=⟨#[119,110]⟩)∨(k=⟨#[99,108,111,115,101]⟩/\f=⟨#[119,119,110,110]⟩)∨(k=⟨#[101,120,116,101,110,100]⟩/\f=⟨#[119,110]⟩)∨(k=⟨#[115,119,97,112]⟩/\f=⟨#[119,119,110,110,119,110,110]⟩)∨(k=⟨#[115,116,97,114,116]⟩/\f=⟨#[119,119,110,119,119,110,110]⟩)∨(k=⟨#[99,97,110,99,101,108]⟩/\f=⟨#[119]⟩)∨(k=⟨#[98,111,111,107]⟩/\f=⟨#[119,119,110,110,110]⟩)∨(k=⟨#[108,101,97,118,101]⟩/\f=⟨#[119,119,119]⟩)∨(k=⟨#[103,111,110,101]⟩/\f=⟨#[119,119]⟩)∨(k=⟨#[99,111,109,101]⟩/\f=⟨#[119,119]⟩)∨(k=⟨#[100,111,110,101]⟩/\f=⟨#[119,119]⟩)∨(k=⟨#[115,104,111,112]⟩/\f=⟨#[119,119]⟩)∨(k=⟨#[101,110,116,101,114]⟩/\f=⟨#[119,119]⟩):=by
 unfold mL at h
 rcases eK h with h|h
 ·exact .inl h
 rcases eK h with h|h
 ·exact .inr (.inl h)
 rcases eK h with h|h
 ·exact .inr (.inr (.inl h))
 rcases eK h with h|h
 ·exact .inr (.inr (.inr (.inl h)))
 rcases eK h with h|h
 ·exact .inr (.inr (.inr (.inr (.inl h))))
 rcases eK h with h|h
 ·exact .inr (.inr (.inr (.inr (.inr (.inl h)))))
 rcases eK h with h|h
 ·exact .inr (.inr (.inr (.inr (.inr (.inr (.inl h))))))
 rcases eK h with h|h
 ·exact .inr (.inr (.inr (.inr (.inr (.inr (.inr (.inl h)))))))
 rcases eK h with h|h
 ·exact .inr (.inr (.inr (.inr (.inr (.inr (.inr (.inr (.inl h))))))))
 rcases eK h with h|h
 ·exact .inr (.inr (.inr (.inr (.inr (.inr (.inr (.inr (.inr (.inl h)))))))))
 rcases eK h with h|h
 ·exact .inr (.inr (.inr (.inr (.inr (.inr (.inr (.inr (.inr (.inr (.inl h))))))))))
 rcases eK h with h|h
 ·exact .inr (.inr (.inr (.inr (.inr (.inr (.inr (.inr (.inr (.inr (.inr (.inl h)))))))))))
 rcases eK h with h|h
 ·exact .inr (.inr (.inr (.inr (.inr (.inr (.inr (.inr (.inr (.inr (.inr (.inr (h))))))))))))
 cases h
theorem dZ {a b:ByteArray} (h:a.data.toList≠b.data.toList):a≠b:=fun e=>h (by rw [e])
theorem cC8:gF ⟨#[101,110,116,101,114]⟩=some 1:=by
 unfold gF
 rw [dB _ _ (dZ (by decide)),dB _ _ (dZ (by decide)),dB _ _ (dZ (by decide)),dB _ _ (dZ (by decide)),dB _ _ (dZ (by decide)),hU]
theorem dZ0:gF ⟨#[115,104,111,112]⟩=some 4:=by
 unfold gF
 rw [dB _ _ (dZ (by decide)),dB _ _ (dZ (by decide)),dB _ _ (dZ (by decide)),dB _ _ (dZ (by decide)),hU]
theorem dX0:gF ⟨#[100,111,110,101]⟩=some 5:=by
 unfold gF
 rw [dB _ _ (dZ (by decide)),dB _ _ (dZ (by decide)),dB _ _ (dZ (by decide)),hU]
theorem dW0:gF ⟨#[99,111,109,101]⟩=some 7:=by
 unfold gF
 rw [dB _ _ (dZ (by decide)),dB _ _ (dZ (by decide)),hU]
theorem dY0:gF ⟨#[103,111,110,101]⟩=some 8:=by
 unfold gF
 rw [dB _ _ (dZ (by decide)),hU]
theorem cD8:gF ⟨#[108,101,97,118,101]⟩=some 6:=by
 unfold gF
 rw [hU]
theorem cQ0:gF ⟨#[98,111,111,107]⟩=none:=by
 unfold gF
 rw [dB _ _ (dZ (by decide)),dB _ _ (dZ (by decide)),dB _ _ (dZ (by decide)),dB _ _ (dZ (by decide)),dB _ _ (dZ (by decide)),dB _ _ (dZ (by decide))];rfl
theorem bC5:gF ⟨#[99,97,110,99,101,108]⟩=none:=by
 unfold gF
 rw [dB _ _ (dZ (by decide)),dB _ _ (dZ (by decide)),dB _ _ (dZ (by decide)),dB _ _ (dZ (by decide)),dB _ _ (dZ (by decide)),dB _ _ (dZ (by decide))];rfl
theorem bG8:gF ⟨#[115,116,97,114,116]⟩=none:=by
 unfold gF
 rw [dB _ _ (dZ (by decide)),dB _ _ (dZ (by decide)),dB _ _ (dZ (by decide)),dB _ _ (dZ (by decide)),dB _ _ (dZ (by decide)),dB _ _ (dZ (by decide))];rfl
theorem cR0:gF ⟨#[115,119,97,112]⟩=none:=by
 unfold gF
 rw [dB _ _ (dZ (by decide)),dB _ _ (dZ (by decide)),dB _ _ (dZ (by decide)),dB _ _ (dZ (by decide)),dB _ _ (dZ (by decide)),dB _ _ (dZ (by decide))];rfl
theorem bD5:gF ⟨#[101,120,116,101,110,100]⟩=none:=by
 unfold gF
 rw [dB _ _ (dZ (by decide)),dB _ _ (dZ (by decide)),dB _ _ (dZ (by decide)),dB _ _ (dZ (by decide)),dB _ _ (dZ (by decide)),dB _ _ (dZ (by decide))];rfl
theorem bF8:gF ⟨#[99,108,111,115,101]⟩=none:=by
 unfold gF
 rw [dB _ _ (dZ (by decide)),dB _ _ (dZ (by decide)),dB _ _ (dZ (by decide)),dB _ _ (dZ (by decide)),dB _ _ (dZ (by decide)),dB _ _ (dZ (by decide))];rfl
theorem cM3:gF ⟨#[112,97,121]⟩=none:=by
 unfold gF
 rw [dB _ _ (dZ (by decide)),dB _ _ (dZ (by decide)),dB _ _ (dZ (by decide)),dB _ _ (dZ (by decide)),dB _ _ (dZ (by decide)),dB _ _ (dZ (by decide))];rfl
theorem cG3 (w:World):Calls prog 169 #[] w (fun e w'=>∃g,e=.returned (.map (some g))/\bV vS dN w.heap.size g mL w'/\w.grownBy w' none):=by
 refine cV ⟨3,w,none, []⟩ func169 U ntmps169 U (gR (X:= []) cY cZ) (bS (bZ U (bR (bS (kX (enc:=vS) (ek:=dN) (fun g=>True) (fun _ hm=>trivial) U fun mp1 hne_mp1=>jE (enc:=vS) (ek:=dN) (s:=⟨#[101,110,116,101,114]⟩) (v:=⟨#[119,119]⟩) (e:=9) (X':= []) 0 kB (by kernel_rfl) U U U U fZ (jE (enc:=vS) (ek:=dN) (s:=⟨#[115,104,111,112]⟩) (v:=⟨#[119,119]⟩) (e:=9) (X':= []) 0 kB (by kernel_rfl) U U U U fZ (jE (enc:=vS) (ek:=dN) (s:=⟨#[100,111,110,101]⟩) (v:=⟨#[119,119]⟩) (e:=9) (X':= []) 0 kB (by kernel_rfl) U U U U fZ (jE (enc:=vS) (ek:=dN) (s:=⟨#[99,111,109,101]⟩) (v:=⟨#[119,119]⟩) (e:=9) (X':= []) 0 kB (by kernel_rfl) U U U U fZ (jE (enc:=vS) (ek:=dN) (s:=⟨#[103,111,110,101]⟩) (v:=⟨#[119,119]⟩) (e:=9) (X':= []) 0 kB (by kernel_rfl) U U U U fZ (jE (enc:=vS) (ek:=dN) (s:=⟨#[108,101,97,118,101]⟩) (v:=⟨#[119,119,119]⟩) (e:=9) (X':= []) 0 kB (by kernel_rfl) U U U U fZ (jE (enc:=vS) (ek:=dN) (s:=⟨#[98,111,111,107]⟩) (v:=⟨#[119,119,110,110,110]⟩) (e:=9) (X':= []) 0 kB (by kernel_rfl) U U U U fZ (jE (enc:=vS) (ek:=dN) (s:=⟨#[99,97,110,99,101,108]⟩) (v:=⟨#[119]⟩) (e:=9) (X':= []) 0 kB (by kernel_rfl) U U U U fZ (jE (enc:=vS) (ek:=dN) (s:=⟨#[115,116,97,114,116]⟩) (v:=⟨#[119,119,110,119,119,110,110]⟩) (e:=9) (X':= []) 0 kB (by kernel_rfl) U U U U fZ (jE (enc:=vS) (ek:=dN) (s:=⟨#[115,119,97,112]⟩) (v:=⟨#[119,119,110,110,119,110,110]⟩) (e:=9) (X':= []) 0 kB (by kernel_rfl) U U U U fZ (jE (enc:=vS) (ek:=dN) (s:=⟨#[101,120,116,101,110,100]⟩) (v:=⟨#[119,110]⟩) (e:=9) (X':= []) 0 kB (by kernel_rfl) U U U U fZ (jE (enc:=vS) (ek:=dN) (s:=⟨#[99,108,111,115,101]⟩) (v:=⟨#[119,119,110,110]⟩) (e:=9) (X':= []) 0 kB (by kernel_rfl) U U U U fZ (jE (enc:=vS) (ek:=dN) (s:=⟨#[112,97,121]⟩) (v:=⟨#[119,110]⟩) (e:=9) (X':= []) 0 kB (by kernel_rfl) U U U U fZ (bP U (bZ U (bR (bM ?_)))))))))))))))))))))
 exact bK U U fun wx hm=>⟨mp1,U,(hm.fact 0 U),hm.g⟩
theorem qH (w:World):Calls prog 170 #[] w (fun e w'=>∃g,e=.returned (.map (some g))/\bV vI dN w.heap.size g gF w'/\w.grownBy w' none):=by
 refine cV ⟨3,w,none, []⟩ func170 U ntmps170 U (gR (X:= []) cY cZ) (bS (bZ U (bR (bS (kX (enc:=vI) (ek:=dN) (fun g=>True) (fun _ hm=>trivial) U fun mp1 hne_mp1=>jE (enc:=vI) (ek:=dN) (s:=⟨#[101,110,116,101,114]⟩) (v:=1) (e:=3) (X':= []) 0 kB (by kernel_rfl) U U U U fZ (jE (enc:=vI) (ek:=dN) (s:=⟨#[115,104,111,112]⟩) (v:=4) (e:=3) (X':= []) 0 kB (by kernel_rfl) U U U U fZ (jE (enc:=vI) (ek:=dN) (s:=⟨#[100,111,110,101]⟩) (v:=5) (e:=3) (X':= []) 0 kB (by kernel_rfl) U U U U fZ (jE (enc:=vI) (ek:=dN) (s:=⟨#[99,111,109,101]⟩) (v:=7) (e:=3) (X':= []) 0 kB (by kernel_rfl) U U U U fZ (jE (enc:=vI) (ek:=dN) (s:=⟨#[103,111,110,101]⟩) (v:=8) (e:=3) (X':= []) 0 kB (by kernel_rfl) U U U U fZ (jE (enc:=vI) (ek:=dN) (s:=⟨#[108,101,97,118,101]⟩) (v:=6) (e:=3) (X':= []) 0 kB (by kernel_rfl) U U U U fZ (bP U (bZ U (bR (bM ?_))))))))))))))
 exact bK U U fun wx hm=>⟨mp1,U,(hm.fact 0 U),hm.g⟩
theorem dP6 (s sep:ByteArray) (w:World) (ht:qN w) (hs:s.size<=1000000) (h1:1<=sep.size):
 Calls prog 241 #[.string s,.string sep] w (fun e w'=>∃g n,e=.returned (.slice (some ⟨g,0,none⟩) n n)/\(w.heap.size<=g/\Blk w' g 9 ((bE4 s sep).flatMap fH))/\(bE4 s sep).length=n/\(1<=n/\n<=s.size+1)/\w.grownBy w' none):=by
 obtain ⟨mx,hm⟩:=ht.max
 refine (Any.strings_Split Tryz.lays146 (by kernel_rfl) s sep mx w (by omega) hm h1).mono fun e w' ⟨he,hw⟩=>⟨w.heap.size,Lib.countB s sep+1,he,⟨Nat.le_refl _,?_⟩,dA7 s sep h1,⟨by omega,?_⟩,?_⟩
 ·have e1:(bE4 s sep).flatMap fH=(bE4 s sep).map Value.string:=by
   induction bE4 s sep with
   |nil=>rfl
   |cons x r ih=>rw [List.flatMap_cons,ih];rfl
  rw [e1,hw]
  show (w.heap.push _)[w.heap.size]?=_
  rw [Array.getElem?_push_size];rfl
 ·have:=Lib.countB_le sep h1 s.size s (Nat.le_refl _);omega
 ·rw [hw];exact grow_alloc bR1 _
theorem dG2 {w:World} {g n:Nat} {l:List ByteArray} (h:Blk w g 9 (l.flatMap fH)) (hl:l.length=n) (h1:1<=n):SlT fH 1 9 w (some ⟨g,1,none⟩) (n - 1) (l.drop 1):=by
 have h2:=SlT.ofBlk (l:=l) zC h
 rw [hl] at h2
 have hd:=h2.dropS (c:=n+1) 1 h1 (by omega)
 rw [if_neg (by omega)] at hd
 simpa [Option.map,uT] using hd
theorem dZ6 (s:ByteArray) (w:World) (ht:qN w) (hs:s.size<=1000000):
 Calls prog 209 #[.string s] w (fun e w'=>∃g n,e=.returned (.tuple #[.slice (some ⟨g,0,none⟩) n n,.bool (wdB s)])/\(w.heap.size<=g/\Blk w' g 9 ((wdL s).flatMap fH))/\((wdL s).length=n/\1<=n/\n<=s.size+1)/\w.grownBy w' none):=by
 refine cV ⟨11,w,none, []⟩ func209 U ntmps209 U (gR (X:= [TxtO w.heap.size none]) (cG ht.old cY) (cH TxtO.lasts cZ)) (bS (bZ U (bZ U (bR (bS (bP U ?_))))))
 refine fO (γ:=Nat×Nat) (val:=(fun (q:Nat×Nat)=> .slice (some ⟨q.1,0,none⟩) q.2 q.2)) (φ:=(fun (q:Nat×Nat)=>(wdL s).length=q.2/\1<=q.2/\q.2<=s.size+1)) (K':=fun _=>fun _=>True) (L':=(fun (q:Nat×Nat)=>(q.1,9,(wdL s).flatMap fH):: [])) (O':=fun _=> []) (X':=fun _=> [TxtO w.heap.size none]) U fX0 U U (fun wx hm=>(dP6 s ⟨#[32]⟩ wx (hm.fact 0 U).1 hs (by decide)).mono fun _ _ ⟨g,n,he,⟨h0,hb⟩,h1,h2,hg⟩=>⟨(g,n),he,⟨h1,h2⟩,hm.gn hg h0 hb⟩) ?_
 rintro ⟨g,n⟩ hn
 dsimp only at hn ⊢
 refine bZ U (bR (bS (bP U (bP U (cL (v:= .bool ((wdL s).any (eqP ⟨#[]⟩))) U eE5 U U (fun wx hm=>(by have h:=cT2 (wdL s) (some ⟨g,0,none⟩) n n ⟨#[]⟩ wx (by have h5:=SlT.ofBlk (l:=wdL s) zC (hm.blkI 0 rfl);rw [hn.1] at h5;exact h5) (by omega);exact h)) (bB (cF U) U (bZ U (bZ U (bR (bM ?_))))))))))
 refine vR U U U fun wx hm=>?_
 exact ⟨g,n,U,⟨(hm.b _ (List.mem_cons_self ..)).1,hm.bl 0⟩,hn,hm.g⟩
theorem dE1:∀(k u:Nat),(Lib.decDigits u).length<=k+1->u < 10 ^ (k+1)
 |0,u,h=>by
  by_cases h1:u < 10
  ·simpa using h1
  ·rw [Lib.decDigits_length,Lib.nDigits_big h1] at h
   have h2:(Lib.decDigits (u / 10)).length=Lib.nDigits (u / 10):=Lib.decDigits_length _
   have h3:Lib.decDigits (u / 10)≠ []:=(dQ2 _).2
   have h4:(Lib.decDigits (u / 10)).length≠0:=fun e=>h3 (List.eq_nil_of_length_eq_zero e)
   omega
 |k+1,u,h=>by
  by_cases h1:u < 10
  ·have h9:0 < 10 ^ (k+1):=Nat.pow_pos (by decide)
   rw [Nat.pow_succ];omega
  ·rw [Lib.decDigits_length,Lib.nDigits_big h1] at h
   have h2:=dE1 k (u / 10) (by rw [Lib.decDigits_length];omega)
   rw [Nat.div_lt_iff_lt_mul (by decide)] at h2
   rw [Nat.pow_succ];exact h2
theorem eH0 {s:ByteArray} (h:bI5 s=true): -1000000000<=cK8 s/\cK8 s<=1000000000:=by
 unfold bI5 at h
 unfold cK8
 split at h
 ·rename_i v hv
  show -1000000000<=v/\v<=1000000000
  simp only [Bool.and_eq_true,decide_eq_true_eq] at h
  obtain ⟨h1,h2⟩:=h
  have h1:Lib.itoa v=s.data.toList:=by simpa using h1
  rw [<-h1] at h2
  unfold Lib.itoa at h2
  split at h2
  ·have h3:Lib.trimPrefix (45::Lib.decDigits v.natAbs) [45]=Lib.decDigits v.natAbs:=rfl
   rw [h3] at h2
   have:=dE1 8 _ h2
   omega
  ·have h4:(Lib.decDigits v.toNat).length<=9:=by
    have h5:Lib.trimPrefix (Lib.decDigits v.toNat) [45]=Lib.decDigits v.toNat:=by
     cases hd:Lib.decDigits v.toNat with
     |nil=>rfl
     |cons c r=>
      have h6:=(dQ2 v.toNat).1
      rw [hd,List.all_cons,Bool.and_eq_true] at h6
      have h7:(c==45)=false:=by
       cases hc:c==45 with
       |false=>rfl
       |true=>
        have:c=45:=by simpa using hc
        subst this
        exact absurd h6.1 (by decide)
      have h8:Lib.hasPrefix (c::r) [45]=false:=by
       show ((45:UInt8)==c&&List.isPrefixOf [] r)=false
       rw [show ((45:UInt8)==c)=(c==45) from by rw [Bool.eq_iff_iff];simp only [beq_iff_eq];exact eq_comm,h7];rfl
      unfold Lib.trimPrefix
      rw [h8];rfl
    rw [h5] at h2;exact h2
   have:=dE1 8 _ h4
   omega
 ·cases h
 ·cases h
noncomputable def itC {α:Type} (P:Prop) (a b:α):α:=@ite α P (Classical.propDecidable P) a b
theorem yK {α:Type} {P:Prop} {a b:α} (h:P):itC P a b=a:=by unfold itC;exact if_pos h
theorem pO {α:Type} {P:Prop} {a b:α} (h:¬P):itC P a b=b:=by unfold itC;exact if_neg h
structure As where
 fs:ByteArray->Option Sa
 fa:ByteArray×Int->Option Bool
 fb:ByteArray->Option Bk
 gh:ByteArray->Option Hr
 lg:List Ev
def fY (σ:Os):As:=⟨σ.fs,σ.fa,σ.fb,fun k=>(σ.fh k).map hrG,σ.lg⟩
def as0:As:=⟨mZ,mZ,mZ,fun _=>none, []⟩
noncomputable def eU0 (s:As) (x:Ev):As:={ s with fs:=fP s.fs x.veh (gU ((s.fs x.veh).getD pH) x),fa:=fP s.fa (x.veh,x.at_) true,lg:=s.lg++ [x] }
def dJ4 (s:As) (x:Ev):Prop:=(s.fa (x.veh,x.at_)).getD false=false/\gB ((s.fs x.veh).getD pH) x=true
theorem cN4 {f:ByteArray->Option Hg} {k:ByteArray} {h:Hg}:(fun j=>(fP f k h j).map hrG)=fP (fun j=>(f j).map hrG) k (hrG h):=by
 funext j
 by_cases e:j=k
 ·subst e
  rw [hU,hU];rfl
 ·rw [dB _ _ e,dB _ _ e]
theorem dM5 {κ α:Type} {f:κ->Option α} {k:κ} (h:f k=none):yL f k=f:=by
 funext j
 by_cases e:j=k
 ·subst e
  rw [bW1,h]
 ·rw [yM _ e]
section
variable (V:ByteArray->Option ByteArray) (T:ByteArray->Option Bool) (at_:Int) (s:As)
noncomputable def bN6 (x:Ev):As:=itC ((V x.veh).isSome=true/\(T x.sta).getD false=true/\(x.kd=6->(T x.to_).getD false=true/\x.to_≠x.sta)/\dJ4 s x) (eU0 s x) s
noncomputable def bS7 (k d v st:ByteArray) (n0 n1 n2:Int):As:=
 itC (hireE ⟨k,d,at_,n0, [startLeg v ⟨at_,st,n1,n2⟩]⟩=0/\(s.gh k).isSome=false/\((V v).isSome=true/\(T st).getD false=true)/\dJ4 s (gO at_ v st)) { eU0 s (gO at_ v st) with gh:=fP s.gh k ⟨k,d,at_,n0, [startLeg v ⟨at_,st,n1,n2⟩]⟩,fb:=yL s.fb k } s
noncomputable def cD5 (k:ByteArray) (h:Hr) (n0:Int):As:=itC (bR4 h n0=0) { s with gh:=fP s.gh k ⟨h.key,h.driver,h.fr,n0,h.legs⟩ } s
noncomputable def rU (k:ByteArray) (n0:Int):As:=match s.gh k with
 |none=>s
 |some h=>cD5 s k h n0
def bY0 (l:List Lg):ByteArray:=((l[l.length - 1]?).map Lg.veh).getD ⟨#[]⟩
noncomputable def cY9 (k:ByteArray) (h:Hr) (lv st:ByteArray) (n0 n1:Int):As:=itC (closeE h ⟨at_,st,n0,n1⟩=0/\(T st).getD false=true/\dJ4 s (eQ at_ lv st)) { eU0 s (eQ at_ lv st) with gh:=fP s.gh k ⟨h.key,h.driver,h.fr,h.to_,endLegs h.legs ⟨at_,st,n0,n1⟩⟩ } s
noncomputable def uZ (k st:ByteArray) (n0 n1:Int):As:=match s.gh k with
 |none=>s
 |some h=>cY9 T at_ s k h (bY0 h.legs) st n0 n1
noncomputable def eC1 (k:ByteArray) (h:Hr) (lv st v:ByteArray) (n0 n1 n2 n3:Int):As:=itC (cL7 h ⟨at_,st,n0,n1⟩ v ⟨at_,st,n2,n3⟩=0/\((T st).getD false=true/\(V v).isSome=true)/\dJ4 s (eQ at_ lv st)/\dJ4 s (gO at_ v st)) { eU0 (eU0 s (eQ at_ lv st)) (gO at_ v st) with gh:=fP s.gh k ⟨h.key,h.driver,h.fr,h.to_,gZ h.legs ⟨at_,st,n0,n1⟩ v ⟨at_,st,n2,n3⟩⟩ } s
noncomputable def xU (k st v:ByteArray) (n0 n1 n2 n3:Int):As:=match s.gh k with
 |none=>s
 |some h=>eC1 V T at_ s k h (bY0 h.legs) st v n0 n1 n2 n3
variable {V T at_ s} {k:ByteArray}
theorem cB5 {n0:Int} (h:s.gh k=none):rU s k n0=s:=by unfold rU;rw [h]
theorem cC5 {n0:Int} {g:Hr} {lv:ByteArray} (h:s.gh k=some g) (_:bY0 g.legs=lv):rU s k n0=cD5 s k g n0:=by unfold rU;rw [h]
theorem cG7 {st:ByteArray} {n0 n1:Int} (h:s.gh k=none):uZ T at_ s k st n0 n1=s:=by unfold uZ;rw [h]
theorem cH7 {st lv:ByteArray} {n0 n1:Int} {g:Hr} (h:s.gh k=some g) (hl:bY0 g.legs=lv):uZ T at_ s k st n0 n1=cY9 T at_ s k g lv st n0 n1:=by unfold uZ;rw [h,<-hl]
theorem dU1 {st v:ByteArray} {n0 n1 n2 n3:Int} (h:s.gh k=none):xU V T at_ s k st v n0 n1 n2 n3=s:=by unfold xU;rw [h]
theorem dV1 {st v lv:ByteArray} {n0 n1 n2 n3:Int} {g:Hr} (h:s.gh k=some g) (hl:bY0 g.legs=lv):xU V T at_ s k st v n0 n1 n2 n3=eC1 V T at_ s k g lv st v n0 n1 n2 n3:=by unfold xU;rw [h,<-hl]
theorem cP5 {σ:Os} (h:(σ.fh k).isSome=false):(fY σ).gh k=none:=by
 show (σ.fh k).map hrG=none
 cases hf:σ.fh k with
 |none=>rfl
 |some g=>rw [hf] at h;cases h
theorem cQ5 {σ:Os} {g:Hg} (h:σ.fh k=some g):(fY σ).gh k=some (hrG g):=by
 show (σ.fh k).map hrG=_
 rw [h];rfl
def Few {κ α:Type} (f:κ->Option α) (n:Nat):Prop:=∃KL:List κ,(∀k v,f k=some v->k∈KL)/\KL.length<=n
open Classical in
theorem bX3 {α:Type}:∀{l m:List α},l.Nodup->(∀x∈l,x∈m)->l.length<=m.length
 | [],_,_,_=>Nat.zero_le _
 |x::r,m,hn,hs=>by
  have hx:=hs x (List.mem_cons_self ..)
  have h1:=bX3 (l:=r) (m:=m.erase x) (List.nodup_cons.1 hn).2 fun y hy=>(List.mem_erase_of_ne (fun e=>(List.nodup_cons.1 hn).1 (by rw [<-e];exact hy))).2 (hs y (List.mem_cons_of_mem _ hy))
  rw [List.length_erase_of_mem hx] at h1
  have:=List.length_pos_of_mem hx
  rw [List.length_cons];omega
theorem Few.len {κ α:Type} {enc:α->Value} {ek:κ->Value} {N g n:Nat} {f:κ->Option α} {w:World} (hf:Few f n) (h:bV enc ek N g f w):∃m:{ m:Nat // m<=n },uH g m.1 w:=by
 obtain ⟨_,es,ck,hb,hs,hk,hv⟩:=h
 obtain ⟨KL,hKL,hn⟩:=hf
 have h1:(es.toList.map fun x=>x.key).Nodup:=hs.2.2
 have h2:(es.toList.map fun x=>x.key).length<=(KL.map ek).length:=bX3 h1 fun v hv2=>by
  obtain ⟨x,hx,rfl⟩:=List.mem_map.1 hv2
  obtain ⟨b,hb2⟩:=hk x hx
  obtain ⟨y,hy,_⟩:=(hv b x.val).1 ⟨x,hx,hb2,rfl⟩
  rw [hb2]
  exact List.mem_map.2 ⟨b,hKL b y hy,U⟩
 rw [List.length_map,List.length_map,Array.length_toList] at h2
 exact ⟨⟨es.size,by omega⟩,es,ck,hb,U⟩
def tAt (l:List ByteArray) (i:Nat):ByteArray:=(l[i]?).getD ⟨#[]⟩
def nAt (l:List Int) (i:Nat):Int:=(l[i]?).getD 0
end
def cW (fm:ByteArray):Nat->Nat
 |0=>0
 |i+1=>cW fm i+(if pK fm ((i:Nat):Int)=119 then 1 else 0)
theorem cS7 {k f:ByteArray} (h:mL k=some f):1<=f.size/\f.size<=7:=by
 rcases bA8 h with ⟨_,rfl⟩|⟨_,rfl⟩|⟨_,rfl⟩|⟨_,rfl⟩|⟨_,rfl⟩|⟨_,rfl⟩|⟨_,rfl⟩|⟨_,rfl⟩|⟨_,rfl⟩|⟨_,rfl⟩|⟨_,rfl⟩|⟨_,rfl⟩|⟨_,rfl⟩ <;> exact ⟨by decide,by decide⟩
theorem cM1 (sep:ByteArray):∀(k:Nat) (t:ByteArray),∀x∈Lib.splitB sep 0 k t,x.size<=t.size
 |0,t,x,hx=>by
  rw [Lib.splitB_zero] at hx
  rw [List.mem_singleton.1 hx];exact Nat.le_refl _
 |k+1,t,x,hx=>by
  unfold Lib.splitB at hx
  split at hx
  ·rw [List.mem_singleton.1 hx];exact Nat.le_refl _
  ·rcases List.mem_cons.1 hx with rfl|hx
   ·rw [ByteArray.size_extract];omega
   ·have:=cM1 sep k _ x hx
    rw [ByteArray.size_extract] at this
    omega
theorem eY8 {α:Type} {P:α->Prop} {l:List α} {x:α} (h:∀y∈l,P y) (hx:P x):∀y∈l++ [x],P y:=fun y hy=>by
 rcases List.mem_append.1 hy with hy|hy
 ·exact h y hy
 ·rw [List.mem_singleton.1 hy];exact hx
def xsW (ln:ByteArray):List ByteArray:=(wdL ln).drop 1
def tW (fm:ByteArray) (xs:List ByteArray):Nat->List ByteArray
 |0=> []
 |i+1=>if pK fm ((i:Nat):Int)=119 then tW fm xs i++ [tAt xs i] else tW fm xs i
def nW (fm:ByteArray) (xs:List ByteArray):Nat->List Int
 |0=> []
 |i+1=>if pK fm ((i:Nat):Int)=119 then nW fm xs i else nW fm xs i++ [cK8 (tAt xs i)]
def nOk (fm:ByteArray) (xs:List ByteArray):Nat->Bool
 |0=>true
 |i+1=>nOk fm xs i&&(decide (pK fm ((i:Nat):Int)=119)||bI5 (tAt xs i))
theorem eE0 {fm:ByteArray} {xs:List ByteArray} {i:Nat}:∀{j:Nat},i<=j->nOk fm xs j=true->nOk fm xs i=true
 |0,h,hj=>by rw [Nat.le_zero.1 h];exact hj
 |j+1,h,hj=>by
  by_cases e:i=j+1
  ·rw [e];exact hj
  ·unfold nOk at hj
   rw [Bool.and_eq_true] at hj
   exact eE0 (by omega) hj.1
def w0F (ln:ByteArray):ByteArray:=tAt (wdL ln) 0
noncomputable def fmF (ln:ByteArray):ByteArray:=(mL (w0F ln)).getD ⟨#[]⟩
noncomputable def qT (ln:ByteArray):Option (ByteArray×List ByteArray×List Int):=
 itC (wdB ln=true/\(mL (w0F ln)).isSome=true/\(wdL ln).length=1+(fmF ln).size/\nOk (fmF ln) (xsW ln) (fmF ln).size=true) (some (w0F ln,tW (fmF ln) (xsW ln) (fmF ln).size,nW (fmF ln) (xsW ln) (fmF ln).size)) none
theorem dE4 {l:List ByteArray} {i:Nat} {x:ByteArray} (h:l[i]?=some x):tAt l i=x:=by unfold tAt;rw [h];rfl
theorem eH8 (t:ByteArray):∀x∈wdL t,x.size<=t.size:=cM1 _ _ t
theorem cR1 (ln:ByteArray) (gf N0:Nat) (w:World) (hf:bV vS dN N0 gf mL w) (ht:qN w) (hs:ln.size<=1000):
 Calls prog 168 #[.string ln,.map (some gf)] w (fun e w'=>∃wd A n1 c1 A2 n2 c2 ok tl nl,e=.returned (.tuple #[.agg #[.string wd,.slice A n1 c1,.slice A2 n2 c2],.bool ok])/\((ok=true->(∃fm,mL wd=some fm/\n1=cW fm fm.size/\n1+n2=fm.size)/\qT ln=some (wd,tl,nl))/\(ok=false->qT ln=none))/\(SlT fH 1 9 w' A n1 tl/\SlT kN 1 3 w' A2 n2 nl)/\((∀x∈tl,x.size<=1000)/\∀x∈nl, -1000000000<=x/\x<=1000000000)/\w.grownBy w' none):=by
 refine cV ⟨81,w,none, []⟩ func168 U ntmps168 U (gR (X:= [TxtO w.heap.size none,bV vS dN N0 gf mL]) (cG ht.old (cG hf cY)) (cH TxtO.lasts (cH bV.lasts2 cZ))) (bS (dH cM9 U fun g1=>bZ U (bR (bS (bP U ?_)))))
 refine fO (γ:=Nat×Nat) (val:=(fun (q:Nat×Nat)=> .tuple #[.slice (some ⟨q.1,0,none⟩) q.2 q.2,.bool (wdB ln)])) (φ:=(fun (q:Nat×Nat)=>(wdL ln).length=q.2/\1<=q.2/\q.2<=ln.size+1)) (K':=fun _=>fun _=>True) (L':=(fun (q:Nat×Nat)=>(q.1,9,(wdL ln).flatMap fH):: [(g1,271, [.string ⟨#[]⟩,.slice none 0 0,.slice none 0 0])])) (O':=fun _=> []) (X':=fun _=> [TxtO w.heap.size none,bV vS dN N0 gf mL]) U fR0 U U (fun wx hm=>(dZ6 ln wx (hm.fact 0 U).1 (by omega)).mono fun _ _ ⟨g,n,he,⟨h0,hb⟩,h1,hg⟩=>⟨(g,n),he,h1,hm.gn hg h0 hb⟩) ?_
 rintro ⟨gw,n⟩ hn
 dsimp only at hn ⊢
 obtain ⟨hwl,vE,hn2⟩:=hn
 have hwz:∀y∈wdL ln,y.size<=1000:=fun y hy=>Nat.le_trans (eH8 ln y hy) hs
 obtain ⟨w0,hw0⟩:∃x,(wdL ln)[0]?=some x:=⟨_,fJ5 (by omega)⟩
 have hw0z:=hwz _ (fK5 hw0)
 have hw0F:w0F ln=w0:=dE4 hw0
 obtain ⟨fm,hfm⟩:∃z,z=(mL w0).getD (⟨#[]⟩:ByteArray):=⟨_,rfl⟩
 obtain ⟨isb,hisb⟩:∃z,z=(mL w0).isSome:=⟨_,rfl⟩
 have hfmF:fmF ln=fm:=by unfold fmF;rw [hw0F];exact hfm.symm
 have hfm7:fm.size<=7:=by
  cases hq:mL w0 with
  |none=>rw [hfm,hq];decide
  |some f=>rw [hfm,hq];exact (cS7 hq).2
 refine bP U (bB (cR U U) U (bB (cR U U) U (bZ U (bZ U (bR (bS (bP U (bP U (bB (bT (j:=0) jY U U (by omega)) U (bB (dL (k:=0) (v:= .string w0) fE U (fun _ hm=>(SlT.ofBlk (l:=wdL ln) zC (hm.blkI 0 U))) hw0 U U) U (bB (gW (enc:=vS) (ek:=dN) (s:=w0) (e:=9) (⟨#[]⟩:ByteArray) kB (by kernel_rfl) (by kernel_rfl) U U (fun _ hm=>(hm.fact 1 U))) U (bP U (bB (cR U U) U (bL 26 (v':= .string fm) U (congrArg Value.string hfm.symm) (bB (cR U U) U (bL 27 (v':= .bool isb) U (fH5 hisb.symm) (bZ U (bZ U (bR (bH (bS (bP U (bB (cF U) U (bP U ?_))))))))))))))))))))))))
 rcases Bool.eq_false_or_eq_true (!(wdB ln)) with hb2|hb2
 ·refine bL 30 U (fH5 hb2) ?_
  refine dY U (dY U (mQ U U (bP U (dY U (dY U (dY U (dY U (dY U (dY U (mQ U U (bR (kQ U (bS (bB (dJ (cs:= [.string ⟨#[]⟩,.slice none 0 0,.slice none 0 0]) U (by kernel_rfl)) U (jX (cs':= [.string ⟨#[]⟩,.slice none 0 0,.slice none 0 0]) 1 rY U U U U (bZ U (bR (bM (bA ?_)))))))))))))))))))
  have htn:qT ln=none:=pO fun ⟨q1,q2,q3,_⟩=>by
   rw [hw0F] at q2
   rw [hfmF,hwl] at q3
   simp_all
  refine eL 1 U rY U U U U fun wx hm=>?_
  exact ⟨⟨#[]⟩,none,0,0,none,0,0,false, [], [],U,⟨(fun h=>by cases h),fun _=>htn⟩,⟨SlT.nil_ _ _,SlT.nil_ _ _⟩,⟨(fun _ h=>by cases h),(fun _ h=>by cases h)⟩,hm.g⟩
 refine bL 30 U (fH5 hb2) (eG U (bP U (eG U (bB (cF U) U (nS U U (bP U ?_))))))
 rcases Bool.eq_false_or_eq_true (!isb) with hb3|hb3
 ·refine bL 34 U (fH5 hb3) ?_
  refine dY U (dY U (dY U (dY U (dY U (dY U (mQ U U (bR (kQ U (bS (bB (dJ (cs:= [.string ⟨#[]⟩,.slice none 0 0,.slice none 0 0]) U (by kernel_rfl)) U (jX (cs':= [.string ⟨#[]⟩,.slice none 0 0,.slice none 0 0]) 1 rY U U U U (bZ U (bR (bM (bA ?_)))))))))))))))
  have htn:qT ln=none:=pO fun ⟨q1,q2,q3,_⟩=>by
   rw [hw0F] at q2
   rw [hfmF,hwl] at q3
   simp_all
  refine eL 1 U rY U U U U fun wx hm=>?_
  exact ⟨⟨#[]⟩,none,0,0,none,0,0,false, [], [],U,⟨(fun h=>by cases h),fun _=>htn⟩,⟨SlT.nil_ _ _,SlT.nil_ _ _⟩,⟨(fun _ h=>by cases h),(fun _ h=>by cases h)⟩,hm.g⟩
 refine bL 34 U (fH5 hb3) (eG U (bP U (eG U (bB (dT jY U) U (eG U (bP U (eG U (bB (yP us9 U) U (eG U (gN U U (eG U (bB (gX U U) U (bL 40 (v':= .bool (!decide (n=1+fm.size))) U (congrArg (fun b=>Value.bool (!b)) (by rw [decide_eq_decide];omega)) (nS U U (bR ?_)))))))))))))))
 refine gI U (fun hcd=>?_) (fun hcd=>?_)
 ·refine bS ?_
  refine bB (dJ (cs:= [.string ⟨#[]⟩,.slice none 0 0,.slice none 0 0]) U (by kernel_rfl)) U (jX (cs':= [.string ⟨#[]⟩,.slice none 0 0,.slice none 0 0]) 1 rY U U U U (bZ U (bR (bM (bA ?_)))))
  have htn:qT ln=none:=pO fun ⟨q1,q2,q3,_⟩=>by
   rw [hw0F] at q2
   rw [hfmF,hwl] at q3
   simp_all
  refine eL 1 U rY U U U U fun wx hm=>?_
  exact ⟨⟨#[]⟩,none,0,0,none,0,0,false, [], [],U,⟨(fun h=>by cases h),fun _=>htn⟩,⟨SlT.nil_ _ _,SlT.nil_ _ _⟩,⟨(fun _ h=>by cases h),(fun _ h=>by cases h)⟩,hm.g⟩
 refine bN (bD ?_)
 have hisb1:isb=true:=by simp_all
 have hnf:n=1+fm.size:=by simp_all
 obtain ⟨f0,hf0⟩:∃f,mL w0=some f:=Option.isSome_iff_exists.1 (by rw [<-hisb];exact hisb1)
 have hff:fm=f0:=by rw [hfm,hf0];rfl
 have hfz:=cS7 hf0
 rw [<-hff] at hfz
 refine bS ?_
 refine rO 3 1 ?_
 refine rO 9 1 ?_
 refine bP U (bB (bT (j:=0) jY U U (by omega)) U (bB (dL (k:=0) (v:= .string w0) fE U (fun _ hm=>(SlT.ofBlk (l:=wdL ln) zC (hm.blkI 0 U))) hw0 U U) U (bB (dJ (cs:= [.string w0,.slice none 0 0,.slice none 0 0]) U (by kernel_rfl)) U (dH cM9 U fun g4=>jX (cs':= [.string w0,.slice none 0 0,.slice none 0 0]) 0 rY U U U U (bR (bH (bS (bP U (bB (dJ1 (lo:=1) jY U U U (by omega)) U (bL 48 (v':= .slice (some ⟨gw,1,none⟩) (n - 1) (n - 1)) U (by rw [if_neg (by omega)];simp [Option.map,uT]) (bB (dT jY U) U (bP U (bR (bO ?_))))))))))))))
 refine dX (γ:=Nat×Nat×Nat×Value×Value×List ByteArray×List Int×List Value×List Value) (fun gg=>(gg.1<=n - 1/\gg.2.2.2.2.2.1.length=gg.2.1/\gg.2.2.2.2.2.2.1.length=gg.2.2.1/\gg.2.2.2.2.2.2.2.1=gg.2.2.2.2.2.1.flatMap fH/\gg.2.2.2.2.2.2.2.2=gg.2.2.2.2.2.2.1.flatMap kN)/\(gg.2.1=cW fm gg.1/\gg.2.1+gg.2.2.1=gg.1)/\(gg.2.2.2.2.2.1=tW fm (xsW ln) gg.1/\gg.2.2.2.2.2.2.1=nW fm (xsW ln) gg.1/\nOk fm (xsW ln) gg.1=true)/\(∀x∈gg.2.2.2.2.2.1,x.size<=1000)/\∀x∈gg.2.2.2.2.2.2.1, -1000000000<=x/\x<=1000000000) (fun gg=> [(4,.pointer (some ⟨g1,0,none⟩)),(8,.string fm),(10,.pointer (some ⟨g4,0,none⟩)),(48,.slice (some ⟨gw,1,none⟩) (n - 1) (n - 1)),(49,.int .i64 ((n - 1:Nat):Int)),(50,.int .i64 ((gg.1:Nat):Int))]) (fun gg=>fun _=>True) (fun gg=> [(g4,271, [.string w0,gg.2.2.2.1,gg.2.2.2.2.1]),(gw,9,(wdL ln).flatMap fH),(g1,271, [.string ⟨#[]⟩,.slice none 0 0,.slice none 0 0])]) (fun gg=> [⟨gg.2.2.2.1,9,1,gg.2.1,gg.2.2.2.2.2.2.2.1⟩,⟨gg.2.2.2.2.1,3,1,gg.2.2.1,gg.2.2.2.2.2.2.2.2⟩]) (fun gg=> [TxtO w.heap.size none,bV vS dN N0 gf mL]) (fun gg=>n - gg.1) (0,0,0,.slice none 0 0,.slice none 0 0, [], [], [], []) ⟨⟨Nat.zero_le _,U,U,U,U⟩,⟨U,U⟩,⟨U,U,U⟩,(fun _ h=>by cases h),(fun _ h=>by cases h)⟩ ⟨U,U,U,U,U,U,trivial⟩ (fun _ hm=>hm.pick [0,1,2] [0,1] [0,1] U U) ?_
 rintro ⟨i,nt,nn,tv,nv,tl,nl,xt,xn⟩ cC
 replace cC:(i<=n - 1/\tl.length=nt/\nl.length=nn/\xt=tl.flatMap fH/\xn=nl.flatMap kN)/\(nt=cW fm i/\nt+nn=i)/\(tl=tW fm (xsW ln) i/\nl=nW fm (xsW ln) i/\nOk fm (xsW ln) i=true)/\(∀x∈tl,x.size<=1000)/\∀x∈nl, -1000000000<=x/\x<=1000000000:=cC
 dsimp only
 refine bS ?_
 obtain ⟨⟨hi0,htl,hnl,rfl,rfl⟩,⟨hct,hcn⟩,⟨htW,hnW,hnO⟩,htz,hnz⟩:=cC
 refine bB (dD U U) U (bR (bH ?_))
 refine cE U (fun hi=>?_) (fun hi=>?_)
 ·refine bN (bD (bH (bO (bS ?_))))
  have hil:i < fm.size:=by omega
  obtain ⟨x,hx⟩:∃x,((wdL ln).drop 1)[i]?=some x:=⟨_,fJ5 (by rw [List.length_drop];omega)⟩
  have hxz:=hwz _ (List.mem_of_mem_drop (fK5 hx))
  have hxA:tAt (xsW ln) i=x:=dE4 hx
  have hcs:cW fm (i+1)=cW fm i+(if pK fm ((i:Nat):Int)=119 then 1 else 0):=rfl
  refine bP U (bB (bT (j:=i) jY U U (by omega)) U (bB (dL (k:=0) (v:= .string x) fE U (fun _ hm=>(dG2 (hm.blkI 1 U) hwl vE)) hx U U) U (bZ U (bZ U (bR (bH (bS (bP U (bP U (bB (bK5 us9 U U (by omega) (by omega)) U (bB (eN U U) U (bR ?_))))))))))))
  refine cE U (fun h9=>?_) (fun h9=>?_)
  ·refine bS ?_
   rw [if_pos h9] at hcs
   refine dW kL U U (eI qJ 0 U U U (bP U (jF 9 [.string x] fun g5=>eF (news:= [.string x]) 0 0 dF7 U U U U U U U (by omega) (by unfold maxLen;omega) U U fun tv2 htv=>?_)))
   refine eD (R:=∃A cc,tv2= .slice A (nt+1) cc) (fun wx hm=>dS (hm.ownI 0 U)) ?_
   rintro ⟨tA,tc,rfl⟩
   refine dW kL U U (jJ 1 qJ U U U U U U (bR (dE (bF (bY (bD (bI (gN U U (bP U (bE ?_))))))))))
   exact cQ (i+1,nt+1,nn,(Value.slice tA (nt+1) tc),nv,tl++ [x],nl,tl.flatMap fH++([.string x]:List Value),nl.flatMap kN) ⟨⟨by dsimp only;omega,by simp [htl],hnl,by simp [fH],rfl⟩,⟨by dsimp only;omega,by dsimp only;omega⟩,⟨by dsimp only [tW];rw [if_pos h9,hxA,htW],by dsimp only [nW];rw [if_pos h9];exact hnW,by dsimp only [nOk];rw [decide_eq_true h9,hnO];rfl⟩,eY8 htz hxz,hnz⟩ (by dsimp only;omega) ⟨U,U,U,U,U,(cS (by dsimp only;omega)),trivial⟩ (fun _ hm=>hm.pick [1,2,3] [0,1] [0,1] U U)
  refine bN (bD (bS ?_))
  rw [if_neg h9] at hcs
  refine bP U ?_
  refine jC (γ:=Int) (val:=(fun g=> .tuple #[.int .i64 g,.bool (bI5 x)])) (φ:=(fun g=>bI5 x=true->g=cK8 x)) (Y:=(fun g=>fun _=>True)) U fS0 U U (fun wx hm=>(dF1 x wx (hm.fact 0 U).1 (by omega)).mono fun _ _ ⟨v,he,h1,hg⟩=>⟨v,he,h1,hg,trivial⟩) (fun _=>Lasts2.true_) ?_
  rintro v hv
  refine bP U (bB (cR U U) U (bB (cR U U) U (bZ U (bZ U (bR (bH (bS (bP U (bB (cF U) U (bR ?_))))))))))
  refine dC U (fun hh=>?_) (fun hh=>?_)
  ·have hnb:(bI5 x)=false:=by simpa using hh
   refine bS (bB (dJ (cs:= [.string ⟨#[]⟩,.slice none 0 0,.slice none 0 0]) U (by kernel_rfl)) U (jX (cs':= [.string ⟨#[]⟩,.slice none 0 0,.slice none 0 0]) 2 rY U U U U (bZ U (bR (bM (bA (bC (bA (bA (bC (bA ?_)))))))))))
   have htn:qT ln=none:=pO fun ⟨_,_,_,q4⟩=>by
    rw [hfmF] at q4
    have q5:=eE0 (i:=i+1) (by omega) q4
    unfold nOk at q5
    rw [hxA,decide_eq_false h9] at q5
    simp_all
   refine eL 2 U rY U U U U fun wx hm=>?_
   exact ⟨⟨#[]⟩,none,0,0,none,0,0,false, [], [],U,⟨(fun h=>by cases h),fun _=>htn⟩,⟨SlT.nil_ _ _,SlT.nil_ _ _⟩,⟨(fun _ h=>by cases h),(fun _ h=>by cases h)⟩,hm.g⟩
  have hnb:(bI5 x)=true:=by simpa using hh
  refine bN (bD (bI ?_))
  have hnb1:bI5 x=true:=by simpa using hnb
  have hvb:=eH0 hnb1
  rw [<-hv hnb1] at hvb
  refine dW nJ U U (eI mB 0 U U U (bP U (jF 3 [.int .i64 v] fun g7=>eF (news:= [.int .i64 v]) 1 0 bO2 U U U U U U U (by omega) (by unfold maxLen;omega) U U fun nv2 hnv=>?_)))
  refine eD (R:=∃A cc,nv2= .slice A (nn+1) cc) (fun wx hm=>dS (hm.ownI 1 U)) ?_
  rintro ⟨nA,nc,rfl⟩
  refine dW nJ U U (jJ 1 mB U U U U U U (bE (bG (bD (bI (gN U U (bP U (bE ?_))))))))
  exact cQ (i+1,nt,nn+1,tv,(Value.slice nA (nn+1) nc),tl,nl++ [v],tl.flatMap fH,nl.flatMap kN++([.int .i64 v]:List Value)) ⟨⟨by dsimp only;omega,htl,by simp [hnl],rfl,by simp [kN]⟩,⟨by dsimp only;omega,by dsimp only;omega⟩,⟨by dsimp only [tW];rw [if_neg h9];exact htW,by dsimp only [nW];rw [if_neg h9,hxA,hnW,hv hnb1],by dsimp only [nOk];rw [decide_eq_false h9,hnO,hxA,hnb1];rfl⟩,htz,eY8 hnz hvb⟩ (by dsimp only;omega) ⟨U,U,U,U,U,(cS (by dsimp only;omega)),trivial⟩ (fun _ hm=>hm.pick [1,2,3] [0,1] [1,2] U U)
 refine dE (bF (bF (bY (bD (bS ?_)))))
 have hie:i=fm.size:=by omega
 refine eD (R:=∃A cc,tv= .slice A nt cc) (fun wx hm=>dS (hm.ownI 0 U)) ?_
 rintro ⟨tA,tc,rfl⟩
 refine eD (R:=∃A cc,nv= .slice A nn cc) (fun wx hm=>dS (hm.ownI 1 U)) ?_
 rintro ⟨nA,nc,rfl⟩
 refine bB (cX rY U (fun _ hm=>hm.blkI 0 U) U U) U (jX (cs':= [.string w0,.slice tA nt tc,.slice nA nn nc]) 2 rY U U U U (bZ U (bR (bM ?_))))
 have hie:i=fm.size:=by omega
 have htS:qT ln=some (w0,tl,nl):=by
  unfold qT
  rw [hw0F,hfmF]
  refine (yK ⟨by simp_all,by rw [<-hisb];exact hisb1,by rw [hwl];exact hnf,by rw [<-hie];exact hnO⟩).trans ?_
  rw [<-hie,htW,hnW]
 refine eL 2 U rY U U U U fun wx hm=>?_
 exact ⟨w0,tA,nt,tc,nA,nn,nc,true,tl,nl,U,⟨fun _=>⟨⟨fm,by rw [hff];exact hf0,by rw [hct,hie],by omega⟩,htS⟩,fun h=>by cases h⟩,⟨SlT.ofOwn zC (hm.ownI 0 U) htl,SlT.ofOwn (fun _=>U) (hm.ownI 1 U) hnl⟩,⟨htz,hnz⟩,hm.g⟩
end Go.Proofs.YtmifpfcmldflkaaGreatDoor
