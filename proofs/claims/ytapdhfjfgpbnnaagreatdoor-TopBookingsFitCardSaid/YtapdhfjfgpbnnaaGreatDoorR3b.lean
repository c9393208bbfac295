/- Several texts as one: Mk Ty Hd He Hf Hg Hh Xho Pv Rt Fm Dka Dkk Shx Nm Txt Bt Ifc Sv Rs Rn Sz Wn Xb Xc Aw Dkb Dkn Dkz Dkt -/
import Derived.Test.YtapdhfjfgpbnnaaGreatDoorR3a
import Derived.Laws.StructEq
import Derived.Test.YtapdhfjfgpbnnaaGreatDoorProg
import Derived.Deep.RegionHeld3
import Derived.Laws.ResultCell
import Derived.Ground.NamesProg
import Derived.Shelf.Strings.Cut
import Derived.Shelf.Strings.Split
import Derived.Shelf.Strings.Prefix
import Derived.Shelf.Strings.OnBuilder
import Derived.Shelf.Strings.Builder1
import Derived.Shelf.Strconv.Itoa3
import Derived.Shelf.Strconv.AtoiAll
import Derived.Shelf.Strconv.ErrVarAll
import Derived.Lib.ItoaNum
import Derived.Lib.AtoiAll
import Derived.Lib.Strings
import Derived.Laws.BitsLemmas
import Derived.Laws.Shifts
import Derived.Laws.Build
import Derived.Laws.Slices
import Derived.Laws.Strings
import Derived.Laws.Runes
import Derived.Laws.Concat
import Derived.Laws.AppendOwnNone
set_option maxRecDepth 100000
set_option maxHeartbeats 4000000
namespace Go.Proofs.YtapdhfjfgpbnnaaGreatDoor
open Tryz
open Go.RowKit Go.MapKept
open Go.ChangeMaps (setBlock)
structure bY8 (P:Program) (k:TypeId) {κ:Type} (ek:κ->Value):Prop where
 inj:∀{a b:κ},ek a=ek b->a=b
 chk:∀(em:Bool) (a:κ) (w:World),(Instr.checkKey em 10000 k (ek a)).run P w= .ok () w
 find:∀(a:κ) (es:List MapEntry) (w:World),(∀x∈es,∃b,x.key=ek b)->((Instr.findKey k (ek a) es).run P w= .ok none w/\∀x∈es,x.key≠ek a)∨∃j e,(Instr.findKey k (ek a) es).run P w= .ok (some (j,e.val)) w/\es[j]?=some e/\e.key=ek a
 stay:∀(a:κ) (w:World),(Instr.keyThatStays (ek a) (ek a)).run P w= .ok (ek a) w
theorem bJ0{P:Program}{k:TypeId}{κ:Type}{ek:κ->Value}{eqb:κ->κ->Bool}(heq:∀a b w,(Op.equal k (ek a) (ek b)).run P w= .ok (eqb a b) w)(hb:∀a b,eqb a b=true↔a=b)(inj:∀{a b:κ},ek a=ek b->a=b)(a:κ)(w:World):∀(es:List MapEntry) (i:Nat),(∀x∈es,∃b,x.key=ek b)->
 ((Instr.findAsking k (ek a) es i).run P w= .ok none w/\∀x∈es,x.key≠ek a)∨∃j e,(Instr.findAsking k (ek a) es i).run P w= .ok (some (i+j,e.val)) w/\es[j]?=some e/\e.key=ek a
 | [],i,_=> .inl ⟨by simp [Instr.findAsking],by simp⟩
 |e::es,i,h=>by
  obtain ⟨b,hbk⟩:=h e (.head _)
  have hq:=heq a b w
  cases hr:eqb a b with
  |true=>
   refine .inr ⟨0,e,?_,D,by rw [hbk,(hb a b).1 hr]⟩
   simp [Instr.findAsking,hbk,hq,hr,Result.andThen]
  |false=>
   have hne:e.key≠ek a:=fun q=>by
    have h3:=inj (hbk.symm.trans q)
    rw [(hb a b).2 h3.symm] at hr;cases hr
   rcases bJ0 heq hb inj a w es (i+1) (fun x hx=>h x (.tail _ hx)) with ⟨h1,h2⟩|⟨j,e',h1,h2,h3⟩
   ·refine .inl ⟨by simp [Instr.findAsking,hbk,hq,hr,h1,Result.andThen],fun x hx=>?_⟩
    rcases List.mem_cons.1 hx with rfl|hx
    ·exact hne
    ·exact h2 x hx
   ·exact .inr ⟨j+1,e',by simp [Instr.findAsking,hbk,hq,hr,h1,Result.andThen];omega,by simpa using h2,h3⟩
theorem cS0{P:Program}{k:TypeId}{fs:Array Field}(hu:P.underlying k=some (.struct fs))(v:Value)(es:List MapEntry)(w:World):(Instr.findKey k v es).run P w=(Instr.findAsking k v es 0).run P w:=by
 cases es with
 |nil=>simp [Instr.findKey,run_underlying hu,Instr.findNow,Instr.findAsking]
 |cons e es=>simp [Instr.findKey,run_underlying hu,Instr.findNow,Instr.sameNow]
theorem bL8{P:Program}{k:TypeId}{fs:Array Field}{κ:Type}{ek:κ->Value}{eqb:κ->κ->Bool}(hu:P.underlying k=some (.struct fs))(heq:∀a b w,(Op.equal k (ek a) (ek b)).run P w= .ok (eqb a b) w)(hb:∀a b,eqb a b=true↔a=b)(inj:∀{a b:κ},ek a=ek b->a=b)
 (chk:∀(em:Bool) (a:κ) (w:World),(Instr.checkKey em 10000 k (ek a)).run P w= .ok () w) (hs:∀a,Instr.sameBits 10000 (ek a) (ek a)=true):bY8 P k ek:=
 ⟨inj,chk,fun a es w h=>by
  rw [cS0 hu]
  rcases bJ0 heq hb inj a w es 0 h with h1|⟨j,e,h1,h2,h3⟩
  ·exact .inl h1
  ·exact .inr ⟨j,e,by simpa using h1,h2,h3⟩,fun a w=>by simp [Instr.keyThatStays,hs a]⟩
theorem eB2{P:Program}{k:TypeId}(hk:dV0 P k=true):bY8 P k (fun s:ByteArray=>Value.string s):=
 ⟨fun h=>by injection h,fun em a w=>dY6 hk em a w,fun a es w h=>by
  have hk2:∀x∈es,IsKey .string x.key:=fun x hx=>by
   obtain ⟨b,hb⟩:=h x hx
   rw [hb];trivial
  rcases findNow_spec (show IsKey .string (.string a) from trivial) es 0 hk2 with ⟨h1,h2⟩|⟨j,e,h1,h2,h3⟩
  ·exact .inl ⟨cF9 hk h1 w,h2⟩
  ·exact .inr ⟨j,e,by rw [cF9 hk h1 w,Nat.zero_add],h2,h3⟩,fun a w=>run_keyThatStays (show IsKey .string (.string a) from trivial)⟩
section
variable {κ α:Type}
open Classical in
noncomputable def gZ(f:κ->Option α)(k:κ)(x:α):κ->Option α:=fun j=>if j=k then some x else f j
open Classical in
noncomputable def zO(f:κ->Option α)(k:κ):κ->Option α:=fun j=>if j=k then none else f j
def pD:κ->Option α:=fun _=>none
theorem mI(f:κ->Option α)(k:κ)(x:α):gZ f k x k=some x:=by unfold gZ;rw [if_pos rfl]
theorem dN(f:κ->Option α){k j:κ}(x:α)(h:j≠k):gZ f k x j=f j:=by unfold gZ;rw [if_neg h]
theorem bK2(f:κ->Option α)(k:κ):zO f k k=none:=by unfold zO;rw [if_pos rfl]
theorem zP(f:κ->Option α){k j:κ}(h:j≠k):zO f k j=f j:=by unfold zO;rw [if_neg h]
def jY(enc:α->Value)(ek:κ->Value)(f:κ->Option α)(es:Array MapEntry)(ck:Nat):Prop:=
 Stamped es ck/\(∀x∈es.toList,∃b,x.key=ek b)/\∀k v,(∃e∈es.toList,e.key=ek k/\e.val=v)↔∃x,f k=some x/\v=enc x
def cB(enc:α->Value)(ek:κ->Value)(N g:Nat)(f:κ->Option α)(w:World):Prop:=
 N<=g/\∃es ck,w.heap[g]?=some (.map es ck)/\jY enc ek f es ck
theorem cB.lt{enc:α->Value}{ek:κ->Value}{N g:Nat}{f:κ->Option α}{w:World}(h:cB enc ek N g f w):g < w.heap.size:=by
 obtain ⟨_,es,ck,hb,_⟩:=h
 exact (Array.getElem?_eq_some_iff.1 hb).1
theorem cB.kept{enc:α->Value}{ek:κ->Value}{N g:Nat}{f:κ->Option α}{w w':World}{row:Option Nat}(h:cB enc ek N g f w)(hg:w.grownBy w' row)(hne:some g≠row):cB enc ek N g f w':=by
 have hlt:=h.lt
 obtain ⟨h0,es,ck,hb,he⟩:=h
 exact ⟨h0,es,ck,(hg.block g hlt hne).trans hb,he⟩
theorem cB.lower{enc:α->Value}{ek:κ->Value}{N M' g:Nat}{f:κ->Option α}{w:World}(h:cB enc ek N g f w)(hM:M'<=N):cB enc ek M' g f w:=⟨Nat.le_trans hM h.1,h.2⟩
theorem cB.lasts2{enc:α->Value}{ek:κ->Value}{N M':Nat}{row:Option Nat}{Tt:List TypeId}{g:Nat}{f:κ->Option α}:Lasts2 N row Tt (cB enc ek M' g f):=
 ⟨fun w w' h hx=>hx.kept h (by simp),
  fun w w' r T c h1 _ _ h3 hx=>hx.kept h3 (fun e=>by
   have e2:g=r:=by injection e
   subst e2
   obtain ⟨_,es,ck,hb,_⟩:=hx
   rw [h1] at hb;cases hb)⟩
theorem cB.far{enc:α->Value}{ek:κ->Value}{N M' g g1:Nat}{f:κ->Option α}(hne:g1≠g):∀w w':World,N<=g->w.grownBy w' (some g)->cB enc ek M' g1 f w->cB enc ek M' g1 f w':=
 fun _ _ _ hg h=>h.kept hg (fun e=>hne (by injection e))
end
section
variable {κ α:Type} {enc:α->Value} {ek:κ->Value} {f:κ->Option α} {es:Array MapEntry} {ck:Nat} {P:Program} {kt:TypeId}
theorem jY.nil:jY enc ek (pD:κ->Option α) #[] 0:=⟨stamped_empty 0,by simp,fun k v=>by simp [pD]⟩
theorem jY.find(h:jY enc ek f es ck)(hK:bY8 P kt ek)(k:κ)(w:World):((Instr.findKey kt (ek k) es.toList).run P w= .ok none w/\f k=none/\∀x∈es.toList,x.key≠ek k)∨∃j e x,(Instr.findKey kt (ek k) es.toList).run P w= .ok (some (j,e.val)) w/\es[j]?=some e/\e.key=ek k/\f k=some x/\e.val=enc x:=by
 rcases hK.find k es.toList w h.2.1 with ⟨h1,h2⟩|⟨j,e,h1,h2,h3⟩
 ·left
  refine ⟨h1,?_,h2⟩
  cases hf:f k with
  |none=>rfl
  |some x=>
   obtain ⟨e,he,hek,_⟩:=(h.2.2 k (enc x)).2 ⟨x,hf,rfl⟩
   exact absurd hek (h2 e he)
 ·right
  obtain ⟨x,hx,hv⟩:=(h.2.2 k e.val).1 ⟨e,fZ9 h2,h3,rfl⟩
  exact ⟨j,e,x,h1,by simpa using h2,h3,hx,hv⟩
theorem jY.push(h:jY enc ek f es ck)(hK:∀{a b:κ},ek a=ek b->a=b){k:κ}(x:α)(hn:∀y∈es.toList,y.key≠ek k):jY enc ek (gZ f k x) (es.push ⟨ek k,enc x,ck⟩) (ck+1):=by
 refine ⟨stamped_push h.1 hn,fun y hy=>?_,fun j v=>?_⟩
 ·simp only [Array.toList_push,List.mem_append,List.mem_singleton] at hy
  rcases hy with hy|rfl
  ·exact h.2.1 y hy
  ·exact ⟨k,D⟩
 ·simp only [Array.toList_push,List.mem_append,List.mem_singleton]
  by_cases hj:j=k
  ·subst hj
   rw [mI]
   constructor
   ·rintro ⟨e,he|rfl,h1,h2⟩
    ·exact absurd h1 (hn e he)
    ·exact ⟨x,D,h2.symm⟩
   ·rintro ⟨y,hy,rfl⟩
    cases hy
    exact ⟨_,.inr D,D,D⟩
  ·rw [dN _ _ hj,<-h.2.2 j v]
   constructor
   ·rintro ⟨e,he|rfl,h1,h2⟩
    ·exact ⟨e,he,h1,h2⟩
    ·exact absurd (hK h1).symm hj
   ·rintro ⟨e,he,h1,h2⟩
    exact ⟨e,.inl he,h1,h2⟩
theorem jY.modify(h:jY enc ek f es ck)(hK:∀{a b:κ},ek a=ek b->a=b){k:κ}(x:α){j:Nat}{e:MapEntry}(he:es[j]?=some e)(hk:e.key=ek k):jY enc ek (gZ f k x) (es.modify j fun e=>{ e with key:=ek k,val:=enc x }) ck:=by
 have hkey:∀e',es[j]?=some e'->({ e' with key:=ek k,val:=enc x }:MapEntry).key=e'.key:=fun e' he'=>by rw [he] at he';cases he';exact hk.symm
 have hat:∀q,(es.modify j fun e=>{ e with key:=ek k,val:=enc x })[q]?=if j=q then (es[q]?).map (fun e=>{ e with key:=ek k,val:=enc x }) else es[q]?:=fun q=>by rw [Array.getElem?_modify]
 have vE:∀y,y∈(es.modify j fun e=>{ e with key:=ek k,val:=enc x }).toList↔∃q,(es.modify j fun e=>{ e with key:=ek k,val:=enc x })[q]?=some y:=fun y=>
  ⟨fun hy=>dE3 hy,fun ⟨q,hq⟩=>by
   have:(es.modify j fun e=>{ e with key:=ek k,val:=enc x }).toList[q]?=some y:=by rw [Array.getElem?_toList];exact hq
   exact fZ9 this⟩
 refine ⟨stamped_modify h.1 _ _ (fun _ _=>D) (fun e' _ he'=>hkey e' he'),fun y hy=>?_,fun i v=>?_⟩
 ·obtain ⟨q,hq⟩:=(vE y).1 hy
  rw [hat] at hq
  split at hq
  ·rename_i hjq
   subst hjq
   rw [he] at hq
   cases hq
   exact ⟨k,D⟩
  ·exact h.2.1 y (fZ9 (i:=q) (by simpa using hq))
 by_cases hi:i=k
 ·subst hi
  rw [mI]
  constructor
  ·rintro ⟨y,hy,h1,h2⟩
   obtain ⟨q,hq⟩:=(vE y).1 hy
   rw [hat] at hq
   split at hq
   ·rename_i hjq
    subst hjq
    rw [he] at hq
    cases hq
    exact ⟨x,D,h2.symm⟩
   ·rename_i hjq
    exact absurd (dA0 h.1.2.2 he hq (hk.trans h1.symm)) hjq
  ·rintro ⟨y,hy,rfl⟩
   cases hy
   exact ⟨{ e with key:=ek i,val:=enc x },(vE _).2 ⟨j,by rw [hat,if_pos rfl,he];rfl⟩,D,D⟩
 ·rw [dN _ _ hi,<-h.2.2 i v]
  constructor
  ·rintro ⟨y,hy,h1,h2⟩
   obtain ⟨q,hq⟩:=(vE y).1 hy
   rw [hat] at hq
   split at hq
   ·rename_i hjq
    subst hjq
    rw [he] at hq
    cases hq
    exact absurd (hK h1).symm hi
   ·exact ⟨y,fZ9 (i:=q) (by simpa using hq),h1,h2⟩
  ·rintro ⟨y,hy,h1,h2⟩
   obtain ⟨q,hq⟩:=dE3 hy
   refine ⟨y,(vE y).2 ⟨q,?_⟩,h1,h2⟩
   rw [hat,if_neg (fun e2=>?_),hq]
   subst e2
   rw [he] at hq
   cases hq
   rw [hk] at h1
   exact hi (hK h1).symm
theorem jY.erase(h:jY enc ek f es ck)(hK:∀{a b:κ},ek a=ek b->a=b){k:κ}{j:Nat}{e:MapEntry}(he:es[j]?=some e)(hk:e.key=ek k):jY enc ek (zO f k) (es.eraseIdxIfInBounds j) ck:=by
 have hjlt:j < es.size:=(Array.getElem?_eq_some_iff.1 he).1
 have hl:(es.eraseIdxIfInBounds j).toList=es.toList.eraseIdx j:=by
  unfold Array.eraseIdxIfInBounds
  rw [dif_pos hjlt,Array.toList_eraseIdx]
 have vE:∀y,y∈(es.eraseIdxIfInBounds j).toList↔∃q,q≠j/\es[q]?=some y:=fun y=>by
  rw [hl,List.mem_eraseIdx_iff_getElem?]
  simp
 have hsub:∀x∈(es.eraseIdxIfInBounds j).toList,x∈es.toList:=fun x hx=>by
  rw [hl] at hx
  exact (List.eraseIdx_sublist _ _).subset hx
 refine ⟨stamped_erase h.1 _,fun x hx=>h.2.1 x (hsub x hx),fun i v=>?_⟩
 by_cases hi:i=k
 ·subst hi
  rw [bK2]
  constructor
  ·rintro ⟨y,hy,h1,h2⟩
   obtain ⟨q,hq,hy2⟩:=(vE y).1 hy
   exact absurd (dA0 h.1.2.2 hy2 he (h1.trans hk.symm)) hq
  ·rintro ⟨y,hy,_⟩
   cases hy
 ·rw [zP _ hi,<-h.2.2 i v]
  constructor
  ·rintro ⟨y,hy,h1,h2⟩
   exact ⟨y,hsub y hy,h1,h2⟩
  ·rintro ⟨y,hy,h1,h2⟩
   obtain ⟨q,hq⟩:=dE3 hy
   refine ⟨y,(vE y).2 ⟨q,fun e2=>?_,hq⟩,h1,h2⟩
   subst e2
   rw [he] at hq
   cases hq
   rw [hk] at h1
   exact hi (hK h1).symm
theorem jY.same(h:jY enc ek f es ck){k:κ}(hn:f k=none):jY enc ek (zO f k) es ck:=by
 have e:zO f k=f:=by
  funext j
  by_cases hj:j=k
  ·subst hj;rw [bK2,hn]
  ·rw [zP _ hj]
 rw [e];exact h
end
def bZ9(N g:Nat)(A:World->Prop):Prop:=∀w w':World,N<=g->(∃es ck,w.heap[g]?=some (.map es ck))->w.grownBy w' (some g)->A w->A w'
def bN3(A:World->Prop):Prop:=∀N g,bZ9 N g A
theorem SlT.mfar{α:Type}{enc:α->List Value}{k:Nat}{T:TypeId}{A:Option Addr}{n:Nat}{l:List α}:bN3 (fun w=>SlT enc k T w A n l):=fun N g w w' _ ⟨es,ck,hb⟩ hg h=>by
 refine ⟨h.len,fun hn=>?_⟩
 obtain ⟨b,off,cells,fz,e,hh,hr⟩:=h.at_ hn
 exact ⟨b,off,cells,fz,e,(hg.block b (Array.getElem?_eq_some_iff.1 hh).1 (fun e2=>by
  have e3:b=g:=by injection e2
  subst e3
  rw [hb] at hh;cases hh)).trans hh,hr⟩
theorem bT.mfar{α:Type}{enc:α->List Value}{k N0:Nat}{T:TypeId}{row:Option Nat}{A:Option Addr}{n:Nat}{l:List α}:bN3 (bT enc k T N0 row A n l):=fun N g w w' h1 h2 h3 ⟨h4,h5⟩=>⟨SlT.mfar N g w w' h1 h2 h3 h4,h5⟩
theorem bN3.far{A:World->Prop}(h:bN3 A){N g:Nat}:bZ9 N g A:=h N g
theorem cB.farK{κ α:Type}{enc:α->Value}{ek:κ->Value}{N M' g g1:Nat}{f:κ->Option α}(hne:g1≠g):bZ9 N g (cB enc ek M' g1 f):=fun w w' h1 _ h3 h4=>cB.far hne w w' h1 h3 h4
theorem gK{N g:Nat}{X:List (World->Prop)}:∀A∈([]:List (World->Prop)),bZ9 N g A/\A∈X:=fun _ h=>by cases h
theorem cX{N g:Nat}{X X':List (World->Prop)}{A:World->Prop}{i:Nat}(h:bZ9 N g A)(hi:X[i]?=some A)(ht:∀B∈X',bZ9 N g B/\B∈X):∀B∈A::X',bZ9 N g B/\B∈X:=fun B hB=>by
 rcases List.mem_cons.1 hB with rfl|hB
 ·exact ⟨h,fZ9 hi⟩
 ·exact ht B hB
theorem cB4{N g:Nat}{X X1:List (World->Prop)}(n:Nat)(hd:X.drop n=X1)(h:∀A∈X1,bN3 A):∀B∈X1,bZ9 N g B/\B∈X:=fun B hB=>⟨h B hB N g,List.mem_of_mem_drop (by rw [hd];exact hB)⟩
def uR(g n:Nat)(w:World):Prop:=∃es ck,w.heap[g]?=some (.map es ck)/\es.size=n
theorem uR.lasts2{N:Nat}{row:Option Nat}{Tt:List TypeId}{g n:Nat}:Lasts2 N row Tt (uR g n):=
 ⟨fun w w' h ⟨es,ck,hx,hn⟩=>⟨es,ck,(h.block g (Array.getElem?_eq_some_iff.1 hx).1 (by simp)).trans hx,hn⟩,
  fun w w' r T c h1 _ _ h3 ⟨es,ck,hx,hn⟩=>⟨es,ck,(h3.block g (Array.getElem?_eq_some_iff.1 hx).1 (fun e=>by
   have e2:g=r:=by injection e
   subst e2
   rw [h1] at hx;cases hx)).trans hx,hn⟩⟩
section
variable {P:Program} {c:Cx} {fL:Array Oper} {Q:Exit->Act->World->Prop} {rest:List Oper} {S:List (Nat×Value)} {K:World->Prop} {L:List (Nat×TypeId×List Value)} {O:List Own} {X X':List (World->Prop)} {Z:World->Prop} {nn:Nat}
variable {d:Nat} {ty:TypeId} {pos:String} {aft:Array Edge} {κ α:Type} {enc:α->Value} {ek:κ->Value} {f:κ->Option α}
theorem mF{t k e:TypeId}{x y:Operand}{N g:Nat}{s:κ}(z:α)(hK:bY8 P k ek)(ht:bS5 P t=some (k,e))(hzz:(P.info? e).bind (·.zero)=some (enc z))(hx:rd S x=some (.map (some g)))(hy:rd S y=some (ek s))(hm:∀w,Z w->cB enc ek N g f w):
 OV P nn S Z ⟨some d,.lookup t x y false,ty,pos,aft,none⟩ (enc ((f s).getD z)):=fun a w ha hz=>by
 obtain ⟨_,es,ck,hb,he⟩:=hm w hz
 have hzero:(zeroValue e).run P w= .ok (enc z) w:=by
  cases hi:P.info? e with
  |none=>simp [hi] at hzz
  |some inf=>simp [zeroValue,typeInfo,hi,(by simpa [hi] using hzz:inf.zero=some (enc z))]
 rcases he.find hK s w with ⟨hf,hn,_⟩|⟨j,en,xv,hf,_,_,hn,hv⟩
 ·simp [execOp,ha.eval hx,ha.eval hy,Instr.lookup,run_underlying (rO ht),MapKept.run_getObj_map hb,hK.chk,hf,hzero,hn,Result.andThen]
 ·simp [execOp,ha.eval hx,ha.eval hy,Instr.lookup,run_underlying (rO ht),MapKept.run_getObj_map hb,hK.chk,hf,hn,hv,Result.andThen]
theorem hU{t k e:TypeId}{x y:Operand}{N g:Nat}{s:κ}(z:α)(hK:bY8 P k ek)(ht:bS5 P t=some (k,e))(hzz:(P.info? e).bind (·.zero)=some (enc z))(hx:rd S x=some (.map (some g)))(hy:rd S y=some (ek s))(hm:∀w,Z w->cB enc ek N g f w):
 OV P nn S Z ⟨some d,.lookup t x y true,ty,pos,aft,none⟩ (.tuple #[enc ((f s).getD z),.bool (f s).isSome]):=fun a w ha hz=>by
 obtain ⟨_,es,ck,hb,he⟩:=hm w hz
 have hzero:(zeroValue e).run P w= .ok (enc z) w:=by
  cases hi:P.info? e with
  |none=>simp [hi] at hzz
  |some inf=>simp [zeroValue,typeInfo,hi,(by simpa [hi] using hzz:inf.zero=some (enc z))]
 rcases he.find hK s w with ⟨hf,hn,_⟩|⟨j,en,xv,hf,_,_,hn,hv⟩
 ·simp [execOp,ha.eval hx,ha.eval hy,Instr.lookup,run_underlying (rO ht),MapKept.run_getObj_map hb,hK.chk,hf,hzero,hn,Result.andThen]
 ·simp [execOp,ha.eval hx,ha.eval hy,Instr.lookup,run_underlying (rO ht),MapKept.run_getObj_map hb,hK.chk,hf,hn,hv,Result.andThen]
theorem mH{t:TypeId}(R:Nat->Prop)(hR:∀w,gB c K L O X w->R w.heap.size)(hd:Nat.ble (d+1) c.n=true)(h:∀g,R g->WL P c fL Q rest ((d,.map (some g))::S) K L O (cB enc ek c.w0.heap.size g pD::X)):WL P c fL Q (⟨some d,.makeMap t none,ty,pos,aft,none⟩::rest) S K L O X:=by
 intro a w ha hm
 refine wpList_plain D fun K' hK=>?_
 unfold Oper.wp
 have:(execOp a.eval ⟨some d,.makeMap t none,ty,pos,aft,none⟩).run P w= .ok (.value (.map (some w.heap.size))) (w.alloc (.map #[] 0)):=by
  simp [execOp,Instr.makeMap]
 rw [this]
 exact hK _ _ (h _ (hR w hm) _ _ (ha.put hd _) ((hm.grow (grow_alloc (World.grownBy.refl w none) _)).also cB.lasts2 ⟨hm.g.size,_,_,(MapKept.heap_alloc w _).1,jY.nil⟩))
theorem kZ{t k e:TypeId}{x y z:Operand}{g:Nat}{s:κ}{v:α}(i:Nat)(hK:bY8 P k ek)(ht:bS5 P t=some (k,e))(hx:rd S x=some (.map (some g)))(hy:rd S y=some (ek s))(hz:rd S z=some (enc v))(hi:X[i]?=some (cB enc ek c.w0.heap.size g f))
 (hX:∀A∈X',bZ9 c.w0.heap.size g A/\A∈X)
 (h:WL P c fL Q rest S K L O (cB enc ek c.w0.heap.size g (gZ f s v)::X')):WL P c fL Q (⟨none,.mapUpdate t x y z,ty,pos,aft,none⟩::rest) S K L O X:=by
 intro a w ha hm
 refine wpList_plain D fun K' hK'=>?_
 obtain ⟨hg,es,ck,hb,he⟩:=hm.fact i hi
 have bF8:∀es' ck',jY enc ek (gZ f s v) es' ck'->gB c K L O (cB enc ek c.w0.heap.size g (gZ f s v)::X') (setBlock w g (.map es' ck')):=fun es' ck' he'=>hm.mapped hg hb fun A hA=>by
  rcases List.mem_cons.1 hA with rfl|hA
  ·exact ⟨⟨hg,_,_,ChangeMaps.heap_setBlock_same hb _,he'⟩,cB.lasts2⟩
  ·exact ⟨(hX A hA).1 _ _ hg ⟨_,_,hb⟩ (bJ5 hb) (hm.x A (hX A hA).2),hm.l A (hX A hA).2⟩
 unfold Oper.wp
 rcases he.find hK s w with ⟨hf,_,hn⟩|⟨j,en,xv,hf,hj,hkk,_,_⟩
 ·have:(execOp a.eval ⟨none,.mapUpdate t x y z,ty,pos,aft,none⟩).run P w= .ok .skip (setBlock w g (.map (es.push ⟨ek s,enc v,ck⟩) (ck+1))):=by
   simp [execOp,ha.eval hx,ha.eval hy,ha.eval hz,Instr.mapUpdate,run_underlying (rO ht),MapKept.run_getObj_map hb,MapKept.run_setObj_map _ hb,hK.chk,hf,Result.andThen,setBlock]
  rw [this]
  exact hK' _ _ (h _ _ ha (bF8 _ _ (he.push hK.inj v hn)))
 ·have:(execOp a.eval ⟨none,.mapUpdate t x y z,ty,pos,aft,none⟩).run P w= .ok .skip (setBlock w g (.map (es.modify j fun e=>{ e with key:=ek s,val:=enc v }) ck)):=by
   simp [execOp,ha.eval hx,ha.eval hy,ha.eval hz,Instr.mapUpdate,run_underlying (rO ht),MapKept.run_getObj_map hb,MapKept.run_setObj_map _ hb,hK.chk,hf,hj,hkk,hK.stay,Result.andThen,setBlock]
  rw [this]
  exact hK' _ _ (h _ _ ha (bF8 _ _ (he.modify hK.inj v hj hkk)))
theorem jH{t k e:TypeId}{x y z:Operand}{g:Nat}{s:κ}{v:α}(i:Nat)(hK:bY8 P k ek)(ht:bS5 P t=some (k,e))(hx:rd S x=some (.map (some g)))(hy:rd S y=some (ek s))(hz:rd S z=some (enc v))(hi:X[i]?=some (cB enc ek c.w0.heap.size g f))
 (hX:∀A∈X',bZ9 c.w0.heap.size g A/\A∈X)
 (h:WL P c fL Q rest S K L O (cB enc ek c.w0.heap.size g (gZ f s v)::X')):WL P c fL Q (⟨none,.insert t x y z,ty,pos,aft,none⟩::rest) S K L O X:=by
 intro a w ha hm
 refine wpList_plain D fun K' hK'=>?_
 obtain ⟨hg,es,ck,hb,he⟩:=hm.fact i hi
 have bF8:∀es' ck',jY enc ek (gZ f s v) es' ck'->gB c K L O (cB enc ek c.w0.heap.size g (gZ f s v)::X') (setBlock w g (.map es' ck')):=fun es' ck' he'=>hm.mapped hg hb fun A hA=>by
  rcases List.mem_cons.1 hA with rfl|hA
  ·exact ⟨⟨hg,_,_,ChangeMaps.heap_setBlock_same hb _,he'⟩,cB.lasts2⟩
  ·exact ⟨(hX A hA).1 _ _ hg ⟨_,_,hb⟩ (bJ5 hb) (hm.x A (hX A hA).2),hm.l A (hX A hA).2⟩
 unfold Oper.wp
 rcases he.find hK s w with ⟨hf,_,hn⟩|⟨j,en,xv,hf,hj,hkk,_,_⟩
 ·have:(execOp a.eval ⟨none,.insert t x y z,ty,pos,aft,none⟩).run P w= .ok .skip (setBlock w g (.map (es.push ⟨ek s,enc v,ck⟩) (ck+1))):=by
   simp [execOp,ha.eval hx,ha.eval hy,ha.eval hz,Instr.mapUpdate,run_underlying (rO ht),MapKept.run_getObj_map hb,MapKept.run_setObj_map _ hb,hK.chk,hf,Result.andThen,setBlock]
  rw [this]
  exact hK' _ _ (h _ _ ha (bF8 _ _ (he.push hK.inj v hn)))
 ·have:(execOp a.eval ⟨none,.insert t x y z,ty,pos,aft,none⟩).run P w= .ok .skip (setBlock w g (.map (es.modify j fun e=>{ e with key:=ek s,val:=enc v }) ck)):=by
   simp [execOp,ha.eval hx,ha.eval hy,ha.eval hz,Instr.mapUpdate,run_underlying (rO ht),MapKept.run_getObj_map hb,MapKept.run_setObj_map _ hb,hK.chk,hf,hj,hkk,hK.stay,Result.andThen,setBlock]
  rw [this]
  exact hK' _ _ (h _ _ ha (bF8 _ _ (he.modify hK.inj v hj hkk)))
theorem cP2{t k e:TypeId}{x y:Operand}{g:Nat}{s:κ}{dst:Option Nat}(i:Nat)(hK:bY8 P k ek)(ht:bS5 P t=some (k,e))(hx:rd S x=some (.map (some g)))(hy:rd S y=some (ek s))(hdst:dst=none)(hi:X[i]?=some (cB enc ek c.w0.heap.size g f))
 (hX:∀A∈X',bZ9 c.w0.heap.size g A/\A∈X)
 (h:WL P c fL Q rest S K L O (cB enc ek c.w0.heap.size g (zO f s)::X')):WL P c fL Q (⟨dst,.call ⟨.builtin .delete,#[x,y],#[t,k]⟩,ty,pos,aft,none⟩::rest) S K L O X:=by
 subst hdst
 intro a w ha hm
 refine wpList_plain D fun K' hK'=>?_
 obtain ⟨hg,es,ck,hb,he⟩:=hm.fact i hi
 have bF8:∀es' ck',jY enc ek (zO f s) es' ck'->gB c K L O (cB enc ek c.w0.heap.size g (zO f s)::X') (setBlock w g (.map es' ck')):=fun es' ck' he'=>hm.mapped hg hb fun A hA=>by
  rcases List.mem_cons.1 hA with rfl|hA
  ·exact ⟨⟨hg,_,_,ChangeMaps.heap_setBlock_same hb _,he'⟩,cB.lasts2⟩
  ·exact ⟨(hX A hA).1 _ _ hg ⟨_,_,hb⟩ (bJ5 hb) (hm.x A (hX A hA).2),hm.l A (hX A hA).2⟩
 unfold Oper.wp
 rcases he.find hK s w with ⟨hf,hn0,_⟩|⟨j,en,xv,hf,hj,hkk,_,_⟩
 ·have:(execOp a.eval ⟨none,.call ⟨.builtin .delete,#[x,y],#[t,k]⟩,ty,pos,aft,none⟩).run P w= .ok (.value (.tuple #[])) (setBlock w g (.map es ck)):=by
   simp [execOp,resolve,invoke,builtin,ha.eval hx,ha.eval hy,Builtin.delete_,run_underlying (rO ht),MapKept.run_getObj_map hb,MapKept.run_setObj_map _ hb,hK.chk,hf,Result.andThen,setBlock]
  rw [this]
  exact hK' _ _ (h _ _ ha (bF8 _ _ (he.same hn0)))
 ·have:(execOp a.eval ⟨none,.call ⟨.builtin .delete,#[x,y],#[t,k]⟩,ty,pos,aft,none⟩).run P w= .ok (.value (.tuple #[])) (setBlock w g (.map (es.eraseIdxIfInBounds j) ck)):=by
   simp [execOp,resolve,invoke,builtin,ha.eval hx,ha.eval hy,Builtin.delete_,run_underlying (rO ht),MapKept.run_getObj_map hb,MapKept.run_setObj_map _ hb,hK.chk,hf,Result.andThen,setBlock]
  rw [this]
  exact hK' _ _ (h _ _ ha (bF8 _ _ (he.erase hK.inj hj hkk)))
theorem bL2{t k e:TypeId}{x:Operand}{g n:Nat}(ht:bS5 P t=some (k,e))(hx:rd S x=some (.map (some g)))(hm:∀w,Z w->uR g n w):OV P nn S Z ⟨some d,.call ⟨.builtin .len,#[x],#[t]⟩,ty,pos,aft,none⟩ (J (n:Int)):=fun a w ha hz=>by
 obtain ⟨es,ck,hb,hn⟩:=hm w hz
 simp [execOp,resolve,invoke,builtin,ha.eval hx,Builtin.len_,run_underlying (rO ht),MapKept.run_getObj_map hb,goInt,hn,Result.andThen]
theorem bG0{γ:Type}{l:List Oper}(Y:γ->World->Prop)(hY:∀w,gB c K L O X w->∃g,Y g w)(hl:∀g,Lasts2 c.w0.heap.size c.row c.Tt (Y g))(h:∀g,WL P c fL Q l S K L O (Y g::X)):WL P c fL Q l S K L O X:=fun a w ha hm=>by
 obtain ⟨g,hg⟩:=hY w hm
 exact h g a w ha (hm.also (hl g) hg)
theorem cU6{γ:Type}{code:Code}(Y:γ->World->Prop)(hY:∀w,gB c K L O X w->∃g,Y g w)(hl:∀g,Lasts2 c.w0.heap.size c.row c.Tt (Y g))(h:∀g,Gw P c Q code S K L O (Y g::X)):Gw P c Q code S K L O X:=fun a w ha hm=>by
 obtain ⟨g,hg⟩:=hY w hm
 exact h g a w ha (hm.also (hl g) hg)
theorem gB.tailL{x:Nat×TypeId×List Value}{w:World}(h:gB c K (x::L) O X w):gB c K L O X w:=h.sub (List.sublist_cons_self ..)
end
theorem fM:gQ prog 3=true:=bC
theorem fR:gQ prog 9=true:=bC
theorem us9:prog.underlying 9=some .string:=bC
theorem kY:gQ prog 22=true:=bC
theorem kF:kH prog 22=some (3,1):=bC
theorem cX2:xQ prog 22=some (3,1,8):=bC
theorem fT5:gQ prog 26=true:=bC
theorem fY4:kH prog 26=some (74,15):=bC
theorem cO3:gQ prog 27=true:=bC
theorem xS:kH prog 27=some (53,2):=bC
theorem bU7:gQ prog 28=true:=bC
theorem cB9:kH prog 28=some (55,2):=bC
theorem eW4:xQ prog 28=some (55,2,32):=bC
theorem fU5:gQ prog 29=true:=bC
theorem fZ4:kH prog 29=some (253,3):=bC
theorem eZ6:kP prog 31=some 4:=bC
theorem eE1:dJ prog 31 0=some 0:=bC
theorem xT:dJ prog 31 1=some 1:=bC
theorem xU:dJ prog 31 2=some 2:=bC
theorem eF1:dJ prog 31 3=some 3:=bC
theorem fZ8:kN prog 31=some [H none 0 0,H none 0 0,H none 0 0,H none 0 0]:=bC
theorem fV5:gQ prog 32=true:=bC
theorem bF9:kH prog 32=some (168,7):=bC
theorem fA3:xQ prog 32=some (168,7,64):=bC
theorem fW5:gQ prog 33=true:=bC
theorem cF3:kH prog 33=some (203,4):=bC
theorem fX5:gQ prog 34=true:=bC
theorem cQ0:kH prog 34=some (207,3):=bC
theorem fB3:xQ prog 34=some (207,3,40):=bC
theorem fY5:gQ prog 35=true:=bC
theorem cG3:kH prog 35=some (209,6):=bC
theorem fO6:xQ prog 35=some (209,6,64):=bC
theorem fZ5:gQ prog 36=true:=bC
theorem bT3:kH prog 36=some (212,4):=bC
theorem fP6:xQ prog 36=some (212,4,56):=bC
theorem cN3:kP prog 38=some 5:=bC
theorem eG1:dJ prog 38 0=some 0:=bC
theorem eH1:dJ prog 38 1=some 1:=bC
theorem eI1:dJ prog 38 2=some 2:=bC
theorem eJ1:dJ prog 38 3=some 3:=bC
theorem eK1:dJ prog 38 4=some 4:=bC
theorem fK2:kN prog 38=some [H none 0 0,H none 0 0,H none 0 0,H none 0 0,H none 0 0]:=bC
theorem fX8:kP prog 40=some 7:=bC
theorem dK0:kP prog 42=some 16:=bC
theorem wS:dJ prog 42 0=some 0:=bC
theorem fM0:dJ prog 42 1=some 4:=bC
theorem fN0:dJ prog 42 2=some 9:=bC
theorem fE6:kN prog 42=some [H none 0 0,H none 0 0,H none 0 0,H none 0 0,H none 0 0,H none 0 0,H none 0 0,H none 0 0,H none 0 0,J 0,J 0,J 0,J 0,J 0,J 0,J 0]:=bC
theorem vX:kH prog 44=some (128,4):=bC
theorem cY2:xQ prog 44=some (128,4,48):=bC
theorem dR3:gQ prog 47=true:=bC
theorem pU:kH prog 47=some (87,6):=bC
theorem fQ6:xQ prog 47=some (87,6,64):=bC
theorem eF3:gQ prog 48=true:=bC
theorem cW5:kH prog 51=some (57,2):=bC
theorem fR6:xQ prog 51=some (57,2,24):=bC
theorem bJ9:kP prog 53=some 2:=bC
theorem vC:dJ prog 53 0=some 0:=bC
theorem zH:dJ prog 53 1=some 1:=bC
theorem eL4:kN prog 53=some [U ⟨#[]⟩,U ⟨#[]⟩]:=bC
theorem dP8:kP prog 55=some 2:=bC
theorem cN6:dJ prog 55 0=some 0:=bC
theorem cO6:dJ prog 55 1=some 1:=bC
theorem fL2:kN prog 55=some [U ⟨#[]⟩,U ⟨#[]⟩]:=bC
theorem eD3:kP prog 57=some 2:=bC
theorem cT0:dJ prog 57 0=some 0:=bC
theorem cP6:dJ prog 57 1=some 1:=bC
theorem fF6:kN prog 57=some [U ⟨#[]⟩,J 0]:=bC
theorem cX5:kH prog 58=some (115,3):=bC
theorem fC3:xQ prog 58=some (115,3,40):=bC
theorem bD6:kP prog 67=some 2:=bC
theorem rQ:dJ prog 67 0=some 0:=bC
theorem wT:dJ prog 67 1=some 1:=bC
theorem fG6:kN prog 67=some [J 0,J 0]:=bC
theorem fS5:kP prog 74=some 15:=bC
theorem fO0:dJ prog 74 0=some 0:=bC
theorem fA9:kN prog 74=some [U ⟨#[]⟩,J 0,J 0,J 0,J 0,J 0,J 0,J 0,J 0,J 0,J 0,J 0,J 0,J 0,J 0]:=bC
theorem rX:gQ prog 76=true:=bC
theorem mD:kH prog 76=some (9,1):=bC
theorem eX4:xQ prog 76=some (9,1,16):=bC
theorem bZ1:kP prog 87=some 6:=bC
theorem bO1:dJ prog 87 0=some 0:=bC
theorem bF7:dJ prog 87 1=some 1:=bC
theorem pQ:dJ prog 87 2=some 2:=bC
theorem eL1:dJ prog 87 3=some 4:=bC
theorem eM1:dJ prog 87 4=some 5:=bC
theorem dM1:kN prog 87=some [U ⟨#[]⟩,U ⟨#[]⟩,J 0,J 0,J 0,J 0]:=bC
theorem eA7:gQ prog 88=true:=bC
theorem dS3:gQ prog 89=true:=bC
theorem fQ1:gQ prog 90=true:=bC
theorem eG3:gQ prog 91=true:=bC
theorem mC:kH prog 91=some (181,5):=bC
theorem fD3:xQ prog 91=some (181,5,64):=bC
theorem fR1:gQ prog 92=true:=bC
theorem dT3:gQ prog 93=true:=bC
theorem cA2:gQ prog 94=true:=bC
theorem fA6:gQ prog 95=true:=bC
theorem fB6:gQ prog 96=true:=bC
theorem fS6:xQ prog 96=some (178,2,16):=bC
theorem fP0:dJ prog 98 0=some 0:=bC
theorem cQ6:dJ prog 98 1=some 16:=bC
theorem bV3:dJ prog 98 2=some 17:=bC
theorem dF2:dJ prog 98 3=some 18:=bC
theorem cR6:dJ prog 98 4=some 19:=bC
theorem dG2:dJ prog 98 5=some 20:=bC
theorem bW3:dJ prog 98 6=some 21:=bC
theorem wU:dJ prog 98 7=some 22:=bC
theorem eN1:dJ prog 98 8=some 23:=bC
theorem eO1:dJ prog 98 9=some 24:=bC
theorem dZ4:kH prog 110=some (67,2):=bC
theorem eG8:xQ prog 110=some (67,2,16):=bC
theorem bC6:kP prog 115=some 3:=bC
theorem eR5:dJ prog 115 0=some 0:=bC
theorem bD5:dJ prog 115 1=some 1:=bC
theorem cD6:dJ prog 115 2=some 2:=bC
theorem dL6:kN prog 115=some [U ⟨#[]⟩,U ⟨#[]⟩,J 0]:=bC
theorem kU:kP prog 128=some 4:=bC
theorem mZ:dJ prog 128 0=some 0:=bC
theorem pO:dJ prog 128 1=some 1:=bC
theorem qS:dJ prog 128 2=some 2:=bC
theorem rK:dJ prog 128 3=some 3:=bC
theorem cJ5:kN prog 128=some [J 0,U ⟨#[]⟩,J 0,U ⟨#[]⟩]:=bC
theorem cZ3:kH prog 137=some (48,1):=bC
theorem qJ:gQ prog 140=true:=bC
theorem cY1:gQ prog 141=true:=bC
theorem cP0:kH prog 141=some (147,1):=bC
theorem fX2:xQ prog 141=some (147,1,24):=bC
theorem zB:dJ prog 144 0=some 0:=bC
theorem zC:dJ prog 144 1=some 1:=bC
theorem vK:dJ prog 144 2=some 2:=bC
theorem xH:dJ prog 144 3=some 3:=bC
theorem bE5:dJ prog 144 4=some 4:=bC
theorem wC:dJ prog 144 5=some 5:=bC
theorem bF5:dJ prog 144 6=some 6:=bC
theorem cW4:kP prog 146=some 3:=bC
theorem bG5:dJ prog 146 0=some 0:=bC
theorem bH5:dJ prog 146 1=some 1:=bC
theorem dE5:dJ prog 146 2=some 2:=bC
theorem eJ9:kN prog 146=some [U ⟨#[]⟩,J 0,J 0]:=bC
theorem cZ1:gQ prog 147=true:=bC
theorem bZ4:kH prog 147=some (146,3):=bC
theorem fY2:xQ prog 147=some (146,3,32):=bC
theorem bY1:kP prog 168=some 7:=bC
theorem pP:dJ prog 168 0=some 0:=bC
theorem qT:dJ prog 168 1=some 1:=bC
theorem rL:dJ prog 168 2=some 2:=bC
theorem cE6:dJ prog 168 3=some 3:=bC
theorem bQ9:dJ prog 168 4=some 4:=bC
theorem cF6:dJ prog 168 5=some 5:=bC
theorem cG6:dJ prog 168 6=some 6:=bC
theorem dK1:kN prog 168=some [U ⟨#[]⟩,J 0,J 0,J 0,J 0,J 0,J 0]:=bC
theorem cX4:kP prog 176=some 2:=bC
theorem eK9:kN prog 176=some [U ⟨#[]⟩,J 0]:=bC
theorem fE:kP prog 181=some 5:=bC
theorem nI:dJ prog 181 0=some 0:=bC
theorem wD:dJ prog 181 1=some 1:=bC
theorem xI:dJ prog 181 2=some 2:=bC
theorem cH6:dJ prog 181 3=some 3:=bC
theorem zD:dJ prog 181 4=some 4:=bC
theorem bO6:kN prog 181=some [J 0,U ⟨#[]⟩,U ⟨#[]⟩,J 0,U ⟨#[]⟩]:=bC
theorem dJ0:kP prog 203=some 4:=bC
theorem bD2:dJ prog 203 0=some 0:=bC
theorem cI6:dJ prog 203 1=some 1:=bC
theorem cJ6:dJ prog 203 2=some 2:=bC
theorem cK6:dJ prog 203 3=some 3:=bC
theorem eL9:kN prog 203=some [U ⟨#[]⟩,J 0,J 0,J 0]:=bC
theorem eG9:kP prog 204=some 2:=bC
theorem fD6:kN prog 204=some [U ⟨#[]⟩,U ⟨#[]⟩]:=bC
theorem eB9:kH prog 205=some (204,2):=bC
theorem dA6:kP prog 207=some 3:=bC
theorem vL:dJ prog 207 0=some 0:=bC
theorem xJ:dJ prog 207 1=some 1:=bC
theorem bI5:dJ prog 207 2=some 2:=bC
theorem eM9:kN prog 207=some [U ⟨#[]⟩,U ⟨#[]⟩,J 0]:=bC
theorem dB6:kP prog 209=some 6:=bC
theorem wE:dJ prog 209 0=some 0:=bC
theorem bE2:dJ prog 209 1=some 1:=bC
theorem bF2:dJ prog 209 2=some 2:=bC
theorem rM:dJ prog 209 3=some 3:=bC
theorem zE:dJ prog 209 4=some 4:=bC
theorem zF:dJ prog 209 5=some 5:=bC
theorem eN9:kN prog 209=some [U ⟨#[]⟩,U ⟨#[]⟩,J 0,J 0,J 0,J 0]:=bC
theorem bT8:kP prog 212=some 4:=bC
theorem zG:dJ prog 212 0=some 0:=bC
theorem cL6:dJ prog 212 1=some 1:=bC
theorem uE:dJ prog 212 2=some 2:=bC
theorem eJ4:kN prog 212=some [U ⟨#[]⟩,J 0,H none 0 0,.bool false]:=bC
theorem uK:kP prog 220=some 3:=bC
theorem mM:dJ prog 220 0=some 0:=bC
theorem kT:dJ prog 220 1=some 1:=bC
theorem nT:dJ prog 220 2=some 2:=bC
theorem dL1:kN prog 220=some [U ⟨#[]⟩,H none 0 0,H none 0 0]:=bC
theorem bL3:gQ prog 260=true:=bC
theorem bB8:kH prog 260=some (269,9):=bC
theorem fZ2:xQ prog 260=some (269,9,96):=bC
theorem kQ:kP prog 262=some 5:=bC
theorem eS5:dJ prog 262 2=some 2:=bC
theorem vM:dJ prog 262 3=some 4:=bC
theorem yS:kN prog 262=some [U ⟨#[]⟩,U ⟨#[]⟩,J 0,J 0,H none 0 0]:=bC
theorem cX1:kP prog 267=some 4:=bC
theorem eO9:kN prog 267=some [J 0,U ⟨#[]⟩,J 0,J 0]:=bC
theorem cM6:dJ prog 269 0=some 0:=bC
theorem eT5:dJ prog 269 2=some 5:=bC
theorem fC:kP prog 305=some 3:=bC
theorem wF:dJ prog 305 0=some 0:=bC
theorem eU5:dJ prog 305 1=some 1:=bC
theorem eK4:kN prog 305=some [J 0,U ⟨#[]⟩,J 0]:=bC
theorem cb4:cF prog 4=true:=bC
theorem cb5:cF prog 5=true:=bC
theorem cb6:cF prog 6=true:=bC
theorem cb7:cF prog 7=true:=bC
theorem cb8:cF prog 8=true:=bC
theorem cb9:cF prog 9=true:=bC
theorem fT6:cF prog 10=true:=bC
theorem fU6:cF prog 11=true:=bC
theorem fV6:cF prog 12=true:=bC
theorem fW6:cF prog 13=true:=bC
theorem fX6:cF prog 14=true:=bC
theorem fY6:cF prog 15=true:=bC
theorem uU:cF prog 16=true:=bC
theorem fZ6:cF prog 17=true:=bC
theorem fA7:cF prog 18=true:=bC
theorem fB7:cF prog 19=true:=bC
theorem fC7:cF prog 20=true:=bC
theorem cR5:cF prog 21=true:=bC
theorem fD7:cF prog 22=true:=bC
theorem fE7:cF prog 23=true:=bC
theorem vO:cF prog 24=true:=bC
theorem eU9:cF prog 25=true:=bC
theorem qB:cF prog 26=true:=bC
theorem fF7:cF prog 27=true:=bC
theorem fG7:cF prog 28=true:=bC
theorem eV9:cF prog 29=true:=bC
theorem eI0:cF prog 30=true:=bC
theorem eW9:cF prog 31=true:=bC
theorem fI4:cF prog 32=true:=bC
theorem eX9:cF prog 33=true:=bC
theorem fH7:cF prog 34=true:=bC
theorem fI7:cF prog 35=true:=bC
theorem fJ7:cF prog 36=true:=bC
theorem pS:cF prog 37=true:=bC
theorem eY9:cF prog 38=true:=bC
theorem bY6:cF prog 39=true:=bC
theorem fK7:cF prog 40=true:=bC
theorem fL7:cF prog 41=true:=bC
theorem fJ4:cF prog 42=true:=bC
theorem uN:cF prog 45=true:=bC
theorem fK4:cF prog 46=true:=bC
theorem bZ6:cF prog 47=true:=bC
theorem fL4:cF prog 48=true:=bC
theorem fM4:cF prog 49=true:=bC
theorem fM7:cF prog 50=true:=bC
theorem fN4:cF prog 51=true:=bC
theorem fN7:cF prog 52=true:=bC
theorem fO7:cF prog 54=true:=bC
theorem fP7:cF prog 55=true:=bC
theorem fQ7:cF prog 56=true:=bC
theorem fO4:cF prog 57=true:=bC
theorem fR7:cF prog 59=true:=bC
theorem fS7:cF prog 60=true:=bC
theorem bA7:cF prog 61=true:=bC
theorem fP4:cF prog 62=true:=bC
theorem eB5:cF prog 66=true:=bC
theorem fT7:cF prog 67=true:=bC
theorem fU7:cF prog 68=true:=bC
theorem fV7:cF prog 69=true:=bC
theorem fW7:cF prog 70=true:=bC
theorem fX7:cF prog 71=true:=bC
theorem fY7:cF prog 72=true:=bC
theorem fZ7:cF prog 73=true:=bC
theorem fA8:cF prog 74=true:=bC
theorem fB8:cF prog 75=true:=bC
theorem fC8:cF prog 76=true:=bC
theorem fD8:cF prog 77=true:=bC
theorem fE8:cF prog 78=true:=bC
theorem fF8:cF prog 79=true:=bC
theorem fG8:cF prog 80=true:=bC
theorem fH8:cF prog 81=true:=bC
theorem bT4:cF prog 82=true:=bC
theorem eZ9:cF prog 83=true:=bC
theorem fQ4:cF prog 84=true:=bC
theorem fR4:cF prog 85=true:=bC
theorem fI8:cF prog 86=true:=bC
theorem fJ8:cF prog 87=true:=bC
theorem cQ8:cF prog 88=true:=bC
theorem fA0:cF prog 89=true:=bC
theorem fL8:cF prog 90=true:=bC
theorem fM8:cF prog 91=true:=bC
theorem fN8:cF prog 92=true:=bC
theorem fO8:cF prog 93=true:=bC
theorem fS4:cF prog 94=true:=bC
theorem bW2:cF prog 95=true:=bC
theorem fT4:cF prog 96=true:=bC
theorem fP8:cF prog 97=true:=bC
theorem fQ8:cF prog 98=true:=bC
theorem fU4:cF prog 99=true:=bC
theorem fG3:cF prog 100=true:=bC
theorem dR4:cF prog 101=true:=bC
theorem cM8:cF prog 102=true:=bC
theorem cN8:cF prog 103=true:=bC
theorem eJ8:cF prog 106=true:=bC
theorem fH3:cF prog 107=true:=bC
theorem eB0:cF prog 108=true:=bC
theorem fI3:cF prog 109=true:=bC
theorem eK8:cF prog 110=true:=bC
theorem fJ3:cF prog 111=true:=bC
theorem fK3:cF prog 112=true:=bC
theorem cO8:cF prog 113=true:=bC
theorem eL8:cF prog 114=true:=bC
theorem eC0:cF prog 115=true:=bC
theorem fL3:cF prog 116=true:=bC
theorem eM8:cF prog 117=true:=bC
theorem eN8:cF prog 119=true:=bC
theorem fM3:cF prog 120=true:=bC
theorem eO8:cF prog 121=true:=bC
theorem fN3:cF prog 122=true:=bC
theorem dS4:cF prog 124=true:=bC
theorem fO3:cF prog 128=true:=bC
theorem fP3:cF prog 129=true:=bC
theorem fQ3:cF prog 130=true:=bC
theorem fR3:cF prog 131=true:=bC
theorem fS3:cF prog 132=true:=bC
theorem fT3:cF prog 133=true:=bC
theorem eD0:cF prog 134=true:=bC
theorem eP8:cF prog 135=true:=bC
theorem bR4:cF prog 136=true:=bC
theorem eQ8:cF prog 137=true:=bC
theorem fU3:cF prog 138=true:=bC
theorem fV3:cF prog 139=true:=bC
theorem fW3:cF prog 140=true:=bC
theorem eE0:cF prog 141=true:=bC
theorem eR8:cF prog 142=true:=bC
theorem eS8:cF prog 143=true:=bC
theorem eT8:cF prog 144=true:=bC
theorem eU8:cF prog 156=true:=bC
theorem fX3:cF prog 157=true:=bC
theorem eF0:cF prog 158=true:=bC
theorem eV8:cF prog 168=true:=bC
theorem fY3:cF prog 175=true:=bC
theorem fZ3:cF prog 176=true:=bC
theorem fA4:cF prog 177=true:=bC
theorem bK1:cF prog 178=true:=bC
theorem cP8:cF prog 179=true:=bC
theorem eW8:cF prog 180=true:=bC
theorem fB4:cF prog 181=true:=bC
theorem fC4:cF prog 182=true:=bC
theorem fD4:cF prog 183=true:=bC
theorem bS4:cF prog 184=true:=bC
theorem dT4:cF prog 185=true:=bC
theorem eX8:cF prog 191=true:=bC
theorem fE4:cF prog 210=true:=bC
theorem fF4:cF prog 211=true:=bC
theorem fG4:cF prog 212=true:=bC
theorem eG0:cF prog 213=true:=bC
theorem dU4:cF prog 214=true:=bC
theorem eY8:cF prog 215=true:=bC
theorem fH4:cF prog 216=true:=bC
theorem eH0:cF prog 235=true:=bC
theorem mixed:prog.follows .mixedOrders=true:=bC
theorem dH5:(prog.info? 269).map (·.size)=some 9:=bC
theorem fN1(at_:Int)(st:M)(m f:Int)(w:World):
 (binOp .neq 267 (.agg #[J at_,U st,J m,J f]) (.agg #[J (-1),U ⟨#[]⟩,J 0,J 0])).run prog w= .ok (.bool (dT5 ⟨at_,st,m,f⟩)) w:=by
 have hS:prog.underlying 267=some (.struct (prog.fieldsOf 267)):=bC
 have hp:prog.stoodInHeld 267=false:=bC
 rw [run_neq_struct,show (10000:Nat)=9999+1 from rfl,run_equalIn_agg w 9999 267 _ _ hS hp]
 simp only [Program.fieldsOf,Tryz.underlying267]
 have u3:=Tryz.underlying3
 have u9:=Tryz.underlying9
 go_simp
 by_cases h1:at_= -1 <;> by_cases h2:st.toList= [] <;> by_cases h3:m=0 <;> by_cases h4:f=0 <;> simp [dT5,h1,h2,h3,h4]
theorem bN1(x:Int):dK [0,x]=x:=by
 simp only [dK];split <;> simp_all
theorem dC3{fr:Int}{p:Option Lg}{last:Bool}{g:Lg}{e:Int}(h:dK [dO (!keyB g.veh) 5,qO g.out]=e)(hne:e≠0):cG1 fr p last g=e:=by
 unfold cG1
 simp only [dK] at h ⊢
 split
 ·rename_i h1
  rw [if_pos h1] at h
  split
  ·rename_i h2
   rw [if_pos h2] at h
   exact absurd h.symm hne
  ·rename_i h2
   rw [if_neg h2] at h
   exact h
 ·rename_i h1
  rw [if_neg h1] at h
  exact h
theorem dB3{fr:Int}{p:Option Lg}{last:Bool}{g:Lg}(h:dK [dO (!keyB g.veh) 5,qO g.out]=0):cG1 fr p last g=dK [wW fr p g,cH1 last g]:=by
 have:=uZ h
 unfold cG1
 rw [this.1,this.2]
 rfl
theorem cS5(key driver:M)(fr to_:Int)(l:List Lg)(A:Option Addr)(n c i:Nat)(g:Lg)(w:World)(hl:SlT lgEnc 9 269 w A n l)(hi:l[i]?=some g)(hok:∀g∈l,dS1 g)(hn:n<=1000000):
 Calls prog 252 #[.agg #[U key,U driver,J fr,J to_,H A n c],J (i:Int)] w (nG w (cG1 fr (prevOf l i) (decide (i+1=n)) g)):=by
 have hin:i < n:=by have:=(List.getElem?_eq_some_iff.1 hi).1;have:=hl.len;omega
 obtain ⟨b,off,rfl,hbl,hrg⟩:=hl.get G
 have hgo:=hok g (fZ9 hi)
 have hpv:∀q,l[i - 1]?=some q->dS1 q:=fun q hq=>hok q (fZ9 hq)
 have hr0:=hrg i g hi
 obtain ⟨E1,hE1⟩:∃E,E=dK [dO (!keyB g.veh) 5,qO g.out]:=⟨_,rfl⟩
 have hstop:=fun (h:E1≠0)=>dC3 (fr:=fr) (p:=prevOf l i) (last:=decide (i+1=n)) hE1.symm h
 have hpass:=fun (h:E1=0)=>dB3 (fr:=fr) (p:=prevOf l i) (last:=decide (i+1=n)) (g:=g) (hE1.symm.trans h)
 have Hstop:=Lib.hid hstop
 have Hpass:=Lib.hid hpass
 obtain ⟨R,hR⟩:∃R,R=cG1 fr (prevOf l i) (decide (i+1=n)) g:=⟨_,rfl⟩
 rw [<-hR] at Hstop Hpass ⊢
 obtain ⟨veh,⟨a1,s1,m1,f1⟩,⟨a2,s2,m2,f2⟩⟩:=g
 have cK:∀w,Calls prog 95 #[U veh] w fun e w'=>e=.returned (.bool (keyB veh))/\w'=w:=fun w=>nQ (isKey_any _ _ (by have:=hgo.1;simp at this;omega))
 have hE1':E1=dK [dO (!keyB veh) 5,qO ⟨a1,s1,m1,f1⟩]:=hE1
 generalize keyB veh=K at cK hE1'
 have hr:w.rangeAt b (off+i *9) [U veh,J a1,U s1,J m1,J f1,J a2,U s2,J m2,J f2]:=hr0
 have ho1:RdOk ⟨a1,s1,m1,f1⟩:=hgo.2.1
 have ho2:RdOk ⟨a2,s2,m2,f2⟩:=hgo.2.2
 have CK:=Lib.hid cK
 have HE1:=Lib.hid hE1'
 have Hrg:=Lib.hid hrg
 have Ho1:=Lib.hid ho1
 have Ho2:=Lib.hid ho2
 have hr':=fun (o:Obj)=>(show (w.alloc o).rangeAt b (off+i *9) [U veh,J a1,U s1,J m1,J f1,J a2,U s2,J m2,J f2] from fun j v hv=>(World.cell?_alloc_lt w o _ hbl).trans (hr j v hv))
 clear hstop hpass hE1 hE1' cK hrg ho1 ho2 hr0 hr hgo hR
 go_enter func252,ntmps252
 go_wp2_with (with_reducible refine bP0 rfl 269 (.tmp 11) rfl b (off+i *9) rfl _ _ (hr' _) Tryz.underlying269 rfl 9 dH5 rfl ?_)
 refine wp_region_still_tail 7 bC bC ?_
 change wpStill _ _ (World.drew _) _ _ _
 simp only [List.take_succ_cons,List.take_zero,List.drop_succ_cons,List.drop_zero]
 repeat still_step
 still_call (CK.out _)
 repeat still_step
 still_call (nQ (eH _ _ _))
 repeat still_step
 refine wpStill_nil ?_
 change wpList _ _ _ _ _ (World.drew _)
 go_wp2_with fail
 refine (yG ⟨a1,s1,m1,f1⟩ _ Ho1.out).mono ?_
 rintro e w1 ⟨rfl,hg1⟩
 obtain ⟨R1,hR1⟩:∃R,R=qO ⟨a1,s1,m1,f1⟩:=⟨_,rfl⟩
 rw [<-hR1] at HE1 ⊢
 clear hR1
 have hz:=hg1.size
 simp at hz
 have hb0:Blk w1 w.heap.size 262 [U key,U driver,J fr,J to_,H (some ⟨b,off,none⟩) n c]:=(((Blk.at_ w rfl _ _).alloc _).drew).grown hg1 (by simp)
 have hb1:Blk w1 (w.heap.size+1) 269 [U veh,J a1,U s1,J m1,J f1,J a2,U s2,J m2,J f2]:=((Blk.at_ (w.alloc _) (by simp) _ _).drew).grown hg1 (by simp)
 have hgw:w.grownBy w1 none:=grow_trans (pY (grow_alloc (grow_alloc (World.grownBy.refl _ _) _) _)) hg1
 clear hg1 hr'
 go_wp2_with fail
 refine (fP [dO (!K) 5,R1] _ _ _ _ (Blk.at_ _ D _ _) (by simp)).mono ?_
 rintro e w2 ⟨rfl,rfl⟩
 rw [<-HE1.out]
 obtain ⟨w2,hw2⟩:∃w2,w2=w1.alloc (.cells (List.map (Value.int .i64) [dO (!K) 5,R1]).toArray 48):=⟨_,rfl⟩
 have hg2:w1.grownBy w2 none:=by rw [hw2];exact grow_alloc (World.grownBy.refl _ _) _
 rw [<-hw2]
 have hb0:=hb0.grown hg2 (by simp)
 have hb1:=hb1.grown hg2 (by simp)
 have hgw:=grow_trans hgw hg2
 have hz:=Nat.lt_of_lt_of_le (show w.heap.size+1 < w1.heap.size by omega) hg2.size
 clear hw2 hg2
 by_cases hE0:E1=0
 ·have hpass:=Hpass.out hE0
  have HP:=Lib.hid hpass
  subst hE0
  clear hpass
  have h2:=hb0.cell_of (i:=2) (v:=J fr) rfl
  have h3:=hb0.cell_of (i:=3) (v:=J to_) rfl
  have h4:=hb0.cell_of (i:=4) (v:=H (some ⟨b,off,none⟩) n c) rfl
  have g0:=hb1.cell_of (i:=0) (v:=U veh) rfl
  have g1:=hb1.cell_of (i:=1) (v:=J a1) rfl
  have g2:=hb1.cell_of (i:=2) (v:=U s1) rfl
  have g3:=hb1.cell_of (i:=3) (v:=J m1) rfl
  have g4:=hb1.cell_of (i:=4) (v:=J f1) rfl
  have g5:=hb1.cell_of (i:=5) (v:=J a2) rfl
  have g6:=hb1.cell_of (i:=6) (v:=U s2) rfl
  have g7:=hb1.cell_of (i:=7) (v:=J m2) rfl
  have g8:=hb1.cell_of (i:=8) (v:=J f2) rfl
  go_upto_if 27 with fail
  go_cut [] (fun wx=>wW fr (prevOf l i) ⟨veh,⟨a1,s1,m1,f1⟩,⟨a2,s2,m2,f2⟩⟩=0/\w2.grownBy wx none)
  case first=>
   by_cases hi0:i=0
   ·subst hi0
    have hq:(((0:Nat):Int)==0)=true:=rfl
    have hV:wW fr (prevOf l 0) ⟨veh,⟨a1,s1,m1,f1⟩,⟨a2,s2,m2,f2⟩⟩=if a1=fr then 0 else 7:=rfl
    have HV:=Lib.hid hV
    by_cases hf:a1=fr
    ·have hne:(a1 !=fr)=false:=by simpa using hf
     have HW:=Lib.hid (show wW fr (prevOf l 0) ⟨veh,⟨a1,s1,m1,f1⟩,⟨a2,s2,m2,f2⟩⟩=0 by rw [HV.out,if_pos hf])
     clear hV hf
     go_wp2_with fail
     go_meet
     exact ⟨HW.out,World.grownBy.refl _ _⟩
    ·have hne:(a1 !=fr)=true:=by simpa using hf
     have HW:=Lib.hid (show wW fr (prevOf l 0) ⟨veh,⟨a1,s1,m1,f1⟩,⟨a2,s2,m2,f2⟩⟩=7 by rw [HV.out,if_neg hf])
     clear hV hf
     go_wp2_with fail
     go_ret
     exact ⟨cL (by rw [HP.out,HW.out];rfl),hgw⟩
   ·have hq:((i:Int)==0)=false:=by simpa using hi0
    obtain ⟨⟨qveh,⟨qa1,qs1,qm1,qf1⟩,⟨qa2,qs2,qm2,qf2⟩⟩,hq1⟩:∃q,l[i - 1]?=some q:=⟨_,fY9 (by have:=(List.getElem?_eq_some_iff.1 hi).1;omega)⟩
    have hpo:prevOf l i=some ⟨qveh,⟨qa1,qs1,qm1,qf1⟩,⟨qa2,qs2,qm2,qf2⟩⟩:=by simp [prevOf,hi0,hq1]
    have hrq0:=Hrg.out (i - 1) _ hq1
    have hrq:w.rangeAt b (off+(i - 1) *9) [U qveh,J qa1,U qs1,J qm1,J qf1,J qa2,U qs2,J qm2,J qf2]:=hrq0
    have hki:(i:Int) - 1=((i - 1:Nat):Int):=G
    have hk1n:(i:Int) - 1 < (n:Int):=G
    have hr2:=cL7 hrq hbl hgw
    have hV:wW fr (prevOf l i) ⟨veh,⟨a1,s1,m1,f1⟩,⟨a2,s2,m2,f2⟩⟩=if a1=qa2 then (if eqS veh qveh then 16 else if eqS s1 qs2 then 0 else 8) else 7:=by rw [hpo];rfl
    have HV:=Lib.hid hV
    clear hV hpo hrq hrq0 hq1 hi0
    go_wp2_with (with_reducible refine bP0 rfl 269 (.tmp 39) rfl b (off+(i - 1) *9) rfl _ _ hr2 Tryz.underlying269 rfl 9 dH5 rfl ?_)
    ·go_ret
     rename_i h1
     have h1':¬a1=qa2:=by simpa using h1
     exact ⟨cL (by rw [HP.out,HV.out,if_neg h1'];rfl),grow_alloc hgw _⟩
    ·go_ret
     rename_i h1 h2
     have h1':a1=qa2:=by simpa using h1
     have h2':eqS veh qveh=true:=h2
     exact ⟨cL (by rw [HP.out,HV.out,if_pos h1',if_pos h2'];rfl),grow_alloc hgw _⟩
    ·go_ret
     rename_i h1 h2 h3
     have h1':a1=qa2:=by simpa using h1
     have h2':¬eqS veh qveh=true:=by simpa [eqS] using h2
     have h3':¬eqS s1 qs2=true:=by simpa [eqS] using h3
     exact ⟨cL (by rw [HP.out,HV.out,if_pos h1',if_neg h2',if_neg h3'];rfl),grow_alloc hgw _⟩
    ·go_meet
     rename_i h1 h2 h3
     have h1':a1=qa2:=by simpa using h1
     have h2':¬eqS veh qveh=true:=by simpa [eqS] using h2
     have h3':eqS s1 qs2=true:=by simpa [eqS] using h3
     exact ⟨by rw [HV.out,if_pos h1',if_neg h2',if_pos h3'],grow_alloc (World.grownBy.refl _ _) _⟩
  case rest=>
   obtain ⟨hp0,hg3⟩:=hcut
   obtain ⟨w3,hw3⟩:∃w3:World,w3=wc:=⟨_,rfl⟩
   rw [<-hw3] at hg3 ⊢
   clear hw3
   have hb0:=hb0.grown hg3 (by simp)
   have hb1:=hb1.grown hg3 (by simp)
   have hgw:=grow_trans hgw hg3
   have HR:=Lib.hid (show R=dK [0,cH1 (decide (i+1=n)) ⟨veh,⟨a1,s1,m1,f1⟩,⟨a2,s2,m2,f2⟩⟩] by rw [HP.out,hp0])
   have k4:=hb0.cell_of (i:=4) (v:=H (some ⟨b,off,none⟩) n c) rfl
   have k1:=hb1.cell_of (i:=1) (v:=J a1) rfl
   have k5:=hb1.cell_of (i:=5) (v:=J a2) rfl
   have k6:=hb1.cell_of (i:=6) (v:=U s2) rfl
   have k7:=hb1.cell_of (i:=7) (v:=J m2) rfl
   have k8:=hb1.cell_of (i:=8) (v:=J f2) rfl
   clear hp0 HP h2 h3 h4 g0 g1 g2 g3 g4 g5 g6 g7 g8
   by_cases ha:a2= -1
   ·subst ha
    have hq:=fun w=>fN1 (-1) s2 m2 f2 w
    obtain ⟨Z,hZ⟩:∃Z,Z=dT5 ⟨-1,s2,m2,f2⟩:=⟨_,rfl⟩
    rw [<-hZ] at hq
    have HZ:=Lib.hid hZ
    have hlt:decide ((i:Int) < (n:Int) - 1)= !decide (i+1=n):=by
     by_cases hl:i+1=n <;> simp [hl] <;> omega
    obtain ⟨L,hL⟩:∃L,L=decide (i+1=n):=⟨_,rfl⟩
    rw [<-hL] at hlt HR
    clear hZ hL
    go_wp2_with fail
    refine wp_region_still_tail 12 bC bC ?_
    change wpStill _ _ (World.drew _) _ _ _
    simp only [List.take_succ_cons,List.take_zero,List.drop_succ_cons,List.drop_zero]
    repeat still_step
    still_call (nQ (eH _ _ _))
    repeat still_step
    still_call (nQ (eH _ _ _))
    repeat still_step
    refine wpStill_nil ?_
    change wpList _ _ _ _ _ (World.drew _)
    go_wp2_with fail
    refine (fP [dO Z 3,dO (!L) 11] _ _ _ _ ((Blk.at_ _ D _ _).drew) (by simp)).mono ?_
    rintro e w4 ⟨rfl,rfl⟩
    go_wp2_with fail
    go_ret
    refine ⟨cL ?_,pY (grow_alloc hgw _)⟩
    rw [HR.out,HZ.out];simp [cH1,bN1]
   ·have hne:(a2== -1)=false:=by simpa using ha
    have hfin:=fun (e:Int) (h:e=dK [qO ⟨a2,s2,m2,f2⟩,dO (decide (a2<=a1)) 7])=>(show e=R by rw [HR.out,h];simp only [cH1,if_neg ha,bN1])
    have Hfin:=Lib.hid hfin
    clear hfin
    go_wp2_with fail
    go_region_held3 (fun wx=>wx.cell? ⟨w.heap.size+1,1,none⟩=some (J a1)/\wx.cell? ⟨w.heap.size+1,5,none⟩=some (J a2)/\wx.cell? ⟨w.heap.size+1,6,none⟩=some (U s2)/\wx.cell? ⟨w.heap.size+1,7,none⟩=some (J m2)/\wx.cell? ⟨w.heap.size+1,8,none⟩=some (J f2))
     (first
      |exact ⟨k1,k5,k6,k7,k8⟩
      |exact q4
      |exact q5 _)
     (first
      |(go_at_call 264;refine (yG ⟨a2,s2,m2,f2⟩ _ Ho2.out).mono ?_;rintro e w4 ⟨rfl,hg4⟩;have hb2:Blk w4 (w.heap.size+1) 269 [.string veh,.int .i64 a1,.string s1,.int .i64 m1,.int .i64 f1,.int .i64 a2,.string s2,.int .i64 m2,.int .i64 f2]:=(hb1.drewN 1).grown hg4 (by simp);have q5:=fun o=>And.intro ((hb2.alloc o).cell_of (i:=1) (v:= .int .i64 a1) rfl) (And.intro ((hb2.alloc o).cell_of (i:=5) (v:= .int .i64 a2) rfl) (And.intro ((hb2.alloc o).cell_of (i:=6) (v:= .string s2) rfl) (And.intro ((hb2.alloc o).cell_of (i:=7) (v:= .int .i64 m2) rfl) ((hb2.alloc o).cell_of (i:=8) (v:= .int .i64 f2) rfl))));have q4:=And.intro (hb2.cell_of (i:=1) (v:= .int .i64 a1) rfl) (And.intro (hb2.cell_of (i:=5) (v:= .int .i64 a2) rfl) (And.intro (hb2.cell_of (i:=6) (v:= .string s2) rfl) (And.intro (hb2.cell_of (i:=7) (v:= .int .i64 m2) rfl) (hb2.cell_of (i:=8) (v:= .int .i64 f2) rfl)))))
      |(go_at_call 26;refine (eH _ _ _).mono ?_;rintro e w5 ⟨rfl,rfl⟩)
      |(go_at_call 24;refine (fP [qO ⟨a2,s2,m2,f2⟩,dO (decide (a2<=a1)) 7] _ _ _ _ (Blk.at_ _ rfl _ _) (by simp)).mono ?_;rintro e w6 ⟨rfl,rfl⟩))
    all_goals
     go_wp2_with fail
     go_ret
     exact ⟨cL (Hfin.out _ D),grow_alloc (grow_trans (pY hgw) hg4) _⟩
 ·have hne:(E1 !=0)=true:=by simpa using hE0
  have HR:=Lib.hid (Hstop.out hE0)
  clear hE0
  go_wp2_with fail
  go_ret
  exact ⟨cL HR.out.symm,hgw⟩
theorem eJ6{fr:Int}{l:List Lg}{k:Nat}{g:Lg}(h:l[k]?=some g):
 bR5 fr l (l.length - k)=if cG1 fr (prevOf l k) (decide (k+1=l.length)) g=0 then bR5 fr l (l.length - (k+1)) else cG1 fr (prevOf l k) (decide (k+1=l.length)) g:=by
 have hk:=(List.getElem?_eq_some_iff.1 h).1
 obtain ⟨m,hm⟩:∃m,l.length - k=m+1:=⟨l.length - k - 1,G⟩
 have hm2:l.length - (k+1)=m:=G
 have hm3:l.length - (m+1)=k:=G
 rw [hm,hm2]
 simp only [bR5,hm3,h]
 have:decide (m=0)=decide (k+1=l.length):=by
  by_cases h:k+1=l.length <;> simp [h] <;> omega
 rw [this]
def HrOk(key driver:M)(l:List Lg):Prop:=key.size<=1000000/\driver.size<=1000000/\∀g∈l,dS1 g
theorem dO2{key driver:M}{fr to_:Int}{l:List Lg}{e:Int}(h:e=dK [dO (!keyB key|| !keyB driver) 5,bO0 fr to_])(hne:e≠0):hireE ⟨key,driver,fr,to_,l⟩=e:=by
 unfold hireE
 simp only [dK] at h ⊢
 split
 ·rename_i h1
  rw [if_pos h1] at h
  split
  ·rename_i h2
   rw [if_pos h2] at h
   exact absurd h hne
  ·rename_i h2
   rw [if_neg h2] at h
   exact h.symm
 ·rename_i h1
  rw [if_neg h1] at h
  exact h.symm
theorem dC2(X:Int):dK [0,0,X]=X:=by
 show dK [X]=X
 by_cases h:X=0
 ·rw [h];rfl
 ·simp [dK,h]
theorem dN2{key driver:M}{fr to_:Int}{l:List Lg}(h:0=dK [dO (!keyB key|| !keyB driver) 5,bO0 fr to_]):hireE ⟨key,driver,fr,to_,l⟩=if l.length=0 then 3 else if 20 < l.length then 2 else bR5 fr l l.length:=by
 have:=uZ h.symm
 unfold hireE
 simp only [this.1,this.2]
 exact dC2 _
theorem hcheck_any(key driver:M)(fr to_:Int)(l:List Lg)(A:Option Addr)(n c:Nat)(w:World)(hl:SlT lgEnc 9 269 w A n l)(hok:HrOk key driver l)(hn:n<=1000000):
 Calls prog 232 #[.agg #[U key,U driver,J fr,J to_,H A n c]] w (nG w (hireE ⟨key,driver,fr,to_,l⟩)):=by
 obtain ⟨E1,hE1⟩:∃E,E=dK [dO (!keyB key|| !keyB driver) 5,bO0 fr to_]:=⟨_,rfl⟩
 have Hstop:=Lib.hid (fun (h:E1≠0)=>dO2 (l:=l) hE1 h)
 have Hpass:=Lib.hid (fun (h:E1=0)=>dN2 (l:=l) (h.symm.trans hE1))
 have Hl:=Lib.hid hl.len
 have cK:∀w,Calls prog 95 #[U key] w fun e w'=>e=.returned (.bool (keyB key))/\w'=w:=fun w=>nQ (isKey_any _ _ (by have:=hok.1;omega))
 have cD:∀w,Calls prog 95 #[U driver] w fun e w'=>e=.returned (.bool (keyB driver))/\w'=w:=fun w=>nQ (isKey_any _ _ (by have:=hok.2.1;omega))
 have Hok:=Lib.hid hok.2.2
 generalize keyB key=K at cK hE1
 generalize keyB driver=D' at cD hE1
 obtain ⟨R,hR⟩:∃R,R=hireE ⟨key,driver,fr,to_,l⟩:=⟨_,rfl⟩
 rw [<-hR] at Hstop Hpass ⊢
 have CK:=Lib.hid cK
 have CD:=Lib.hid cD
 have HE1:=Lib.hid hE1
 clear cK cD hE1 hR hok
 obtain ⟨T,hT⟩:∃T,T=bO0 fr to_:=⟨_,rfl⟩
 have cT:∀w,Calls prog 251 #[.agg #[J fr,J to_]] w (nG w T):=fun w=>by rw [hT];exact eV3 _ _ _
 have CT:=Lib.hid cT
 rw [<-hT] at HE1
 clear cT hT
 go_enter func232,ntmps232
 go_wp2_with fail
 have hB:Blk (w.alloc (.cells #[U key,U driver,J fr,J to_,H A n c] 262)) w.heap.size 262 [U key,U driver,J fr,J to_,H A n c]:=Blk.at_ w rfl _ _
 have k0:=hB.cell_of (i:=0) (v:=U key) rfl
 have k1:=hB.cell_of (i:=1) (v:=U driver) rfl
 have k2:=hB.cell_of (i:=2) (v:=J fr) rfl
 have k3:=hB.cell_of (i:=3) (v:=J to_) rfl
 go_upto_region 1 with fail
 go_cut [3] (fun v wx=>v=J E1/\(w.alloc (.cells #[U key,U driver,J fr,J to_,H A n c] 262)).grownBy wx none)
 case first=>
  cases K
  ·first|go_region_with (first
    |(go_at_call 251;refine (CT.out _).mono ?_;rintro e w4 ⟨rfl,hg4⟩)
    |(go_at_call 95;with_reducible refine (CK.out _).mono ?_;rintro e w3 ⟨rfl,rfl⟩)
    |(go_at_call 95;with_reducible refine (CD.out _).mono ?_;rintro e w3 ⟨rfl,rfl⟩)
    |(go_at_call 26;refine (eH _ _ _).mono ?_;rintro e w5 ⟨rfl,rfl⟩)
    |(go_at_call 24;refine (fP [dO true 5,T] _ _ _ _ (Blk.at_ _ rfl _ _) (by simp)).mono ?_;rintro e w6 ⟨rfl,rfl⟩))|fail
   all_goals
    go_wp2_with fail
    go_meet
    exact ⟨dU5 (by rw [HE1.out];rfl),grow_alloc (grow_trans (pY (World.grownBy.refl _ _)) hg4) _⟩
  ·go_region_held3 (fun wx=>wx.cell? ⟨w.heap.size,0,none⟩=some (U key)/\wx.cell? ⟨w.heap.size,1,none⟩=some (U driver)/\wx.cell? ⟨w.heap.size,2,none⟩=some (J fr)/\wx.cell? ⟨w.heap.size,3,none⟩=some (J to_))
    (first
     |exact ⟨k0,k1,k2,k3⟩
     |exact q4
     |exact q5 _)
    (first
     |(go_at_call 251;refine (CT.out _).mono ?_;rintro e w4 ⟨rfl,hg4⟩;have hb2:=(hB.drewN 1).grown hg4 (by simp);have q5:=fun o=>And.intro ((hb2.alloc o).cell_of (i:=0) (v:= .string key) rfl) (And.intro ((hb2.alloc o).cell_of (i:=1) (v:= .string driver) rfl) (And.intro ((hb2.alloc o).cell_of (i:=2) (v:= .int .i64 fr) rfl) ((hb2.alloc o).cell_of (i:=3) (v:= .int .i64 to_) rfl)));have q4:=And.intro (hb2.cell_of (i:=0) (v:= .string key) rfl) (And.intro (hb2.cell_of (i:=1) (v:= .string driver) rfl) (And.intro (hb2.cell_of (i:=2) (v:= .int .i64 fr) rfl) (hb2.cell_of (i:=3) (v:= .int .i64 to_) rfl))))
     |(go_at_call 95;with_reducible refine (CK.out _).mono ?_;rintro e w3 ⟨rfl,rfl⟩)
     |(go_at_call 95;with_reducible refine (CD.out _).mono ?_;rintro e w3 ⟨rfl,rfl⟩)
     |(go_at_call 26;refine (eH _ _ _).mono ?_;rintro e w5 ⟨rfl,rfl⟩)
     |(go_at_call 24;refine (fP [dO (!D') 5,T] _ _ _ _ (Blk.at_ _ rfl _ _) (by simp)).mono ?_;rintro e w6 ⟨rfl,rfl⟩))
   all_goals
    go_wp2_with fail
    go_meet
    exact ⟨dU5 (by rw [HE1.out];rfl),grow_alloc (grow_trans (pY (World.grownBy.refl _ _)) hg4) _⟩
 case rest=>
  obtain ⟨rfl,hg1⟩:=hcut
  obtain ⟨w1,hw1⟩:∃w1:World,w1=wc:=⟨_,rfl⟩
  rw [<-hw1] at hg1 ⊢
  clear hw1 k0 k1 k2 k3
  have hb:=hB.grown hg1 (by simp)
  have hgw:w.grownBy w1 none:=grow_trans (grow_alloc (World.grownBy.refl _ _) _) hg1
  clear hg1 hB
  by_cases h0:E1=0
  ·have HP:=Lib.hid (Hpass.out h0)
   subst h0
   have k4:=hb.cell_of (i:=4) (v:=H A n c) rfl
   by_cases hn0:n=0
   ·have hq:((n:Int)==0)=true:=by simpa using hn0
    have HF:=Lib.hid (show R=3 by rw [HP.out,if_pos (by rw [Hl.out];exact hn0)])
    clear hn0
    go_wp2_with fail
    go_ret
    exact ⟨cL HF.out.symm,hgw⟩
   ·have hq:((n:Int)==0)=false:=by simpa using hn0
    by_cases h20:20 < n
    ·have hq2:decide ((20:Int) < (n:Int))=true:=by simp;omega
     have hq3:decide (20 < n)=true:=by simpa using h20
     have HF:=Lib.hid (show R=2 by rw [HP.out,if_neg (by rw [Hl.out];exact hn0),if_pos (by rw [Hl.out];exact h20)])
     clear hn0
     go_wp2_with fail
     go_ret
     exact ⟨cL HF.out.symm,hgw⟩
    ·have hq2:decide ((20:Int) < (n:Int))=false:=by simp;omega
     have hq3:decide (20 < n)=false:=by simpa using h20
     have HF:=Lib.hid (show R=bR5 fr l (l.length - 0) by rw [HP.out,if_neg (by rw [Hl.out];exact hn0),if_neg (by rw [Hl.out];exact h20)];rfl)
     clear hn0 HP
     have hn20:n<=20:=G
     go_wp2_with fail
     go_loopw [38] (fun i wr=>∃k:Nat,k<=n/\i=J k/\R=bR5 fr l (l.length - k)/\w1.grownBy wr none) (fun i _=>n - (intOf i).toNat)
     case atStart=>exact ⟨0,Nat.zero_le _,rfl,HF.out,World.grownBy.refl _ _⟩
     case round=>
      obtain ⟨k,hk,rfl,hE,hgr⟩:=hrel
      have HE:=Lib.hid hE;clear hE
      by_cases hlt:k < n
      ·have hlr:=hl.grow0 (grow_trans hgw hgr)
       obtain ⟨g,hg⟩:∃g,l[k]?=some g:=⟨_,fY9 (by have:=Hl.out;omega)⟩
       have hat:=eJ6 (fr:=fr) hg
       obtain ⟨E,hEE⟩:∃E,E=cG1 fr (prevOf l k) (decide (k+1=n)) g:=⟨_,rfl⟩
       rw [Hl.out,<-hEE] at hat
       rw [Hl.out] at HE
       have Hat:=Lib.hid hat;clear hat
       have HEE:=Lib.hid hEE;clear hEE
       have hbr:=hb.grown hgr (by simp)
       have c0:=hbr.cell_of (i:=0) (v:=U key) rfl
       have c1:=hbr.cell_of (i:=1) (v:=U driver) rfl
       have c2:=hbr.cell_of (i:=2) (v:=J fr) rfl
       have c3:=hbr.cell_of (i:=3) (v:=J to_) rfl
       have c4:=hbr.cell_of (i:=4) (v:=H A n c) rfl
       have Hg:=Lib.hid hg
       clear hg
       go_wp2_with fail
       refine (cS5 key driver fr to_ l A n c k g wr hlr Hg.out Hok.out hn).mono ?_
       rintro e w2 ⟨rfl,hg2⟩
       rw [<-HEE.out]
       by_cases hE0:E=0
       ·have HN:=Lib.hid (show R=bR5 fr l (n - (k+1)) by rw [HE.out,Hat.out,if_pos hE0])
        subst hE0
        go_wp2_with fail
        go_roundw
        case rel=>exact ⟨k+1,G,by go_num,by rw [HN.out,Hl.out],grow_trans hgr hg2⟩
        case measure=>simp [intOf];omega
       ·have hne:(E !=0)=true:=by simpa using hE0
        have HN:=Lib.hid (show R=E by rw [HE.out,Hat.out,if_neg hE0])
        clear hE0
        go_wp2_with fail
        go_ret
        exact ⟨cL HN.out.symm,grow_trans hgw (grow_trans hgr hg2)⟩
      ·have HN:=Lib.hid (show R=0 by rw [HE.out,Hl.out,show n - k=0 by omega];rfl)
       go_wp2_with fail
       go_ret
       exact ⟨cL HN.out.symm,grow_trans hgw hgr⟩
  ·have hne:(E1 !=0)=true:=by simpa using h0
   have HR:=Lib.hid (Hstop.out h0)
   clear h0
   go_wp2_with fail
   go_ret
   exact ⟨cL HR.out.symm,hgw⟩
def madeV(key driver:M)(fr to_:Int)(A:Option Addr)(n c:Nat)(e:Int):Value:=
 if e=0 then .agg #[U key,U driver,J fr,J to_,H A n c] else .agg #[U ⟨#[]⟩,U ⟨#[]⟩,J 0,J 0,H none 0 0]
def GotVE(w:World)(v:Value)(e:Int)(d:Ending)(w':World):Prop:=d= .returned (.tuple #[v,J e])/\w.grownBy w' none
theorem info_hr:(prog.info? 262).map (·.size)=some 5:=bC
theorem ret_blk_tmp{P:Program}{fn:Func}{R:Ending->World->Prop}{a:Act}{w:World}{p u:Tmp}{ty:TypeId}(h:fn.results=#[.cell p ty,.tmp u])(g:Nat)(t:TypeId)(cs:List Value)(d:TypeDesc)(hb:Blk w g t cs)
 (hp:a.tmps.getD p undef= .pointer (some ⟨g,0,none⟩)) (v:Value) (hv:a.tmps.getD u undef=v) (hu:P.underlying ty=some d) (hd:d.isRow=true) (n:Nat) (hi:(P.info? ty).map (·.size)=some n) (hn:cs.length=n) (hdf:a.defers= [])
 (hR:R (.returned (.tuple #[.agg cs.toArray,v])) w):bodyPost P fn R .ret a w:=by
 refine bodyPost_ret (?_:(results fn a.tmps).run P w= .ok (.tuple #[.agg cs.toArray,v]) w) hdf hR
 have hl:=run_loadVar_row (P:=P) w g t ty cs.toArray (0,0) d hb hu (by cases d <;> simp_all [TypeDesc.isRow]) (by simpa [hn] using hi)
 rw [results_cell_tmp h]
 simp only [hp,hv]
 simp only [asAddr,Sem.run_pure,Result.andThen_ok]
 rw [hl]
 rfl
theorem made_any(key driver : M)(fr to_ : Int)(l : List Lg)(A : Option Addr)(n c : Nat)(w : World)(hl : SlT lgEnc 9 269 w A n l)(hok : HrOk key driver l)(hn : n <= 1000000) :
    Calls prog 214 #[.agg #[U key,U driver,J fr,J to_,H A n c]] w (GotVE w (madeV key driver fr to_ A n c (hireE ⟨key, driver, fr, to_, l⟩)) (hireE ⟨key, driver, fr, to_, l⟩)) := by
  obtain ⟨E, hE⟩ : ∃ E, E = hireE ⟨key, driver, fr, to_, l⟩ := ⟨_, rfl⟩
  rw [<- hE]
  have HE := Lib.hid hE
  clear hE
  go_enter func214, ntmps214
  go_wp2_with fail
  refine (hcheck_any key driver fr to_ l A n c _ ((hl.alloc _).alloc _) hok hn).mono ?_
  rintro e w1 ⟨rfl, hg1⟩
  rw [<- HE.out]
  have hb1 : Blk w1 (w.heap.size + 1) 262 [U ⟨#[]⟩,U ⟨#[]⟩,J 0,J 0,H none 0 0] := (Blk.at_ (w.alloc _) (by simp) _ _).grown hg1 (by simp)
  have hb0 : Blk w1 w.heap.size 262 [U key,U driver,J fr,J to_,H A n c] := ((Blk.at_ w rfl _ _).alloc _).grown hg1 (by simp)
  have hgw : w.grownBy w1 none := grow_trans (grow_alloc (grow_alloc (World.grownBy.refl _ _) _) _) hg1
  have hz : ∀ k, some (w.heap.size + 1) = some k -> w.heap.size <= k := fun k h => by cases h; omega
  clear hg1
  by_cases h0 : E = 0
  · have HV := Lib.hid (show madeV key driver fr to_ A n c E = .agg #[U key,U driver,J fr,J to_,H A n c] by rw [h0]; rfl)
    subst h0
    go_wp2_with (first
      | (with_reducible refine wpList_load_all rfl 262 (.tmp 1) rfl w.heap.size _ _ _ hb0 rfl Tryz.underlying262 rfl 5 info_hr rfl ?_)
      | (with_reducible refine wpList_store_all rfl 262 (.tmp 2) (.tmp 11) rfl (w.heap.size + 1) _ _ [.string key, .string driver, .int .i64 fr, .int .i64 to_, .slice A n c] hb1 rfl rfl 5 info_hr rfl rfl (by simp [Value.oneCell']) ?_
         intro w2 hb2 hg2))
    refine ret_blk_tmp (p := 2) (u := 3) (ty := 262) rfl (w.heap.size + 1) _ _ _ hb2 rfl (J 0) rfl Tryz.underlying262 rfl 5 info_hr rfl rfl ?_
    exact ⟨by rw [HV.out], grow_own hgw hg2 hz⟩
  · have hne : (E != 0) = true := by simpa using h0
    have HV := Lib.hid (show madeV key driver fr to_ A n c E = .agg #[U ⟨#[]⟩,U ⟨#[]⟩,J 0,J 0,H none 0 0] by unfold madeV; rw [if_neg h0])
    clear h0
    go_wp2_with (first
      | (with_reducible refine wpList_store_all rfl 262 (.tmp 2) (.tmp 9) rfl (w.heap.size + 1) _ _ [.string ⟨#[]⟩, .string ⟨#[]⟩, .int .i64 0, .int .i64 0, .slice none 0 0] hb1 rfl rfl 5 info_hr rfl rfl (by simp [Value.oneCell']) ?_
         intro w2 hb2 hg2))
    refine ret_blk_tmp (p := 2) (u := 3) (ty := 262) rfl (w.heap.size + 1) _ _ _ hb2 rfl (J E) rfl Tryz.underlying262 rfl 5 info_hr rfl rfl ?_
    exact ⟨by rw [HV.out], grow_own hgw hg2 hz⟩
def startLeg(veh:M)(r:Rd):Lg:=⟨veh,r,⟨-1,⟨#[]⟩,0,0⟩⟩
theorem start_any(key driver : M)(fr to_ : Int)(veh : M)(r : Rd)(w : World)(hk : key.size <= 1000000)(hd : driver.size <= 1000000)(hv : veh.size <= 1000000)(hr : RdOk r) :
    Calls prog 180 #[U key,U driver, .agg #[J fr,J to_],U veh, .agg (rdCells r).toArray] w (fun e w' => ∃ A,
      e = .returned (.tuple #[madeV key driver fr to_ A 1 1 (hireE ⟨key, driver, fr, to_, [startLeg veh r]⟩),J (hireE ⟨key, driver, fr, to_, [startLeg veh r]⟩)]) /\ SlT lgEnc 9 269 w' A 1 [startLeg veh r] /\ w.grownBy w' none) := by
  obtain ⟨a1, s1, m1, f1⟩ := r
  have hok : HrOk key driver [startLeg veh ⟨a1, s1, m1, f1⟩] := ⟨hk, hd, fun g hg => by
    simp only [List.mem_singleton] at hg
    subst hg
    exact ⟨hv, hr, (by decide : (⟨#[]⟩ : M).size <= 1000000)⟩⟩
  show Calls prog 180 #[U key,U driver, .agg #[J fr,J to_],U veh, .agg #[J a1,U s1,J m1,J f1]] w _
  have Hok := Lib.hid hok
  clear hok
  obtain ⟨E, hE⟩ : ∃ E, E = hireE ⟨key, driver, fr, to_, [startLeg veh ⟨a1, s1, m1, f1⟩]⟩ := ⟨_, rfl⟩
  rw [<- hE]
  have HE := Lib.hid hE
  clear hE
  go_enter func180, ntmps180
  go_wp2_with fail
  refine (made_any key driver fr to_ [startLeg veh ⟨a1, s1, m1, f1⟩] (some ⟨w.heap.size + 3, 0, none⟩) 1 1 _ (SlT.ofBlk (l := [startLeg veh ⟨a1, s1, m1, f1⟩]) lg_len (Blk.at_ _ (by simp) _ _)) Hok.out G).mono ?_
  rintro e w1 ⟨rfl, hg1⟩
  rw [<- HE.out]
  clear HE Hok
  have hb1 : Blk w1 (w.heap.size + 2) 262 [U ⟨#[]⟩,U ⟨#[]⟩,J 0,J 0,H none 0 0] := ((Blk.at_ ((w.alloc _).alloc _) (by simp) _ _).alloc _).grown hg1 (by simp)
  have hl1 : SlT lgEnc 9 269 w1 (some ⟨w.heap.size + 3, 0, none⟩) 1 [startLeg veh ⟨a1, s1, m1, f1⟩] := (SlT.ofBlk (l := [startLeg veh ⟨a1, s1, m1, f1⟩]) lg_len (Blk.at_ (((w.alloc _).alloc _).alloc _) (by simp) _ _)).grow0 hg1
  have hgw : w.grownBy w1 none := grow_trans (grow_alloc (grow_alloc (grow_alloc (grow_alloc (World.grownBy.refl _ _) _) _) _) _) hg1
  have hz : ∀ k, some (w.heap.size + 2) = some k -> w.heap.size <= k := fun k h => by cases h; omega
  clear hg1
  by_cases h0 : E = 0
  · have hV : madeV key driver fr to_ (some ⟨w.heap.size + 3, 0, none⟩) 1 1 E = .agg #[U key,U driver,J fr,J to_,H (some ⟨w.heap.size + 3, 0, none⟩) 1 1] := by rw [h0]; rfl
    rw [hV]
    have HV := Lib.hid hV
    clear h0 hV
    go_wp2_with (first
      | (with_reducible refine wpList_store_all rfl 262 (.tmp 10) (.tmp 22) rfl (w.heap.size + 2) _ _ [.string key, .string driver, .int .i64 fr, .int .i64 to_, .slice (some ⟨w.heap.size + 3, 0, none⟩) 1 1] hb1 rfl rfl 5 info_hr rfl rfl (by simp [Value.oneCell']) ?_
         intro w2 hb2 hg2))
    refine ret_blk_tmp (p := 10) (u := 11) (ty := 262) rfl (w.heap.size + 2) _ _ _ hb2 rfl (J E) rfl Tryz.underlying262 rfl 5 info_hr rfl rfl ?_
    exact ⟨some ⟨w.heap.size + 3, 0, none⟩, by rw [HV.out], hl1.grown hg2 hb1 bD, grow_own hgw hg2 hz⟩
  · have hV : madeV key driver fr to_ (some ⟨w.heap.size + 3, 0, none⟩) 1 1 E = .agg #[U ⟨#[]⟩,U ⟨#[]⟩,J 0,J 0,H none 0 0] := by unfold madeV; rw [if_neg h0]
    rw [hV]
    have HV := Lib.hid hV
    clear h0 hV
    go_wp2_with (first
      | (with_reducible refine wpList_store_all rfl 262 (.tmp 10) (.tmp 22) rfl (w.heap.size + 2) _ _ [.string ⟨#[]⟩, .string ⟨#[]⟩, .int .i64 0, .int .i64 0, .slice none 0 0] hb1 rfl rfl 5 info_hr rfl rfl (by simp [Value.oneCell']) ?_
         intro w2 hb2 hg2))
    refine ret_blk_tmp (p := 10) (u := 11) (ty := 262) rfl (w.heap.size + 2) _ _ _ hb2 rfl (J E) rfl Tryz.underlying262 rfl 5 info_hr rfl rfl ?_
    exact ⟨some ⟨w.heap.size + 3, 0, none⟩, by rw [HV.out], hl1.grown hg2 hb1 bD, grow_own hgw hg2 hz⟩
theorem fA1(g:Lg):∀v∈lgEnc g,v.oneCell'=true:=by
 intro v hv
 simp [lgEnc,rdCells] at hv
 rcases hv with rfl|rfl|rfl|rfl|rfl|rfl|rfl|rfl|rfl <;> rfl
def openB(l:List Lg):Bool:=
 match l[l.length - 1]? with
 |some g=>g.inn.at_== -1
 |none=>false
theorem open_any(key driver:M)(fr to_:Int)(l:List Lg)(A:Option Addr)(n c:Nat)(w:World)(hl:SlT lgEnc 9 269 w A n l)(hn0:0 < n)(hn:n<=1000000):
 Calls prog 233 #[.agg #[U key,U driver,J fr,J to_,H A n c]] w (fun e w'=>e=.returned (.bool (openB l))/\w.grownBy w' none):=by
 have hlen:=hl.len
 obtain ⟨g,hg⟩:∃g,l[n - 1]?=some g:=⟨_,fY9 G⟩
 obtain ⟨b,off,rfl,hbl,hrg⟩:=hl.get hn0
 have HO:=Lib.hid (show openB l=(g.inn.at_== -1) by unfold openB;rw [hlen,hg])
 obtain ⟨veh,⟨a1,s1,m1,f1⟩,⟨a2,s2,m2,f2⟩⟩:=g
 have hr0:=hrg (n - 1) _ hg
 have hc:w.cell? ⟨b,off+(n - 1) *9+5,none⟩=some (J a2):=hr0 5 _ rfl
 have hc2:=fun o=>(World.cell?_of_block (a:=⟨b,off+(n - 1) *9+5,none⟩) (Below.heap_alloc w o b hbl)).trans hc
 have hki:(n:Int) - 1=((n - 1:Nat):Int):=G
 have hk1:(n:Int) - 1 < (n:Int):=G
 have hk0:(0:Int)<=(n:Int) - 1:=G
 clear hr0 hrg hc hg hlen hl
 go_enter func233,ntmps233
 go_wp2_with fail
 go_ret
 exact ⟨pG HO.out.symm,grow_alloc (World.grownBy.refl _ _) _⟩
theorem eF2:∃i z,prog.info? 269=some i/\i.zero=some z/\i.size=9/\i.bytes=96/\z.cells.size=9:=dR2 bC
theorem cloneLegs_any(l:List Lg)(A:Option Addr)(n c:Nat)(w:World)(hl:SlT lgEnc 9 269 w A n l)(hn0:0 < n)(hn:n<=1000000):
 Calls prog 234 #[H A n c] w (fun e w'=>∃g c',e=.returned (H (some ⟨g,0,none⟩) n c')/\OwnT lgEnc 9 269 w' w.heap.size g n c' l/\w.grownBy w' none):=by
 obtain ⟨b,off,rfl,hbl,hfl⟩:=hl.flat lg_len hn0
 have hlen:=hl.len
 obtain ⟨i0,z0,hi,hz,hsz,hby,hzs⟩:=eF2
 have hnews:∀(o:Obj) j u,(l.flatMap lgEnc)[j]?=some u->(w.alloc o).cell? ((⟨b,off,none⟩:Addr).add j)=some u:=fun o j u hj=>
  (World.cell?_of_block (Below.heap_alloc w o _ (by unfold Addr.add;split <;> exact hbl))).trans (hfl j u hj)
 have hone:=cH9 lgEnc fA1 l
 have hll:=bC5 lgEnc 9 lg_len l
 rw [hlen] at hll
 clear hfl hl
 have Hnews:=Lib.hid hnews
 clear hnews
 have he:∀w:World,(binOp .eql 260 (H (some ⟨b,off,none⟩) n c) (H none 0 0)).run prog w= .ok (.bool false) w:=fun _=>rfl
 go_enter func234,ntmps234
 go_wp2_with (at_builtin;refine wpList_append_own_at _ rfl _ _ 260 rfl w.heap.size 269 i0 z0 9 96 Tryz.underlying260 hi hz hsz hby hzs bD (H (some ⟨w.heap.size,0,none⟩) 0 0) 0 [] rfl ⟨rfl,.inr ⟨w.heap.size,0,#[],rfl,Nat.le_refl _,heap_alloc_new w _,Nat.le_refl _,bD,rfl,rfl⟩⟩ ⟨b,off,none⟩ n c (l.flatMap lgEnc) rfl hll (Hnews.out _) hone (by unfold maxLen;omega) G (by simp) ?_;intro v' w' hown hgrow hnil hat)
 rw [Nat.zero_add,List.nil_append] at hown
 have hown2:=hown
 obtain ⟨_,ho⟩:=hown2
 rcases ho with ⟨_,h0⟩|⟨g,eX,uY,rfl,hg,_⟩
 ·omega
 ·go_ret
  exact ⟨g,eX,D,⟨hg,hown⟩,grow_own (grow_alloc (World.grownBy.refl _ _) _) hgrow (fun k h=>by cases h;exact Nat.le_refl _)⟩
def goingE(h:Hr):Int:=if hireE h=0 then (if openB h.legs then 0 else 11) else hireE h
def noHire:Value:= .agg #[U ⟨#[]⟩,U ⟨#[]⟩,J 0,J 0,H none 0 0]
theorem hireE_legs{h:Hr}(hh:hireE h=0):0 < h.legs.length/\h.legs.length<=20:=by
 obtain ⟨key,driver,fr,to_,l⟩:=h
 unfold hireE at hh
 by_cases h1:l.length=0
 ·exfalso
  simp only [h1,if_true] at hh
  revert hh
  generalize dO (!keyB key|| !keyB driver) 5=x
  generalize bO0 fr to_=y
  intro hh
  by_cases hx:x=0 <;> by_cases hy:y=0 <;> simp [dK,hx,hy] at hh
 ·by_cases h2:20 < l.length
  ·exfalso
   simp only [h1,h2,if_true,if_false] at hh
   revert hh
   generalize dO (!keyB key|| !keyB driver) 5=x
   generalize bO0 fr to_=y
   intro hh
   by_cases hx:x=0 <;> by_cases hy:y=0 <;> simp [dK,hx,hy] at hh
  ·show 0 < l.length/\l.length<=20
   omega
theorem going_any(key driver : M)(fr to_ : Int)(l : List Lg)(A : Option Addr)(n c : Nat)(w : World)(hl : SlT lgEnc 9 269 w A n l)(hok : HrOk key driver l)(hn : n <= 1000000) :
    Calls prog 215 #[.agg #[U key,U driver,J fr,J to_,H A n c]] w (fun e w' => w.grownBy w' none /\
      ((goingE ⟨key, driver, fr, to_, l⟩ = 0 /\ ∃ g c', e = .returned (.tuple #[.agg #[U key,U driver,J fr,J to_,H (some ⟨g, 0, none⟩) n c'],J 0]) /\ OwnT lgEnc 9 269 w' w.heap.size g n c' l) ∨
       (goingE ⟨key, driver, fr, to_, l⟩ ≠ 0 /\ e = .returned (.tuple #[noHire,J (goingE ⟨key, driver, fr, to_, l⟩)])))) := by
  obtain ⟨E, hE⟩ : ∃ E, E = hireE ⟨key, driver, fr, to_, l⟩ := ⟨_, rfl⟩
  obtain ⟨G', hG⟩ : ∃ G', G' = goingE ⟨key, driver, fr, to_, l⟩ := ⟨_, rfl⟩
  rw [<- hG]
  have HE := Lib.hid hE
  have HG := Lib.hid hG
  clear hE hG
  go_enter func215, ntmps215
  go_wp2_with fail
  refine (hcheck_any key driver fr to_ l A n c _ ((hl.alloc _).alloc _) hok hn).mono ?_
  rintro e w1 ⟨rfl, hg1⟩
  rw [<- HE.out]
  have hb1 : Blk w1 (w.heap.size + 1) 262 [U ⟨#[]⟩,U ⟨#[]⟩,J 0,J 0,H none 0 0] := (Blk.at_ (w.alloc _) (by simp) _ _).grown hg1 (by simp)
  have hb0 : Blk w1 w.heap.size 262 [U key,U driver,J fr,J to_,H A n c] := ((Blk.at_ w rfl _ _).alloc _).grown hg1 (by simp)
  have hgw : w.grownBy w1 none := grow_trans (grow_alloc (grow_alloc (World.grownBy.refl _ _) _) _) hg1
  have hz : ∀ k, some (w.heap.size + 1) = some k -> w.heap.size <= k := fun k h => by cases h; omega
  clear hg1
  by_cases h0 : E = 0
  · have hlen := hireE_legs (HE.out.symm.trans h0)
    have hn0 : 0 < n := by have := hl.len; exact this ▸ hlen.1
    obtain ⟨O, hO⟩ : ∃ O, O = openB l := ⟨_, rfl⟩
    have HGO := Lib.hid (show G' = if O then 0 else 11 by rw [HG.out]; unfold goingE; rw [if_pos (HE.out.symm.trans h0), hO])
    have cO : ∀ w' : World, w.grownBy w' none -> Calls prog 233 #[.agg #[U key,U driver,J fr,J to_,H A n c]] w' (fun e w'' => e = .returned (.bool O) /\ w'.grownBy w'' none) := fun w' hg => by
      rw [hO]
      exact open_any key driver fr to_ l A n c w' (hl.grow0 hg) hn0 hn
    have CO := Lib.hid cO
    clear hlen hO cO
    subst h0
    go_wp2_with (with_reducible refine wpList_load_all rfl 262 (.tmp 1) rfl w.heap.size _ _ _ hb0 rfl Tryz.underlying262 rfl 5 info_hr rfl ?_)
    refine (CO.out _ hgw).mono ?_
    rintro e w2 ⟨rfl, hg2⟩
    have hb0 := hb0.grown hg2 (by simp)
    have hb1 := hb1.grown hg2 (by simp)
    have hgw := grow_trans hgw hg2
    clear hg2
    cases O
    · have HF := Lib.hid (show G' = 11 from HGO.out)
      go_wp2_with (first
        | (with_reducible refine wpList_store_all rfl 262 (.tmp 2) (.tmp 14) rfl (w.heap.size + 1) _ _ [.string ⟨#[]⟩, .string ⟨#[]⟩, .int .i64 0, .int .i64 0, .slice none 0 0] hb1 rfl rfl 5 info_hr rfl rfl (by simp [Value.oneCell']) ?_
           intro w3 hb3 hg3))
      refine ret_blk_tmp (p := 2) (u := 3) (ty := 262) rfl (w.heap.size + 1) _ _ _ hb3 rfl (J 11) rfl Tryz.underlying262 rfl 5 info_hr rfl rfl ?_
      exact ⟨grow_own hgw hg3 hz, .inr ⟨by rw [HF.out]; decide, by rw [HF.out]; rfl⟩⟩
    · have HF := Lib.hid (show G' = 0 from HGO.out)
      have c3 := hb0.cell_of (i := 4) (v :=H A n c) rfl
      have f3 := hb0.frozen 4
      go_wp2_with fail
      refine (cloneLegs_any l A n c _ (hl.grow0 hgw) hn0 hn).mono ?_
      rintro e w3 ⟨g, c', rfl, hown, hg3⟩
      have hz2 := hb1.lt
      have hz3 := hown.1
      have hl3 := hown.lt
      have hb0 := hb0.grown hg3 (by simp)
      have hb1 := hb1.grown hg3 (by simp)
      have hgw := grow_trans hgw hg3
      have c4 := hb0.cell_of (i := 4) (v :=H A n c) rfl
      have f4 := hb0.frozen 4
      have hbS : Blk (w3.setCell ⟨w.heap.size, 4, none⟩ (H (some ⟨g, 0, none⟩) n c')) w.heap.size 262 [U key,U driver,J fr,J to_,H (some ⟨g, 0, none⟩) n c'] := hb0.set_ 4 _
      have hb1S : Blk (w3.setCell ⟨w.heap.size, 4, none⟩ (H (some ⟨g, 0, none⟩) n c')) (w.heap.size + 1) 262 [U ⟨#[]⟩,U ⟨#[]⟩,J 0,J 0,H none 0 0] := hb1.far (by simp) _
      have hgS : w.grownBy (w3.setCell ⟨w.heap.size, 4, none⟩ (H (some ⟨g, 0, none⟩) n c')) none := grow_setCell hgw (.inr (Nat.le_refl _)) _
      have hkeep : (w3.setCell ⟨w.heap.size, 4, none⟩ (H (some ⟨g, 0, none⟩) n c')).heap[g]? = w3.heap[g]? := Below.heap_setCell w3 _ _ g (by simp; omega)
      have hlS : g < (w3.setCell ⟨w.heap.size, 4, none⟩ (H (some ⟨g, 0, none⟩) n c')).heap.size := by simpa [World.setCell] using hl3
      clear c3 f3 hg3
      go_wp2_with (first
        | (with_reducible refine wpList_load_all rfl 262 (.tmp 1) rfl w.heap.size _ _ _ hbS rfl Tryz.underlying262 rfl 5 info_hr rfl ?_)
        | (with_reducible refine wpList_store_all rfl 262 (.tmp 2) (.tmp 19) rfl (w.heap.size + 1) _ _ [.string key, .string driver, .int .i64 fr, .int .i64 to_, .slice (some ⟨g, 0, none⟩) n c'] hb1S rfl rfl 5 info_hr rfl rfl (by simp [Value.oneCell']) ?_
           intro w4 hb4 hg4))
      refine ret_blk_tmp (p := 2) (u := 3) (ty := 262) rfl (w.heap.size + 1) _ _ _ hb4 rfl (J 0) rfl Tryz.underlying262 rfl 5 info_hr rfl rfl ?_
      exact ⟨grow_own hgS hg4 hz, .inl ⟨HF.out, g, c', rfl, hown.kept ((hg4.block g hlS (fun h => absurd (Option.some.inj h) G)).trans hkeep) G⟩⟩
  · have hne : (E != 0) = true := by simpa using h0
    have HF := Lib.hid (show G' = E by rw [HG.out]; unfold goingE; rw [if_neg (fun h => h0 (HE.out.trans h)), HE.out])
    have HN := Lib.hid h0
    clear h0
    go_wp2_with (first
      | (with_reducible refine wpList_store_all rfl 262 (.tmp 2) (.tmp 9) rfl (w.heap.size + 1) _ _ [.string ⟨#[]⟩, .string ⟨#[]⟩, .int .i64 0, .int .i64 0, .slice none 0 0] hb1 rfl rfl 5 info_hr rfl rfl (by simp [Value.oneCell']) ?_
         intro w2 hb2 hg2))
    refine ret_blk_tmp (p := 2) (u := 3) (ty := 262) rfl (w.heap.size + 1) _ _ _ hb2 rfl (J E) rfl Tryz.underlying262 rfl 5 info_hr rfl rfl ?_
    exact ⟨grow_own hgw hg2 hz, .inr ⟨by rw [HF.out]; exact HN.out, by rw [HF.out]; rfl⟩⟩
def endLegs(l:List Lg)(r:Rd):List Lg:=
 match l[l.length - 1]? with
 |some g=>l.set (l.length - 1) ⟨g.veh,g.out,r⟩
 |none=>l
def closeE(h:Hr)(r:Rd):Int:=if goingE h=0 then hireE ⟨h.key,h.driver,h.fr,h.to_,endLegs h.legs r⟩ else goingE h
theorem info_rd:(prog.info? 267).map (·.size)=some 4:=bC
theorem goingE_ok{h:Hr}(hg:goingE h=0):hireE h=0/\openB h.legs=true:=by
 unfold goingE at hg
 by_cases h0:hireE h=0
 ·rw [if_pos h0] at hg
  refine ⟨h0,?_⟩
  by_cases ho:openB h.legs=true
  ·exact ho
  ·rw [if_neg ho] at hg;cases hg
 ·rw [if_neg h0] at hg;exact absurd hg h0
theorem end_ok{l:List Lg}{r:Rd}(h:∀g∈l,dS1 g)(hr:RdOk r):∀g∈endLegs l r,dS1 g:=by
 unfold endLegs
 cases hl:l[l.length - 1]? with
 |none=>exact h
 |some g=>
  intro x hx
  rcases List.mem_or_eq_of_mem_set hx with hx|rfl
  ·exact h x hx
  ·have:=h g (fZ9 hl)
   exact ⟨this.1,this.2.1,hr⟩
theorem close_any(key driver : M)(fr to_ : Int)(l : List Lg)(A : Option Addr)(n c : Nat)(r : Rd)(w : World)(hl : SlT lgEnc 9 269 w A n l)(hok : HrOk key driver l)(hr : RdOk r)(hn : n <= 1000000) :
    Calls prog 182 #[.agg #[U key,U driver,J fr,J to_,H A n c], .agg (rdCells r).toArray] w (fun e w' => w.grownBy w' none /\
      ∃ A' c', e = .returned (.tuple #[madeV key driver fr to_ A' n c' (closeE ⟨key, driver, fr, to_, l⟩ r),J (closeE ⟨key, driver, fr, to_, l⟩ r)]) /\ (closeE ⟨key, driver, fr, to_, l⟩ r = 0 -> SlT lgEnc 9 269 w' A' n (endLegs l r))) := by
  obtain ⟨E, hE⟩ : ∃ E, E = closeE ⟨key, driver, fr, to_, l⟩ r := ⟨_, rfl⟩
  obtain ⟨G', hG⟩ : ∃ G', G' = goingE ⟨key, driver, fr, to_, l⟩ := ⟨_, rfl⟩
  rw [<- hE]
  have HE := Lib.hid hE
  have HG := Lib.hid hG
  have Hok := Lib.hid hok
  have Hend := Lib.hid (end_ok hok.2.2 hr)
  have hlen := hl.len
  clear hE hG hok
  obtain ⟨at_, st, me, fu⟩ := r
  show Calls prog 182 #[.agg #[U key,U driver,J fr,J to_,H A n c], .agg #[J at_,U st,J me,J fu]] w _
  go_enter func182, ntmps182
  go_wp2_with fail
  refine (going_any key driver fr to_ l A n c _ (((hl.alloc _).alloc _).alloc _) Hok.out hn).mono ?_
  rintro e w1 ⟨hg1, hcase⟩
  have hbA : Blk w1 w.heap.size 262 [U key,U driver,J fr,J to_,H A n c] := (((Blk.at_ w rfl _ _).alloc _).alloc _).grown hg1 (by simp)
  have hbB : Blk w1 (w.heap.size + 1) 267 [J at_,U st,J me,J fu] := ((Blk.at_ (w.alloc _) (by simp) _ _).alloc _).grown hg1 (by simp)
  have hbC : Blk w1 (w.heap.size + 2) 262 [U ⟨#[]⟩,U ⟨#[]⟩,J 0,J 0,H none 0 0] := (Blk.at_ ((w.alloc _).alloc _) (by simp) _ _).grown hg1 (by simp)
  have hgw : w.grownBy w1 none := grow_trans (grow_alloc (grow_alloc (grow_alloc (World.grownBy.refl _ _) _) _) _) hg1
  have hzA : ∀ k, some w.heap.size = some k -> w.heap.size <= k := fun k h => by cases h; omega
  have hzC : ∀ k, some (w.heap.size + 2) = some k -> w.heap.size <= k := fun k h => by cases h; omega
  clear hg1
  rw [<- HG.out] at hcase
  rcases hcase with ⟨hG0, g, c', rfl, hown⟩ | ⟨hG0, rfl⟩
  · have hgo := goingE_ok (HG.out.symm.trans hG0)
    have hn0 : 0 < n := by have := (hireE_legs hgo.1).1; exact hlen ▸ this
    have HEE := Lib.hid (show E = hireE ⟨key, driver, fr, to_, endLegs l ⟨at_, st, me, fu⟩⟩ by rw [HE.out]; unfold closeE; rw [if_pos (HG.out.symm.trans hG0)])
    subst hG0
    clear hgo
    have hgz : w.heap.size + 3 <= g := by have := hown.1; simp at this; omega
    have hgl := hown.lt
    obtain ⟨cs, hbg, hcs, htk⟩ := hown.blk
    have Htk := Lib.hid htk
    clear htk hown
    obtain ⟨x, hx⟩ : ∃ x, l[n - 1]? = some x := ⟨_, fY9 G⟩
    have Hx := Lib.hid hx
    have HL := Lib.hid (show endLegs l ⟨at_, st, me, fu⟩ = l.set (n - 1) ⟨x.veh, x.out, ⟨at_, st, me, fu⟩⟩ by unfold endLegs; rw [hlen, hx])
    have hfit : (n - 1) * 9 + 5 + 4 <= cs.length := by omega
    have hki : (n : Int) - 1 = ((n - 1 : Nat) : Int) := by omega
    have hk1 : (n : Int) - 1 < (n : Int) := by omega
    clear hx
    go_wp2_with (first
      | (with_reducible refine wpList_store_all rfl 262 (.tmp 2) (.tmp 10) rfl w.heap.size _ _ [.string key, .string driver, .int .i64 fr, .int .i64 to_, .slice (some ⟨g, 0, none⟩) n c'] hbA rfl rfl 5 info_hr rfl rfl (by simp [Value.oneCell']) ?_
         intro w2 hbA2 hg2
         have k4 := hbA2.cell_of (i := 4) (v :=H (some ⟨g, 0, none⟩) n c') rfl
         have hbB2 := hbB.grown hg2 (fun h => absurd (Option.some.inj h) G)
         have b0 := hbB2.cell_of (i := 0) (v :=J at_) rfl
         have b1 := hbB2.cell_of (i := 1) (v :=U st) rfl
         have b2 := hbB2.cell_of (i := 2) (v :=J me) rfl
         have b3 := hbB2.cell_of (i := 3) (v :=J fu) rfl
         have hbg2 := hbg.grown hg2 (fun h => absurd (Option.some.inj h) G))
      | (with_reducible refine wpList_store_blk rfl 267 (.tmp 24) (.tmp 22) rfl g ((n - 1) * 9 + 5) _ cs [.int .i64 at_, .string st, .int .i64 me, .int .i64 fu] hbg2 rfl rfl 4 info_rd rfl hfit (by simp [Value.oneCell']) ?_
         intro w3 hbg3 hg3
         have hbA3 := hbA2.grown hg3 (fun h => absurd (Option.some.inj h) G))
      | (with_reducible refine wpList_load_all rfl 262 (.tmp 2) rfl w.heap.size _ _ _ hbA3 rfl Tryz.underlying262 rfl 5 info_hr rfl ?_))
    have hsl : SlT lgEnc 9 269 w3 (some ⟨g, 0, none⟩) n (endLegs l ⟨at_, st, me, fu⟩) := by
      rw [HL.out]
      exact SlT.spliced lg_len hcs Htk.out hlen (r := 5) (vs := [J at_,U st,J me,J fu]) Hx.out rfl (by simp) hbg3
    have hz2 := hbC.lt
    have hgw2 := grow_own hgw hg2 hzA
    have hgw3 := grow_own hgw2 hg3 (fun k h => by cases h; omega)
    have hbC3 := (hbC.grown hg2 (fun h => absurd (Option.some.inj h) G)).grown hg3 (fun h => absurd (Option.some.inj h) G)
    clear hbA hbB hbC hbg hg2 hg3 hgw hgw2 hbA2 hbA3 hbB2 b0 b1 b2 b3 k4 hbg2 hbg3
    refine (made_any key driver fr to_ (endLegs l ⟨at_, st, me, fu⟩) (some ⟨g, 0, none⟩) n c' w3 hsl ⟨Hok.out.1, Hok.out.2.1, Hend.out⟩ hn).mono ?_
    rintro e w4 ⟨rfl, hg4⟩
    rw [<- HEE.out]
    have hsl4 := hsl.grow0 hg4
    have hbC4 := hbC3.grown hg4 (by simp)
    have hgw4 := grow_trans hgw3 hg4
    clear hsl hbC3 hgw3 hg4
    by_cases h0 : E = 0
    · have hV : madeV key driver fr to_ (some ⟨g, 0, none⟩) n c' E = .agg #[U key,U driver,J fr,J to_,H (some ⟨g, 0, none⟩) n c'] := by rw [h0]; rfl
      rw [hV]
      have HV := Lib.hid hV
      clear h0 hV
      go_wp2_with (first
        | (with_reducible refine wpList_store_all rfl 262 (.tmp 4) (.tmp 27) rfl (w.heap.size + 2) _ _ [.string key, .string driver, .int .i64 fr, .int .i64 to_, .slice (some ⟨g, 0, none⟩) n c'] hbC4 rfl rfl 5 info_hr rfl rfl (by simp [Value.oneCell']) ?_
           intro w5 hb5 hg5))
      refine ret_blk_tmp (p := 4) (u := 5) (ty := 262) rfl (w.heap.size + 2) _ _ _ hb5 rfl (J E) rfl Tryz.underlying262 rfl 5 info_hr rfl rfl ?_
      exact ⟨grow_own hgw4 hg5 hzC, some ⟨g, 0, none⟩, c', by rw [HV.out], fun _ => hsl4.grown hg5 hbC4 bD⟩
    · have hV : madeV key driver fr to_ (some ⟨g, 0, none⟩) n c' E = .agg #[U ⟨#[]⟩,U ⟨#[]⟩,J 0,J 0,H none 0 0] := by unfold madeV; rw [if_neg h0]
      rw [hV]
      have HV := Lib.hid hV
      have H0 := Lib.hid h0
      clear h0 hV
      go_wp2_with (first
        | (with_reducible refine wpList_store_all rfl 262 (.tmp 4) (.tmp 27) rfl (w.heap.size + 2) _ _ [.string ⟨#[]⟩, .string ⟨#[]⟩, .int .i64 0, .int .i64 0, .slice none 0 0] hbC4 rfl rfl 5 info_hr rfl rfl (by simp [Value.oneCell']) ?_
           intro w5 hb5 hg5))
      refine ret_blk_tmp (p := 4) (u := 5) (ty := 262) rfl (w.heap.size + 2) _ _ _ hb5 rfl (J E) rfl Tryz.underlying262 rfl 5 info_hr rfl rfl ?_
      exact ⟨grow_own hgw4 hg5 hzC, some ⟨g, 0, none⟩, c', by rw [HV.out], fun h => absurd h H0.out⟩
  · have hne : (G' != 0) = true := by simpa using hG0
    have HEE := Lib.hid (show E = G' by rw [HE.out]; unfold closeE; rw [if_neg (fun h => hG0 (HG.out.trans h)), HG.out])
    rw [show noHire = .agg #[U ⟨#[]⟩,U ⟨#[]⟩,J 0,J 0,H none 0 0] from rfl]
    have hN := Lib.hid hG0
    have HV := Lib.hid (show madeV key driver fr to_ none n 0 E = .agg #[U ⟨#[]⟩,U ⟨#[]⟩,J 0,J 0,H none 0 0] by unfold madeV; rw [if_neg (by rw [HEE.out]; exact hG0)])
    clear hG0
    go_wp2_with (first
      | (with_reducible refine wpList_store_all rfl 262 (.tmp 2) (.tmp 10) rfl w.heap.size _ _ [.string ⟨#[]⟩, .string ⟨#[]⟩, .int .i64 0, .int .i64 0, .slice none 0 0] hbA rfl rfl 5 info_hr rfl rfl (by simp [Value.oneCell']) ?_
         intro w2 hbA2 hg2
         have hbC2 := hbC.grown hg2 (fun h => absurd (Option.some.inj h) G))
      | (with_reducible refine wpList_store_all rfl 262 (.tmp 4) (.tmp 14) rfl (w.heap.size + 2) _ _ [.string ⟨#[]⟩, .string ⟨#[]⟩, .int .i64 0, .int .i64 0, .slice none 0 0] hbC2 rfl rfl 5 info_hr rfl rfl (by simp [Value.oneCell']) ?_
         intro w3 hb3 hg3))
    refine ret_blk_tmp (p := 4) (u := 5) (ty := 262) rfl (w.heap.size + 2) _ _ _ hb3 rfl (J G') rfl Tryz.underlying262 rfl 5 info_hr rfl rfl ?_
    exact ⟨grow_own (grow_own hgw hg2 hzA) hg3 hzC, none, 0, by rw [HV.out, HEE.out], fun h => absurd (HEE.out.symm.trans h) hN.out⟩
def jI(l:List Lg)(r:Rd)(veh:M)(q:Rd):List Lg:=endLegs l r++ [startLeg veh q]
theorem dA5{l:List Lg}{r:Rd}{veh:M}{q:Rd}(h:∀g∈l,dS1 g)(hr:RdOk r)(hv:veh.size<=1000000)(hq:RdOk q):∀g∈jI l r veh q,dS1 g:=by
 intro g hg
 rcases List.mem_append.1 hg with hg|hg
 ·exact end_ok h hr g hg
 ·rw [List.mem_singleton.1 hg]
  exact ⟨hv,hq,(by decide:(⟨#[]⟩:M).size<=1000000)⟩
def bZ3(E:Int)(h:Hr):Hr:=if E=0 then h else ⟨⟨#[]⟩,⟨#[]⟩,0,0, []⟩
theorem bQ1{E:Int}{h:Hr}(h0:E=0):bZ3 E h=h:=if_pos h0
theorem eD6{E:Int}{h:Hr}(h0:¬E=0):bZ3 E h=⟨⟨#[]⟩,⟨#[]⟩,0,0, []⟩:=if_neg h0
def dT1(w:World)(E:Int)(h:Hr)(e:Ending)(w':World):Prop:=
 ∃A n c,e=.returned (.tuple #[.agg #[U (bZ3 E h).key,U (bZ3 E h).driver,J (bZ3 E h).fr,J (bZ3 E h).to_,H A n c],J E])/\w.grownBy w' none/\SlT lgEnc 9 269 w' A n (bZ3 E h).legs
theorem cU1{w w':World}{E:Int}{key driver:M}{fr to_:Int}{l:List Lg}{A:Option Addr}{n c:Nat}(h0:E=0)(hg:w.grownBy w' none)(hs:SlT lgEnc 9 269 w' A n l):
 dT1 w E ⟨key,driver,fr,to_,l⟩ (.returned (.tuple #[.agg #[U key,U driver,J fr,J to_,H A n c],J E])) w':=by
 refine ⟨A,n,c,?_,hg,?_⟩ <;> rw [bQ1 h0]
 exact hs
theorem bA6{w w':World}{E:Int}{h:Hr}(h0:¬E=0)(hg:w.grownBy w' none):
 dT1 w E h (.returned (.tuple #[.agg #[U ⟨#[]⟩,U ⟨#[]⟩,J 0,J 0,H none 0 0],J E])) w':=by
 refine ⟨none,0,0,?_,hg,?_⟩ <;> rw [eD6 h0]
 exact SlT.nil_ _ _
theorem fP5{w w':World}{E:Int}{key driver:M}{fr to_:Int}{l:List Lg}{A:Option Addr}{n c:Nat}{e:Ending}(hg:w.grownBy w' none)(hs:E=0->SlT lgEnc 9 269 w' A n l)(he:e=.returned (.tuple #[madeV key driver fr to_ A n c E,J E])):dT1 w E ⟨key,driver,fr,to_,l⟩ e w':=by
 subst he
 unfold madeV
 by_cases h0:E=0
 ·rw [if_pos h0];exact cU1 h0 hg (hs h0)
 ·rw [if_neg h0];exact bA6 h0 hg
theorem fG0(key driver:M)(fr to_:Int)(l:List Lg)(A:Option Addr)(n c:Nat)(r:Rd)(w:World)(hl:SlT lgEnc 9 269 w A n l)(hok:HrOk key driver l)(hr:RdOk r)(hn:n<=1000000):
 Calls prog 182 #[.agg #[U key,U driver,J fr,J to_,H A n c],.agg (rdCells r).toArray] w (dT1 w (closeE ⟨key,driver,fr,to_,l⟩ r) ⟨key,driver,fr,to_,endLegs l r⟩):=
 (close_any key driver fr to_ l A n c r w hl hok hr hn).mono fun _ _ ⟨hg,_,_,he,hs⟩=>fP5 hg hs he
theorem eK3(key driver:M)(fr to_:Int)(veh:M)(r:Rd)(w:World)(hk:key.size<=1000000)(hd:driver.size<=1000000)(hv:veh.size<=1000000)(hr:RdOk r):
 Calls prog 180 #[U key,U driver,.agg #[J fr,J to_],U veh,.agg (rdCells r).toArray] w (dT1 w (hireE ⟨key,driver,fr,to_, [startLeg veh r]⟩) ⟨key,driver,fr,to_, [startLeg veh r]⟩):=
 (start_any key driver fr to_ veh r w hk hd hv hr).mono fun _ _ ⟨_,he,hs,hg⟩=>fP5 hg (fun _=>hs) he
theorem eQ1(key driver:M)(fr to_:Int)(l:List Lg)(A:Option Addr)(n c:Nat)(w:World)(hl:SlT lgEnc 9 269 w A n l)(hok:HrOk key driver l)(hn:n<=1000000):
 Calls prog 215 #[.agg #[U key,U driver,J fr,J to_,H A n c]] w (fun e w'=>∃(k d:M) (f t:Int) (v:Value) (m:Nat) (xs:List Value),e=.returned (.tuple #[.agg #[U k,U d,J f,J t,v],J (goingE ⟨key,driver,fr,to_,l⟩)])/\
  (goingE ⟨key,driver,fr,to_,l⟩=0->key=k/\driver=d/\fr=f/\to_=t/\n=m/\l.flatMap lgEnc=xs)/\(¬goingE ⟨key,driver,fr,to_,l⟩=0->(⟨#[]⟩:M)=k/\(⟨#[]⟩:M)=d/\0=f/\0=t/\H none 0 0=v/\0=m/\ []=xs)/\w'.ownsRow w.heap.size 269 9 v m xs/\w.grownBy w' none):=by
 refine (going_any key driver fr to_ l A n c w hl hok hn).mono fun e w' ⟨hg,h⟩=>?_
 rcases h with ⟨h0,g,c',he,ho⟩|⟨h0,he⟩
 ·exact ⟨key,driver,fr,to_,_,n,_,by rw [h0];exact he,fun _=>⟨rfl,rfl,rfl,rfl,rfl,rfl⟩,fun h=>absurd h0 h,ho.2,hg⟩
 ·exact ⟨⟨#[]⟩,⟨#[]⟩,0,0,H none 0 0,0, [],he,fun h=>absurd h h0,fun _=>⟨D,D,D,D,D,D,D⟩,⟨D,.inl ⟨D,D⟩⟩,hg⟩
theorem cY9{key driver:M}{fr to_:Int}{l:List Lg}{A:Option Addr}{n c:Nat}{w:World}(hl:SlT lgEnc 9 269 w A n l)(hok:HrOk key driver l)(hn:n<=1000000)(h0:hireE ⟨key,driver,fr,to_,l⟩=0):
 Calls prog 214 #[.agg #[U key,U driver,J fr,J to_,H A n c]] w (fun e w'=>e=.returned (.tuple #[.agg #[U key,U driver,J fr,J to_,H A n c],J (hireE ⟨key,driver,fr,to_,l⟩)])/\w.grownBy w' none):=by
 refine (made_any key driver fr to_ l A n c w hl hok hn).mono fun e w' ⟨he,hg⟩=>⟨?_,hg⟩
 unfold madeV at he;rw [if_pos h0] at he;exact he
theorem dN5{key driver:M}{fr to_:Int}{l:List Lg}{A:Option Addr}{n c:Nat}{w:World}(hl:SlT lgEnc 9 269 w A n l)(hok:HrOk key driver l)(hn:n<=1000000)(h0:¬hireE ⟨key,driver,fr,to_,l⟩=0):
 Calls prog 214 #[.agg #[U key,U driver,J fr,J to_,H A n c]] w (fun e w'=>e=.returned (.tuple #[.agg #[U ⟨#[]⟩,U ⟨#[]⟩,J 0,J 0,H none 0 0],J (hireE ⟨key,driver,fr,to_,l⟩)])/\w.grownBy w' none):=by
 refine (made_any key driver fr to_ l A n c w hl hok hn).mono fun e w' ⟨he,hg⟩=>⟨?_,hg⟩
 unfold madeV at he;rw [if_neg h0] at he;exact he
def bA5(h:Hr)(to2:Int):Int:=if goingE h=0 then hireE ⟨h.key,h.driver,h.fr,to2,h.legs⟩ else goingE h
def cC9(h:Hr)(r:Rd)(veh:M)(q:Rd):Int:=if goingE h=0 then hireE ⟨h.key,h.driver,h.fr,h.to_,jI h.legs r veh q⟩ else goingE h
theorem eP5(key driver:M)(fr to_:Int)(l:List Lg)(A:Option Addr)(n c:Nat)(to2:Int)(w:World)(hl:SlT lgEnc 9 269 w A n l)(hok:HrOk key driver l)(hn:n<=1000000):
 Calls prog 181 #[.agg #[U key,U driver,J fr,J to_,H A n c],J to2] w (dT1 w (bA5 ⟨key,driver,fr,to_,l⟩ to2) ⟨key,driver,fr,to2,l⟩):=by
 have hlen:=hl.len
 refine cY ⟨23,w,none, []⟩ func181 D ntmps181 D (fZ (X:= [bT lgEnc 9 269 w.heap.size none A n l]) (cC hl.old cZ) (cE bT.lasts dA)) (bX (fS D D D fun g1=>dM yS D fun g2=>cG D (bU (bX (W (dG kQ D (fun _ hm=>hm.blkI 1 D) D D) D ?_)))))
 refine qX (γ:=M×M×Int×Int×Value×Nat×List Value) (val:=(fun g=> .tuple #[.agg #[U g.1,U g.2.1,J g.2.2.1,J g.2.2.2.1,g.2.2.2.2.1],J (goingE ⟨key,driver,fr,to_,l⟩)])) (φ:=(fun g=>(goingE ⟨key,driver,fr,to_,l⟩=0->key=g.1/\driver=g.2.1/\fr=g.2.2.1/\to_=g.2.2.2.1/\n=g.2.2.2.2.2.1/\l.flatMap lgEnc=g.2.2.2.2.2.2)/\(¬goingE ⟨key,driver,fr,to_,l⟩=0->(⟨#[]⟩:M)=g.1/\(⟨#[]⟩:M)=g.2.1/\0=g.2.2.1/\0=g.2.2.2.1/\H none 0 0=g.2.2.2.2.1/\0=g.2.2.2.2.2.1/\ []=g.2.2.2.2.2.2))) (fun g=>⟨g.2.2.2.2.1,269,9,g.2.2.2.2.2.1,g.2.2.2.2.2.2⟩) D eY8 D D (fun wx hm=>(eQ1 key driver fr to_ l A n c wx (hm.fact 0 D).1 hok G).mono fun _ _ ⟨k,d,f,t,v,m,xs,he,h1,h2,ho,hg⟩=>⟨(k,d,f,t,v,m,xs),he,⟨h1,h2⟩,ho,hg⟩) ?_
 rintro ⟨k1,d1,f1,t1,v1,m1,xs1⟩ mO
 dsimp only at mO ⊢
 by_cases hG:goingE ⟨key,driver,fr,to_,l⟩=0
 ·obtain ⟨rfl,rfl,rfl,rfl,rfl,rfl⟩:=mO.1 hG
  clear mO
  have hEE:bA5 ⟨key,driver,fr,to_,l⟩ to2=hireE ⟨key,driver,fr,to2,l⟩:=if_pos hG
  have hgo:=goingE_ok hG
  have hn0:0 < n:=by have:=(hireE_legs hgo.1).1;exact hlen ▸ this
  refine eB (R:=∃A cc,v1=H A n cc) (fun wx hm=>dW (hm.ownI 0 D)) ?_
  rintro ⟨A1,c1,rfl⟩
  refine bS D (W (cV D D) D (W (cV D D) D (kE (cs':= [U key,U driver,J fr,J to_,H A1 n c1]) 1 kQ D D D D (cG D (bU (bJ (bX (bS D (W (gN D D) D (bO 13 (v':= .bool false) D (fW9 (by rw [hG];rfl)) (bU (jK D (bN (bG (bX (bS D (dZ eS5 D D (dZ wT D D (fX 1 fM D D D D D D (bU (bX (W (dG kQ D (fun _ hm=>hm.blkI 1 D) D D) D ?_))))))))))))))))))))))
  by_cases hE:hireE ⟨key,driver,fr,to2,l⟩=0
  ·refine cR D dU4 D D (fun wx hm=>(cY9 (SlT.ofOwn lg_len (hm.ownI 0 D) hlen) hok hn hE)) ?_
   refine W (cV D D) D (W (cV D D) D (kE (cs':= [U key,U driver,J fr,J to2,H A1 n c1]) 0 kQ D D D D (cG D (bU (bR ?_)))))
   refine fD 0 D kQ D D D D fun wx hm=>?_
   rw [hEE];exact cU1 hE hm.g (SlT.ofOwn lg_len (hm.ownI 0 rfl) hlen)
  refine cR D dU4 D D (fun wx hm=>(dN5 (SlT.ofOwn lg_len (hm.ownI 0 D) hlen) hok hn hE)) (W (cV D D) D (W (cV D D) D (kE (cs':= [U ⟨#[]⟩,U ⟨#[]⟩,J 0,J 0,H none 0 0]) 0 kQ D D D D (cG D (bU (bR ?_))))))
  refine fD 0 D kQ D D D D fun wx hm=>?_
  rw [hEE];exact bA6 hE hm.g
 obtain ⟨rfl,rfl,rfl,rfl,rfl,rfl,rfl⟩:=mO.2 hG
 clear mO
 have hEE:bA5 ⟨key,driver,fr,to_,l⟩ to2=goingE ⟨key,driver,fr,to_,l⟩:=if_neg hG
 refine bS D (W (cV D D) D (W (cV D D) D (kE (cs':= [U ⟨#[]⟩,U ⟨#[]⟩,J 0,J 0,H none 0 0]) 1 kQ D D D D (cG D (bU (bJ (bX (bS D (W (gN D D) D (bO 13 (v':= .bool true) D (fW9 (by simpa using hG)) (bU (mT D (bX (W (dL (cs:= [U ⟨#[]⟩,U ⟨#[]⟩,J 0,J 0,H none 0 0]) D bC) D (bS D (kE (cs':= [U ⟨#[]⟩,U ⟨#[]⟩,J 0,J 0,H none 0 0]) 0 kQ D D D D (cG D (bU (bR (F ?_))))))))))))))))))))
 refine fD 0 D kQ D D D D fun wx hm=>?_
 rw [hEE];exact bA6 hG hm.g
theorem dE7(key driver:M)(fr to_:Int)(l:List Lg)(A:Option Addr)(n c:Nat)(veh:M)(ra:Int)(rs:M)(rm rf qa:Int)(qs:M)(qm qf:Int)(w:World)(hl:SlT lgEnc 9 269 w A n l)(hok:HrOk key driver l)(hn:n<=10000)(hv:veh.size<=1000000)(hr:RdOk ⟨ra,rs,rm,rf⟩)(hq:RdOk ⟨qa,qs,qm,qf⟩):
 Calls prog 183 #[.agg #[U key,U driver,J fr,J to_,H A n c],.agg #[J ra,U rs,J rm,J rf],U veh,.agg #[J qa,U qs,J qm,J qf]] w (dT1 w (cC9 ⟨key,driver,fr,to_,l⟩ ⟨ra,rs,rm,rf⟩ veh ⟨qa,qs,qm,qf⟩) ⟨key,driver,fr,to_,jI l ⟨ra,rs,rm,rf⟩ veh ⟨qa,qs,qm,qf⟩⟩):=by
 have hlen:=hl.len
 refine cY ⟨42,w,none, []⟩ func183 D ntmps183 D (fZ (X:= [bT lgEnc 9 269 w.heap.size none A n l]) (cC hl.old cZ) (cE bT.lasts dA)) (bX (fS D D D fun g1=>fS D D D fun g2=>fS D D D fun g3=>dM yS D fun g4=>cG D (bU (bX (W (dG kQ D (fun _ hm=>hm.blkI 3 D) D D) D ?_)))))
 refine qX (γ:=M×M×Int×Int×Value×Nat×List Value) (val:=(fun g=> .tuple #[.agg #[U g.1,U g.2.1,J g.2.2.1,J g.2.2.2.1,g.2.2.2.2.1],J (goingE ⟨key,driver,fr,to_,l⟩)])) (φ:=(fun g=>(goingE ⟨key,driver,fr,to_,l⟩=0->key=g.1/\driver=g.2.1/\fr=g.2.2.1/\to_=g.2.2.2.1/\n=g.2.2.2.2.2.1/\l.flatMap lgEnc=g.2.2.2.2.2.2)/\(¬goingE ⟨key,driver,fr,to_,l⟩=0->(⟨#[]⟩:M)=g.1/\(⟨#[]⟩:M)=g.2.1/\0=g.2.2.1/\0=g.2.2.2.1/\H none 0 0=g.2.2.2.2.1/\0=g.2.2.2.2.2.1/\ []=g.2.2.2.2.2.2))) (fun g=>⟨g.2.2.2.2.1,269,9,g.2.2.2.2.2.1,g.2.2.2.2.2.2⟩) D eY8 D D (fun wx hm=>(eQ1 key driver fr to_ l A n c wx (hm.fact 0 D).1 hok G).mono fun _ _ ⟨k,d,f,t,v,m,xs,he,h1,h2,ho,hg⟩=>⟨(k,d,f,t,v,m,xs),he,⟨h1,h2⟩,ho,hg⟩) ?_
 rintro ⟨k1,d1,f1,t1,v1,m1,xs1⟩ mO
 dsimp only at mO ⊢
 by_cases hG:goingE ⟨key,driver,fr,to_,l⟩=0
 ·obtain ⟨rfl,rfl,rfl,rfl,rfl,rfl⟩:=mO.1 hG
  clear mO
  have hEE:cC9 ⟨key,driver,fr,to_,l⟩ ⟨ra,rs,rm,rf⟩ veh ⟨qa,qs,qm,qf⟩=hireE ⟨key,driver,fr,to_,jI l ⟨ra,rs,rm,rf⟩ veh ⟨qa,qs,qm,qf⟩⟩:=if_pos hG
  have hgo:=goingE_ok hG
  have hn0:0 < n:=by have:=(hireE_legs hgo.1).1;exact hlen ▸ this
  refine eB (R:=∃A cc,v1=H A n cc) (fun wx hm=>dW (hm.ownI 0 D)) ?_
  rintro ⟨A1,c1,rfl⟩
  refine eB (R:=∃g,A1=some ⟨g,0,none⟩) (fun wx hm=>rG (hm.ownI 0 D) hn0) ?_
  rintro ⟨ro,rfl⟩
  obtain ⟨x,hx⟩:∃x,l[n - 1]?=some x:=⟨_,fY9 G⟩
  obtain ⟨x1,x2,x3⟩:=x
  have hL2:jI l ⟨ra,rs,rm,rf⟩ veh ⟨qa,qs,qm,qf⟩=l.set (n - 1) ⟨x1,x2,⟨ra,rs,rm,rf⟩⟩++ [⟨veh,⟨qa,qs,qm,qf⟩,⟨-1,⟨#[]⟩,0,0⟩⟩]:=by unfold jI endLegs;rw [hlen,hx];rfl
  have hlen2:(jI l ⟨ra,rs,rm,rf⟩ veh ⟨qa,qs,qm,qf⟩).length=n+1:=by rw [hL2];simp [hlen]
  have hok2:HrOk key driver (jI l ⟨ra,rs,rm,rf⟩ veh ⟨qa,qs,qm,qf⟩):=⟨hok.1,hok.2.1,dA5 hok.2.2 hr hv hq⟩
  refine bS D (W (cV D D) D (W (cV D D) D (kE (cs':= [U key,U driver,J fr,J to_,H (some ⟨ro,0,none⟩) n c1]) 3 kQ D D D D (cG D (bU (bJ (bX (bS D (W (gN D D) D (bO 17 (v':= .bool false) D (fW9 (by rw [hG];rfl)) (bU (jK D (bN (bG (bX (dZ vM D D (eO bL3 3 D D D (dZ vM D D (eO bL3 3 D D D (W (dP bB8 D) D (W (ov_sub D D G G) D (bO 25 (v':=I (n - 1)) D (fX9 G) (W (dG cX1 D (fun _ hm=>hm.blkI 2 D) D D) D (W (bV (j:=n - 1) bB8 D D G) D (dZ eT5 D D (dN4 (l:=l) (j:=n - 1) (r:=5) (el:=⟨x1,x2,x3⟩) (el':=⟨x1,x2,⟨ra,rs,rm,rf⟩⟩) 0 cX1 D D D D D lg_len D hx hlen bD D D ?_))))))))))))))))))))))))))
  refine bU (bX (dZ vM D D (eO bL3 3 D D D (bS D (W (dG cX1 D (fun _ hm=>hm.blkI 1 D) D D) D (W (dL (cs:= [J (-1),U ⟨#[]⟩,J 0,J 0]) D bC) D (W (dL (cs:= [U veh,J qa,U qs,J qm,J qf,J (-1),U ⟨#[]⟩,J 0,J 0]) D bC) D (jN 269 [U veh,J qa,U qs,J qm,J qf,J (-1),U ⟨#[]⟩,J 0,J 0] fun g5=>eP (news:= [U veh,J qa,U qs,J qm,J qf,J (-1),U ⟨#[]⟩,J 0,J 0]) 0 0 fZ2 D D D D D D D G (by unfold maxLen;omega) D D fun v2 xK=>?_))))))))
  refine eB (R:=∃A cc,v2=H A (n+1) cc) (fun wx hm=>dW (hm.ownI 0 D)) ?_
  rintro ⟨A2,c2,rfl⟩
  refine dZ vM D D (fX 4 bL3 D D D D D D (bU (bX (W (dG kQ D (fun _ hm=>hm.blkI 4 D) D D) D ?_))))
  have hxs:(l.set (n - 1) ⟨x1,x2,⟨ra,rs,rm,rf⟩⟩).flatMap lgEnc++([U veh,J qa,U qs,J qm,J qf,J (-1),U ⟨#[]⟩,J 0,J 0]:List Value)=(jI l ⟨ra,rs,rm,rf⟩ veh ⟨qa,qs,qm,qf⟩).flatMap lgEnc:=by rw [hL2,List.flatMap_append];rfl
  by_cases hE:hireE ⟨key,driver,fr,to_,jI l ⟨ra,rs,rm,rf⟩ veh ⟨qa,qs,qm,qf⟩⟩=0
  ·refine cR D dU4 D D (fun wx hm=>(cY9 (SlT.ofOwn lg_len (hxs ▸ (hm.ownI 0 D)) hlen2) hok2 G hE)) ?_
   refine W (cV D D) D (W (cV D D) D (kE (cs':= [U key,U driver,J fr,J to_,H A2 (n+1) c2]) 1 kQ D D D D (cG D (bU (bR ?_)))))
   refine fD 1 D kQ D D D D fun wx hm=>?_
   rw [hEE];exact cU1 hE hm.g (SlT.ofOwn lg_len (hxs ▸ (hm.ownI 0 rfl)) hlen2)
  refine cR D dU4 D D (fun wx hm=>(dN5 (SlT.ofOwn lg_len (hxs ▸ (hm.ownI 0 D)) hlen2) hok2 G hE)) (W (cV D D) D (W (cV D D) D (kE (cs':= [U ⟨#[]⟩,U ⟨#[]⟩,J 0,J 0,H none 0 0]) 1 kQ D D D D (cG D (bU (bR ?_))))))
  refine fD 1 D kQ D D D D fun wx hm=>?_
  rw [hEE];exact bA6 hE hm.g
 obtain ⟨rfl,rfl,rfl,rfl,rfl,rfl,rfl⟩:=mO.2 hG
 clear mO
 have hEE:cC9 ⟨key,driver,fr,to_,l⟩ ⟨ra,rs,rm,rf⟩ veh ⟨qa,qs,qm,qf⟩=goingE ⟨key,driver,fr,to_,l⟩:=if_neg hG
 refine bS D (W (cV D D) D (W (cV D D) D (kE (cs':= [U ⟨#[]⟩,U ⟨#[]⟩,J 0,J 0,H none 0 0]) 3 kQ D D D D (cG D (bU (bJ (bX (bS D (W (gN D D) D (bO 17 (v':= .bool true) D (fW9 (by simpa using hG)) (bU (mT D (bX (W (dL (cs:= [U ⟨#[]⟩,U ⟨#[]⟩,J 0,J 0,H none 0 0]) D bC) D (bS D (kE (cs':= [U ⟨#[]⟩,U ⟨#[]⟩,J 0,J 0,H none 0 0]) 0 kQ D D D D (cG D (bU (bR (F ?_))))))))))))))))))))
 refine fD 0 D kQ D D D D fun wx hm=>?_
 rw [hEE];exact bA6 hG hm.g
theorem pM{α:Type}{l:List α}{k:Nat}(h:k=0):prevOf l k=none:=by unfold prevOf;rw [if_pos h]
theorem jZ{α:Type}{l:List α}{k:Nat}{y:α}(h:¬k=0)(hy:l[k - 1]?=some y):prevOf l k=some y:=by unfold prevOf;rw [if_neg h,hy]
theorem bQ2{α:Type}{f:Option α->α->Int}:∀{l:List α} {p:Option α},scanE f p l=0->∀x∈l,∃q,f q x=0
 | [],_,_,x,hx=>by cases hx
 |y::t,p,h,x,hx=>by
  unfold scanE at h
  by_cases h0:f p y=0
  ·rw [if_pos h0] at h
   rcases List.mem_cons.1 hx with rfl|hx
   ·exact ⟨p,h0⟩
   ·exact bQ2 h x hx
  ·rw [if_neg h0] at h;exact absurd h h0
theorem dK5{a:M}(h:keyB a=true):leB a ⟨#[]⟩=false:=by
 obtain ⟨⟨l⟩⟩:=a
 cases l with
 |nil=>cases h
 |cons c r=>unfold leB;rw [ByteArray.toList_eq,ByteArray.toList_eq];rfl
def dU(x:M):List Value:= [U x]
theorem mQ(x:M):(dU x).length=1:=rfl
structure Bk where
 key:M
 cls:M
 fr:Int
 to_:Int
 made:Int
 odds:Int
def eV(b:Bk):List Value:= [U b.key,U b.cls,J b.fr,J b.to_,J b.made,J b.odds]
theorem dX9(b:Bk):(eV b).length=6:=rfl
def bM3(b:Bk):Prop:=b.key.size<=1000000/\b.cls.size<=1000000
def leO(p:Option Bk)(b:Bk):Bool:=match p with
 |none=>false
 |some q=>leB b.key q.key
def jO(p:Option Bk)(b:Bk):Int:=
 if !keyB b.key then 5 else if !keyB b.cls then 5 else if leO p b then 7 else
 if b.fr < 0 then 1 else if b.to_<=b.fr then 1 else if 5761439 < b.to_ then 1 else if !inB b.made 0 b.fr then 1 else if !inB b.odds 0 100 then 1 else 0
def uO(l:List Bk):Int:=if 500 < l.length then 2 else scanE jO none l
theorem dY9{p:Option Bk}{b:Bk}(h:jO p b=0):0<=b.fr/\b.fr < b.to_/\b.to_<=5761439/\0<=b.made/\b.made<=b.fr/\0<=b.odds/\b.odds<=100:=by
 unfold jO at h
 repeat (split at h;· cases h)
 rename_i h1 h2 h3 h4 h5 h6 h7 h8
 simp [inB] at h7 h8
 omega
theorem dI2(l:List Bk)(A:Option Addr)(n c:Nat)(w:World)(hl:SlT eV 6 87 w A n l)(hok:∀b∈l,bM3 b)(hn:n<=1000000):
 Calls prog 116 #[H A n c] w (nG w (uO l)):=by
 refine cY ⟨75,w,none, []⟩ func116 D ntmps116 D (fZ (X:= [bT eV 6 87 w.heap.size none A n l]) (cC hl.old cZ) (cE bT.lasts dA)) (bX ?_)
 have hlen:=hl.len
 refine cG D (bU (bJ (bX (bS D (W (dP pU D) D (W (eM D D) D (bU ?_)))))))
 refine cN D (fun h1=>?_) (fun h1=>?_)
 ·refine bX (cG D (bU ?_))
  refine bR (F ?_)
  exact bQ D D fun wx hm=>⟨cL (by unfold uO;rw [if_pos G]),hm.g⟩
 refine bN (bG (bJ (bX (bS D (W (dP pU D) D (bS D (bU (bP ?_))))))))
 refine dS (γ:=Nat) (fun (k:Nat)=>k<=n/\uO l=scanE jO (prevOf l k) (l.drop k)) (fun (k:Nat)=> [(0,H A n c),(8,H A n c),(9,I n),(10,I k)]) (fun (k:Nat)=>fun _=>True) (fun (k:Nat)=> []) (fun (k:Nat)=> []) (fun (k:Nat)=> [bT eV 6 87 w.heap.size none A n l]) (fun (k:Nat)=>n - k) 0 ⟨Nat.zero_le _,by unfold uO;rw [if_neg G];rfl⟩ ⟨D,D,D,D,bB⟩ (fun _ hm=>hm.pick [] [] [0] D D) ?_
 intro k bZ
 replace bZ:k<=n/\uO l=scanE jO (prevOf l k) (l.drop k):=bZ
 refine bX (W (dF D D) D (bU (bJ ?_)))
 refine cN D (fun hk=>?_) (fun hk=>?_)
 ·refine bN (bG (bJ (bP (bX ?_))))
  obtain ⟨b,off,hA,_,_⟩:=hl.get G
  subst hA
  obtain ⟨x,hx⟩:∃x,l[k]?=some x:=⟨_,fY9 G⟩
  obtain ⟨ke,cl,fr,tt,ma,od⟩:=x
  have hat:=scanE_at jO l k _ hx
  obtain ⟨hk1,hk2⟩:=hok _ (fZ9 hx)
  have hk1:ke.size<=1000000:=hk1
  have hk2:cl.size<=1000000:=hk2
  refine bS D (W (bV (j:=k) pU D D G) D (W (dR (vs:= [U ke,U cl,J fr,J tt,J ma,J od]) bZ1 D (fun _ hm=>(hm.fact 0 D).1) hx D D) D (dM dM1 D fun g1=>cG D (kE (cs':= [U ke,U cl,J fr,J tt,J ma,J od]) 0 bZ1 D D D D (bU (bP (bX (dZ bO1 D D (eO fR 0 D D D (dC D bW2 D D (fun wx hm=>(isKey_any _ wx G)) (W (cS D) D (bS D ?_))))))))))))
  rcases Bool.eq_false_or_eq_true (!(keyB ke)) with h2|h2
  ·refine bO 20 D (fW9 h2) ?_
   refine eE D (eE D (eE D (eE D (mS D D (cG D (bU (mT D (bX (cG D (bU (bR (C (C (F (F (C (F ?_)))))))))))))))))
   have hE:jO (prevOf l k) ⟨ke,cl,fr,tt,ma,od⟩=5:=by unfold jO;simp [h2]
   exact bQ D D fun wx hm=>⟨cL (by rw [bZ.2,hat,if_neg (by rw [hE];decide),hE]),hm.g⟩
  refine bO 20 D (fW9 h2) (eN D (dZ bF7 D D (eN D (eO fR 0 D D D (eN D (dC D bW2 D D (fun wx hm=>(isKey_any _ wx G)) (eN D (W (cS D) D (nV D D (cG D (bU ?_)))))))))))
  refine dE D (fun hh=>?_) (fun hh=>?_)
  ·have h3:(keyB cl)=false:=by simpa using hh
   refine bX (cG D (bU (bR (C (C (F (F (C (F ?_)))))))))
   have hE:jO (prevOf l k) ⟨ke,cl,fr,tt,ma,od⟩=5:=by unfold jO;simp [h2,h3]
   exact bQ D D fun wx hm=>⟨cL (by rw [bZ.2,hat,if_neg (by rw [hE];decide),hE]),hm.g⟩
  have h3:(keyB cl)=true:=by simpa using hh
  refine bJ ?_
  by_cases hk0:k=0
  ·have hO:leO (prevOf l k) ⟨ke,cl,fr,tt,ma,od⟩=false:=by rw [pM hk0];rfl
   refine gd (fun wz=>True) mixed (fun _ _=>bB) fun z=>wq 0 D (bL D) (wq 1 D (eM D D) (dI 28 (v':= .bool false) D (fW9 (decide_eq_false G)) (wq 2 D (bL D) (eL 3 D (eL 4 D (eL 5 D (eL 6 D (eL 7 D (eL 8 D (eL 9 D (eL 10 D (eL 11 D (wq 12 D (eZ D D) (wq 13 D (dB D) (gY (bG (jK D (bX (dZ pQ D D (dZ rQ D D (eO fM 0 D D D (W (dF D D) D (bS D ?_)))))))))))))))))))))))
   rcases Bool.eq_false_or_eq_true (decide (fr < 0)) with h4|h4
   ·refine bO 45 D (fW9 h4) ?_
    replace h4:=of_decide_eq_true h4
    refine eE D (eE D (eE D (eE D (eE D (eE D (eE D (mS D D (bS D (eE D (eE D (eE D (eE D (mS D D (cG D (bU (mT D (bX (cG D (bU (bR (C (C (F (F (C (F ?_))))))))))))))))))))))))))
    have hE:jO (prevOf l k) ⟨ke,cl,fr,tt,ma,od⟩=1:=by unfold jO;simp [h2,h3,hO,h4]
    exact bQ D D fun wx hm=>⟨cL (by rw [bZ.2,hat,if_neg (by rw [hE];decide),hE]),hm.g⟩
   refine bO 45 D (fW9 h4) ?_
   replace h4:=of_decide_eq_false h4
   refine eN D (dZ pQ D D (eN D (dZ rQ D D (eN D (eO fM 0 D D D (eN D (dZ pQ D D (eN D (dZ wT D D (eN D (eO fM 0 D D D (eN D (W (mE D D) D (nV D D (bS D ?_)))))))))))))))
   rcases Bool.eq_false_or_eq_true (decide (tt<=fr)) with h5|h5
   ·refine bO 54 D (fW9 h5) ?_
    replace h5:=of_decide_eq_true h5
    refine eE D (eE D (eE D (eE D (mS D D (cG D (bU (mT D (bX (cG D (bU (bR (C (C (F (F (C (F ?_)))))))))))))))))
    have hE:jO (prevOf l k) ⟨ke,cl,fr,tt,ma,od⟩=1:=by unfold jO;simp [h2,h3,hO,h4,h5]
    exact bQ D D fun wx hm=>⟨cL (by rw [bZ.2,hat,if_neg (by rw [hE];decide),hE]),hm.g⟩
   refine bO 54 D (fW9 h5) ?_
   replace h5:=of_decide_eq_false h5
   refine eN D (dZ pQ D D (eN D (dZ wT D D (eN D (eO fM 0 D D D (eN D (W (eM D D) D (nV D D (cG D (bU ?_))))))))))
   refine cN D (fun h6=>?_) (fun h6=>?_)
   ·refine bX (cG D (bU ?_))
    refine bR (C (C (F (F (C (F ?_))))))
    have hE:jO (prevOf l k) ⟨ke,cl,fr,tt,ma,od⟩=1:=by unfold jO;simp [h2,h3,hO,h4,h5,h6]
    exact bQ D D fun wx hm=>⟨cL (by rw [bZ.2,hat,if_neg (by rw [hE];decide),hE]),hm.g⟩
   refine bX (dZ eL1 D D (eO fM 0 D D D (dZ pQ D D (dZ rQ D D (eO fM 0 D D D (dC D pS D D (fun wx hm=>(in_any _ _ _ wx)) (W (cS D) D (bS D ?_))))))))
   rcases Bool.eq_false_or_eq_true (!(inB ma 0 fr)) with h7|h7
   ·refine bO 68 D (fW9 h7) ?_
    refine eE D (eE D (eE D (eE D (mS D D (cG D (bU (mT D (bX (cG D (bU (bR (C (C (F (F (C (F ?_)))))))))))))))))
    have hE:jO (prevOf l k) ⟨ke,cl,fr,tt,ma,od⟩=1:=by unfold jO;simp [h2,h3,hO,h4,h5,h6,h7]
    exact bQ D D fun wx hm=>⟨cL (by rw [bZ.2,hat,if_neg (by rw [hE];decide),hE]),hm.g⟩
   refine bO 68 D (fW9 h7) (eN D (dZ eM1 D D (eN D (eO fM 0 D D D (eN D (dC D pS D D (fun wx hm=>(in_any _ _ _ wx)) (eN D (W (cS D) D (nV D D (cG D (bU ?_)))))))))))
   refine dE D (fun hh=>?_) (fun hh=>?_)
   ·have h8:(inB od 0 100)=false:=by simpa using hh
    refine bX (cG D (bU (bR (C (C (F (F (C (F ?_)))))))))
    have hE:jO (prevOf l k) ⟨ke,cl,fr,tt,ma,od⟩=1:=by unfold jO;simp [h2,h3,hO,h4,h5,h6,h7,h8]
    exact bQ D D fun wx hm=>⟨cL (by rw [bZ.2,hat,if_neg (by rw [hE];decide),hE]),hm.g⟩
   have h8:(inB od 0 100)=true:=by simpa using hh
   refine bN (bK (bK (bG (bM ?_))))
   have hE:jO (prevOf l k) ⟨ke,cl,fr,tt,ma,od⟩=0:=by unfold jO;simp [h2,h3,hO,h4,h5,h6,h7,h8]
   refine fY D D (bS D (bH ?_))
   exact cQ (k+1) ⟨G,by rw [bZ.2,hat,if_pos hE]⟩ G ⟨D,D,D,(cP G),bB⟩ (fun _ hm=>hm.pick [] [] [0] D D)
  obtain ⟨y,hy⟩:∃x,l[k - 1]?=some x:=⟨_,fY9 G⟩
  obtain ⟨pk,p1,p2,p3,p4,p5⟩:=y
  refine gd (fun wz=>Blk wz g1 87 [U ke,U cl,J fr,J tt,J ma,J od]/\(bT eV 6 87 w.heap.size none (some ⟨b,off,none⟩) n l) wz/\True) mixed (fun _ hm=>⟨hm.bl 0,hm.fa 0,bB⟩) fun z=>wq 0 D (bL D) (wq 1 D (eM D D) (dI 28 (v':= .bool true) D (fW9 (decide_eq_true G)) (wq 2 D (bL D) (eU 3 D (bW bO1 D D) (eU 4 D (cH fR D (fun _ hm=>hm.1) D) (eU 5 D (bL D) (eU 6 D (bL D) (eU 7 D (ov_sub D D G G) (dI 34 (v':=I (k - 1)) D (fX9 G) (eU 8 D (bV (j:=k - 1) pU D D G) (eU 9 D (bW bO1 D D) (eU 10 D (dH (k:=0) (v:=U pk) fR D (fun _ hm=>(hm.2.1).1) hy D D) (eU 11 D (wH D D) (wq 12 D (fG D D) (wq 13 D (dB D) (gY (bG ?_)))))))))))))))))
  refine dE D (fun hh=>?_) (fun hh=>?_)
  ·have h9:(Op.bytesLess ke.toList pk.toList||ke.toList==pk.toList)=true:=by simpa using hh
   refine bX ?_
   have hO:leO (prevOf l k) ⟨ke,cl,fr,tt,ma,od⟩=true:=by rw [jZ hk0 hy];exact h9
   refine cG D (bU (bR (C (C (F (F (C (F ?_))))))))
   have hE:jO (prevOf l k) ⟨ke,cl,fr,tt,ma,od⟩=7:=by unfold jO;simp [h2,h3,hO]
   exact bQ D D fun wx hm=>⟨cL (by rw [bZ.2,hat,if_neg (by rw [hE];decide),hE]),hm.g⟩
  have h9:(Op.bytesLess ke.toList pk.toList||ke.toList==pk.toList)=false:=by simpa using hh
  refine bX ?_
  have hO:leO (prevOf l k) ⟨ke,cl,fr,tt,ma,od⟩=false:=by rw [jZ hk0 hy];exact h9
  refine dZ pQ D D (dZ rQ D D (eO fM 0 D D D (W (dF D D) D (bS D ?_))))
  rcases Bool.eq_false_or_eq_true (decide (fr < 0)) with h4|h4
  ·refine bO 45 D (fW9 h4) ?_
   replace h4:=of_decide_eq_true h4
   refine eE D (eE D (eE D (eE D (eE D (eE D (eE D (mS D D (bS D (eE D (eE D (eE D (eE D (mS D D (cG D (bU (mT D (bX (cG D (bU (bR (C (C (F (F (C (F ?_))))))))))))))))))))))))))
   have hE:jO (prevOf l k) ⟨ke,cl,fr,tt,ma,od⟩=1:=by unfold jO;simp [h2,h3,hO,h4]
   exact bQ D D fun wx hm=>⟨cL (by rw [bZ.2,hat,if_neg (by rw [hE];decide),hE]),hm.g⟩
  refine bO 45 D (fW9 h4) ?_
  replace h4:=of_decide_eq_false h4
  refine eN D (dZ pQ D D (eN D (dZ rQ D D (eN D (eO fM 0 D D D (eN D (dZ pQ D D (eN D (dZ wT D D (eN D (eO fM 0 D D D (eN D (W (mE D D) D (nV D D (bS D ?_)))))))))))))))
  rcases Bool.eq_false_or_eq_true (decide (tt<=fr)) with h5|h5
  ·refine bO 54 D (fW9 h5) ?_
   replace h5:=of_decide_eq_true h5
   refine eE D (eE D (eE D (eE D (mS D D (cG D (bU (mT D (bX (cG D (bU (bR (C (C (F (F (C (F ?_)))))))))))))))))
   have hE:jO (prevOf l k) ⟨ke,cl,fr,tt,ma,od⟩=1:=by unfold jO;simp [h2,h3,hO,h4,h5]
   exact bQ D D fun wx hm=>⟨cL (by rw [bZ.2,hat,if_neg (by rw [hE];decide),hE]),hm.g⟩
  refine bO 54 D (fW9 h5) ?_
  replace h5:=of_decide_eq_false h5
  refine eN D (dZ pQ D D (eN D (dZ wT D D (eN D (eO fM 0 D D D (eN D (W (eM D D) D (nV D D (cG D (bU ?_))))))))))
  refine cN D (fun h6=>?_) (fun h6=>?_)
  ·refine bX (cG D (bU ?_))
   refine bR (C (C (F (F (C (F ?_))))))
   have hE:jO (prevOf l k) ⟨ke,cl,fr,tt,ma,od⟩=1:=by unfold jO;simp [h2,h3,hO,h4,h5,h6]
   exact bQ D D fun wx hm=>⟨cL (by rw [bZ.2,hat,if_neg (by rw [hE];decide),hE]),hm.g⟩
  refine bX (dZ eL1 D D (eO fM 0 D D D (dZ pQ D D (dZ rQ D D (eO fM 0 D D D (dC D pS D D (fun wx hm=>(in_any _ _ _ wx)) (W (cS D) D (bS D ?_))))))))
  rcases Bool.eq_false_or_eq_true (!(inB ma 0 fr)) with h7|h7
  ·refine bO 68 D (fW9 h7) ?_
   refine eE D (eE D (eE D (eE D (mS D D (cG D (bU (mT D (bX (cG D (bU (bR (C (C (F (F (C (F ?_)))))))))))))))))
   have hE:jO (prevOf l k) ⟨ke,cl,fr,tt,ma,od⟩=1:=by unfold jO;simp [h2,h3,hO,h4,h5,h6,h7]
   exact bQ D D fun wx hm=>⟨cL (by rw [bZ.2,hat,if_neg (by rw [hE];decide),hE]),hm.g⟩
  refine bO 68 D (fW9 h7) (eN D (dZ eM1 D D (eN D (eO fM 0 D D D (eN D (dC D pS D D (fun wx hm=>(in_any _ _ _ wx)) (eN D (W (cS D) D (nV D D (cG D (bU ?_)))))))))))
  refine dE D (fun hh=>?_) (fun hh=>?_)
  ·have h8:(inB od 0 100)=false:=by simpa using hh
   refine bX (cG D (bU (bR (C (C (F (F (C (F ?_)))))))))
   have hE:jO (prevOf l k) ⟨ke,cl,fr,tt,ma,od⟩=1:=by unfold jO;simp [h2,h3,hO,h4,h5,h6,h7,h8]
   exact bQ D D fun wx hm=>⟨cL (by rw [bZ.2,hat,if_neg (by rw [hE];decide),hE]),hm.g⟩
  have h8:(inB od 0 100)=true:=by simpa using hh
  refine bN (bK (bK (bG (bM ?_))))
  have hE:jO (prevOf l k) ⟨ke,cl,fr,tt,ma,od⟩=0:=by unfold jO;simp [h2,h3,hO,h4,h5,h6,h7,h8]
  refine fY D D (bS D (bH ?_))
  exact cQ (k+1) ⟨G,by rw [bZ.2,hat,if_pos hE]⟩ G ⟨D,D,D,(cP G),bB⟩ (fun _ hm=>hm.pick [] [] [0] D D)
 refine dD (bI (bI (bY (bG (bX (cG D (bU (bR ?_))))))))
 exact bQ D D fun wx hm=>⟨cL (by rw [bZ.2,scanE_end _ _ _ _ G]),hm.g⟩
theorem gB.cy{n n':Nat}{w0:World}{row:Option Nat}{Tt:List TypeId}{K:World->Prop}{L:List (Nat×TypeId×List Value)}{O:List Own}{X:List (World->Prop)}{w:World}(h:gB ⟨n,w0,row,Tt⟩ K L O X w):gB ⟨n',w0,row,Tt⟩ K L O X w:=⟨h.g,h.k,h.b,h.nd,h.o,h.od,h.oo,h.x,h.kk,h.l,h.rs⟩
theorem gB.gn{c:Cx}{K:World->Prop}{L:List (Nat×TypeId×List Value)}{O:List Own}{X:List (World->Prop)}{w w':World}{g:Nat}{T:TypeId}{cs:List Value}(h:gB c K L O X w)(hgr:w.grownBy w' none)(hN:w.heap.size<=g)(hb:Blk w' g T cs):gB c K ((g,T,cs)::L) O X w':=by
 have h2:=h.grow hgr
 refine ⟨h2.g,h2.k,fun x hx=>?_,List.Pairwise.cons (fun y hy e=>by have h3:=(h.b y hy).2.lt;have e2:g=y.1:=e;omega) h.nd,h2.o,fun r hr x hx=>?_,h.oo,h2.x,h.kk,h.l,h.rs⟩
 ·rcases List.mem_cons.1 hx with rfl|hx
  ·exact ⟨Nat.le_trans h.g.size hN,hb⟩
  ·exact h2.b x hx
 ·rcases List.mem_cons.1 hx with rfl|hx
  ·intro e
   have:=((h.o r hr).lt g e).2
   omega
  ·exact h.od r hr x hx
theorem gB.subX{c:Cx}{K:World->Prop}{L:List (Nat×TypeId×List Value)}{O:List Own}{X X':List (World->Prop)}{w:World}(h:gB c K L O X w)(hs:∀A∈X',A∈X):gB c K L O X' w:=⟨h.g,h.k,h.b,h.nd,h.o,h.od,h.oo,fun A hA=>h.x A (hs A hA),h.kk,fun A hA=>h.l A (hs A hA),h.rs⟩
theorem dV{X X':List (World->Prop)}{A:World->Prop}(i:Nat)(hi:X[i]?=some A)(h:∀B∈X',B∈X):∀B∈A::X',B∈X:=fun B hB=>by
 rcases List.mem_cons.1 hB with rfl|hB
 ·exact fZ9 hi
 ·exact h B hB
theorem cB5{X X1:List (World->Prop)}(n:Nat)(hd:X.drop n=X1):∀B∈X1,B∈X:=fun B hB=>List.mem_of_mem_drop (by rw [hd];exact hB)
theorem bI6{X:List (World->Prop)}:∀B∈([]:List (World->Prop)),B∈X:=fun _ h=>by cases h
def dT(s:M):Value:=U s
def vS(x:M):Value:=U x
def vB(x:Bool):Value:= .bool x
def vI(x:Int):Value:=J x
def rJ(x:Sa):Value:= .agg (mB x).toArray
def pX(x:Bk):Value:= .agg (eV x).toArray
structure Hg where
 key:M
 driver:M
 fr:Int
 to_:Int
 A:Option Addr
 n:Nat
 c:Nat
 legs:List Lg
def pZ(h:Hg):Value:= .agg #[U h.key,U h.driver,J h.fr,J h.to_,H h.A h.n h.c]
def hg0:Hg:=⟨⟨#[]⟩,⟨#[]⟩,0,0,none,0,0, []⟩
def bk0:Bk:=⟨⟨#[]⟩,⟨#[]⟩,0,0,0,0⟩
def hrG(h:Hg):Hr:=⟨h.key,h.driver,h.fr,h.to_,h.legs⟩
def gX(T:TypeId)(f:M->Option Hg)(w:World):Prop:=∀k h,f k=some h->SlT lgEnc 9 T w h.A h.n h.legs
theorem gX.lasts2{N:Nat}{row:Option Nat}{Tt:List TypeId}{T:TypeId}{f:M->Option Hg}(hT:Tt.contains T=true):Lasts2 N row Tt (gX T f):=
 ⟨fun w w' h hx k g hk=>(SlT.lasts2 (N:=N) (row:=row) (Tt:=Tt) hT).gr w w' h (hx k g hk),fun w w' r T2 c h1 h2 h3 h4 hx k g hk=>(SlT.lasts2 (N:=N) (row:=row) (Tt:=Tt) hT).st w w' r T2 c h1 h2 h3 h4 (hx k g hk)⟩
theorem gX.mfar{T:TypeId}{f:M->Option Hg}:bN3 (gX T f):=fun N g w w' h1 h2 h3 hx k y hk=>SlT.mfar N g w w' h1 h2 h3 (hx k y hk)
theorem gX.put{T:TypeId}{f:M->Option Hg}{w:World}{k:M}{h:Hg}(hf:gX T f w)(hl:SlT lgEnc 9 T w h.A h.n h.legs):gX T (gZ f k h) w:=fun j y hj=>by
 by_cases e:j=k
 ·subst e
  rw [mI] at hj
  cases hj
  exact hl
 ·rw [dN _ _ e] at hj
  exact hf j y hj
def dS9(h:Hg):Prop:=HrOk h.key h.driver h.legs/\0 < h.n/\h.n<=20/\h.legs.length=h.n
structure Os where
 fs:M->Option Sa
 fa:M×Int->Option Bool
 fb:M->Option Bk
 fh:M->Option Hg
 lg:List Ev
def os0:Os:=⟨pD,pD,pD,pD, []⟩
noncomputable def jD(σ:Os)(x:Ev):Os:={ σ with fs:=gZ σ.fs x.veh (jJ ((σ.fs x.veh).getD sa0) x),fa:=gZ σ.fa (x.veh,x.at_) true,lg:=σ.lg++ [x] }
def bQ6(σ:Os)(x:Ev):Prop:=(σ.fa (x.veh,x.at_)).getD false=false/\kB ((σ.fs x.veh).getD sa0) x=true
def kJ(at_:Int)(veh st:M):Ev:=⟨at_,veh,st,2,⟨#[]⟩⟩
def gV(at_:Int)(veh st:M):Ev:=⟨at_,veh,st,3,⟨#[]⟩⟩
inductive mK (V:M->Option M) (T:M->Option Bool) (ck:Bk->Prop) (at_:Int):Os->Os->Prop
 |same (σ:Os):mK V T ck at_ σ σ
 |ev (σ:Os) (x:Ev):x.at_=at_->fR2 x->x.kd∈([1,4,5,6,7,8]:List Int)->(V x.veh).isSome=true->(T x.sta).getD false=true->(x.kd=6->(T x.to_).getD false=true/\x.to_≠x.sta)->(x.kd≠6->x.to_=⟨#[]⟩)->bQ6 σ x->mK V T ck at_ σ (jD σ x)
 |book (σ:Os) (b:Bk):bM3 b->ck b->(σ.fb b.key).isSome=false->(σ.fh b.key).isSome=false->mK V T ck at_ σ { σ with fb:=gZ σ.fb b.key b }
 |cancel (σ:Os) (k:ByteArray):mK V T ck at_ σ { σ with fb:=zO σ.fb k }
 |start (σ:Os) (h:Hg) (v:ByteArray) (r:Rd):dS9 h->hireE (hrG h)=0->h.legs= [startLeg v r]->r.at_=at_->(σ.fh h.key).isSome=false->(V v).isSome=true->(T r.st).getD false=true->bQ6 σ (kJ at_ v r.st)->
  mK V T ck at_ σ { jD σ (kJ at_ v r.st) with fh:=gZ σ.fh h.key h,fb:=zO σ.fb h.key }
 |extend (σ:Os) (k:ByteArray) (h h':Hg):σ.fh k=some h->dS9 h'->hireE (hrG h')=0->h'.legs=h.legs->h'.key=h.key->mK V T ck at_ σ { σ with fh:=gZ σ.fh k h' }
 |close (σ:Os) (k:ByteArray) (h h':Hg) (g:Lg) (r:Rd):σ.fh k=some h->dS9 h'->hireE (hrG h')=0->openB h.legs=true->h.legs[h.n - 1]?=some g->h'.legs=endLegs h.legs r->h'.key=h.key->r.at_=at_->(T r.st).getD false=true->bQ6 σ (gV at_ g.veh r.st)->
  mK V T ck at_ σ { jD σ (gV at_ g.veh r.st) with fh:=gZ σ.fh k h' }
 |swap (σ:Os) (k:ByteArray) (h h':Hg) (g:Lg) (r q:Rd) (v:ByteArray):σ.fh k=some h->dS9 h'->hireE (hrG h')=0->openB h.legs=true->h.legs[h.n - 1]?=some g->h'.legs=jI h.legs r v q->h'.key=h.key->r.at_=at_->q.at_=at_->q.st=r.st->(T r.st).getD false=true->(V v).isSome=true->bQ6 σ (gV at_ g.veh r.st)->bQ6 σ (kJ at_ v r.st)->
  mK V T ck at_ σ { jD (jD σ (gV at_ g.veh r.st)) (kJ at_ v r.st) with fh:=gZ σ.fh k h' }
structure cA8 (σ:Os):Prop where
 hi:∀k h,σ.fh k=some h->dS9 h
def bH1(fp:M->Option Int):Prop:=∀k n,fp k=some n->0<=n/\n<=1000000000
theorem fI1:cA8 os0:=⟨fun _ _ h=>by cases h⟩
theorem fJ1:bH1 pD:=fun _ _ h=>by cases h
theorem fI{κ α:Type}{f:κ->Option α}{k j:κ}{x y:α}(h:gZ f k x j=some y):(j=k/\y=x)∨f j=some y:=by
 by_cases e:j=k
 ·subst e
  rw [mI] at h
  cases h
  exact .inl ⟨D,D⟩
 ·rw [dN _ _ e] at h
  exact .inr h
theorem zQ{κ α:Type}{f:κ->Option α}{k j:κ}{y:α}(h:zO f k j=some y):j≠k/\f j=some y:=by
 by_cases e:j=k
 ·subst e
  rw [bK2] at h
  cases h
 ·rw [zP _ e] at h
  exact ⟨e,h⟩
theorem mK.ok{V:M->Option M}{T:M->Option Bool}{ck:Bk->Prop}{at_:Int}{σ τ:Os}(h:mK V T ck at_ σ τ)(hs:cA8 σ):cA8 τ:=by
 refine ⟨fun k y hy=>?_⟩
 cases h with
 |same=>exact hs.hi k y hy
 |ev x=>exact hs.hi k y hy
 |book b=>exact hs.hi k y hy
 |cancel _=>exact hs.hi k y hy
 |start h v r h1=>
  rcases fI hy with ⟨_,rfl⟩|hy
  ·exact h1
  ·exact hs.hi k y hy
 |extend k0 h h' _ h1=>
  rcases fI hy with ⟨_,rfl⟩|hy
  ·exact h1
  ·exact hs.hi k y hy
 |close k0 h h' g r _ h1=>
  rcases fI hy with ⟨_,rfl⟩|hy
  ·exact h1
  ·exact hs.hi k y hy
 |swap k0 h h' g r q v _ h1=>
  rcases fI hy with ⟨_,rfl⟩|hy
  ·exact h1
  ·exact hs.hi k y hy
theorem mK.len{V:M->Option M}{T:M->Option Bool}{ck:Bk->Prop}{at_:Int}{σ τ:Os}(h:mK V T ck at_ σ τ):τ.lg.length<=σ.lg.length+2:=by
 cases h <;> (try dsimp only [jD]) <;> (try simp only [List.length_append,List.length_cons,List.length_nil]) <;> omega
theorem fU8:bY8 prog 9 (fun s:M=>U s):=eB2 bC
def nN(x:M×Int):Value:= .agg #[U x.1,J x.2]
def dC7(a b:M×Int):Bool:=a.1.toList==b.1.toList&&decide (a.2=b.2)
theorem dY4{a b:M×Int}(h:nN a=nN b):a=b:=by
 unfold nN at h
 simp only [Value.agg.injEq,Array.mk.injEq,List.cons.injEq,Value.string.injEq,Value.int.injEq,true_and,and_true] at h
 exact Prod.ext h.1 h.2
theorem cA9(a b:M×Int):dC7 a b=true↔a=b:=by
 unfold dC7
 rw [Bool.and_eq_true,cW3,decide_eq_true_eq]
 exact ⟨fun h=>Prod.ext h.1 h.2,fun h=>by subst h;exact ⟨rfl,rfl⟩⟩
theorem fW4(a b:M×Int)(w:World):(Op.equal 309 (nN a) (nN b)).run prog w= .ok (dC7 a b) w:=by
 have hS:prog.underlying 309=some (.struct (prog.fieldsOf 309)):=bC
 have hp:prog.stoodInHeld 309=false:=bC
 obtain ⟨a0,a1⟩:=a
 obtain ⟨b0,b1⟩:=b
 unfold nN dC7 Op.equal Op.maxDepth
 rw [show (10000:Nat)=9999+1 from rfl,run_equalIn_agg w 9999 309 _ _ hS hp]
 simp only [Program.fieldsOf,Tryz.underlying309]
 have u3:=Tryz.underlying3
 have u9:=Tryz.underlying9
 clear hS hp
 go_simp
 repeat' split
 all_goals simp_all
theorem fC0(em:Bool)(a:M×Int)(w:World):(Instr.checkKey em 10000 309 (nN a)).run prog w= .ok () w:=by
 obtain ⟨a0,a1⟩:=a
 unfold nN
 rw [show (10000:Nat)=9998+1+1 from rfl]
 have u3:=Tryz.underlying3
 have u9:=Tryz.underlying9
 unfold Instr.checkKey
 simp only [Sem.run_bind,run_underlying Tryz.underlying309]
 unfold Instr.checkKey
 go_simp
theorem dW2:bY8 prog 309 nN:=bL8 Tryz.underlying309 fW4 cA9 dY4 fC0 (fun a=>by
 unfold nN
 rw [show (10000:Nat)=9998+1+1 from rfl]
 simp [Instr.sameBits]
 exact (Go.MapKept.bytes_beq _ _).2 D)
theorem fX4(a b:M×Int)(w:World):(Op.equal 176 (nN a) (nN b)).run prog w= .ok (dC7 a b) w:=by
 have hS:prog.underlying 176=some (.struct (prog.fieldsOf 176)):=bC
 have hp:prog.stoodInHeld 176=false:=bC
 obtain ⟨a0,a1⟩:=a
 obtain ⟨b0,b1⟩:=b
 unfold nN dC7 Op.equal Op.maxDepth
 rw [show (10000:Nat)=9999+1 from rfl,run_equalIn_agg w 9999 176 _ _ hS hp]
 simp only [Program.fieldsOf,Tryz.underlying176]
 have u3:=Tryz.underlying3
 have u9:=Tryz.underlying9
 clear hS hp
 go_simp
 repeat' split
 all_goals simp_all
theorem fD0(em:Bool)(a:M×Int)(w:World):(Instr.checkKey em 10000 176 (nN a)).run prog w= .ok () w:=by
 obtain ⟨a0,a1⟩:=a
 unfold nN
 rw [show (10000:Nat)=9998+1+1 from rfl]
 have u3:=Tryz.underlying3
 have u9:=Tryz.underlying9
 unfold Instr.checkKey
 simp only [Sem.run_bind,run_underlying Tryz.underlying176]
 unfold Instr.checkKey
 go_simp
theorem cC7:bY8 prog 176 nN:=bL8 Tryz.underlying176 fX4 cA9 dY4 fD0 (fun a=>by
 unfold nN
 rw [show (10000:Nat)=9998+1+1 from rfl]
 simp [Instr.sameBits]
 exact (Go.MapKept.bytes_beq _ _).2 D)
end Go.Proofs.YtapdhfjfgpbnnaaGreatDoor
namespace Go.Proofs
open Go.Shelf
def Tryz.laysM171_ren:Go.Shelf.Ren:=⟨fun|171=>83|243=>123|246=>169|283=>196|284=>197|285=>198|286=>199|129=>155|317=>220|318=>221|319=>222|320=>223|337=>237|338=>238|n=>n,fun|3=>3|9=>9|2=>2|4=>4|171=>285|0=>0|53=>241|37=>287|5=>5|173=>288|212=>315|51=>239|20=>20|213=>316|46=>185|232=>336|233=>337|n=>n,fun|17=>1|18=>2|19=>3|n=>n⟩
theorem Tryz.laysM171:Go.Proofs.LaysM.n171 prog Tryz.laysM171_ren:={
 mixed:=by kernel_rfl
 f129:=func155.trans (congrArg some (by kernel_rfl))
 f171:=func83.trans (congrArg some (by kernel_rfl))
 f243:=func123.trans (congrArg some (by kernel_rfl))
 f246:=func169.trans (congrArg some (by kernel_rfl))
 f283:=func196.trans (congrArg some (by kernel_rfl))
 f284:=func197.trans (congrArg some (by kernel_rfl))
 f285:=func198.trans (congrArg some (by kernel_rfl))
 f286:=func199.trans (congrArg some (by kernel_rfl))
 f317:=func220.trans (congrArg some (by kernel_rfl))
 f318:=func221.trans (congrArg some (by kernel_rfl))
 f319:=func222.trans (congrArg some (by kernel_rfl))
 f320:=func223.trans (congrArg some (by kernel_rfl))
 f337:=func237.trans (congrArg some (by kernel_rfl))
 f338:=func238.trans (congrArg some (by kernel_rfl))
 t0:=Tryz.underlying0
 a0:=Tryz.isAgg0
 z0:=Tryz.sizeOf0
 v0:=Tryz.zeroValue0
 t2:=Tryz.underlying2
 a2:=Tryz.isAgg2
 z2:=Tryz.sizeOf2
 v2:=Tryz.zeroValue2
 t3:=Tryz.underlying3
 a3:=Tryz.isAgg3
 z3:=Tryz.sizeOf3
 v3:=Tryz.zeroValue3
 t4:=Tryz.underlying4
 a4:=Tryz.isAgg4
 z4:=Tryz.sizeOf4
 v4:=Tryz.zeroValue4
 t5:=Tryz.underlying5
 a5:=Tryz.isAgg5
 z5:=Tryz.sizeOf5
 v5:=Tryz.zeroValue5
 t9:=Tryz.underlying9
 a9:=Tryz.isAgg9
 z9:=Tryz.sizeOf9
 v9:=Tryz.zeroValue9
 t20:=Tryz.underlying20
 a20:=Tryz.isAgg20
 z20:=Tryz.sizeOf20
 v20:=Tryz.zeroValue20
 t37:=Tryz.underlying287
 a37:=Tryz.isAgg287
 z37:=Tryz.sizeOf287
 v37:=Tryz.zeroValue287
 t46:=Tryz.underlying185
 a46:=Tryz.isAgg185
 z46:=Tryz.sizeOf185
 v46:=Tryz.zeroValue185
 t51:=Tryz.underlying239
 a51:=Tryz.isAgg239
 z51:=Tryz.sizeOf239
 v51:=Tryz.zeroValue239
 t53:=Tryz.underlying241
 a53:=Tryz.isAgg241
 z53:=Tryz.sizeOf241
 v53:=Tryz.zeroValue241
 t171:=Tryz.underlying285
 a171:=Tryz.isAgg285
 z171:=Tryz.sizeOf285
 v171:=Tryz.zeroValue285
 t173:=Tryz.underlying288
 a173:=Tryz.isAgg288
 z173:=Tryz.sizeOf288
 v173:=Tryz.zeroValue288
 t212:=Tryz.underlying315
 a212:=Tryz.isAgg315
 z212:=Tryz.sizeOf315
 v212:=Tryz.zeroValue315
 t213:=Tryz.underlying316
 a213:=Tryz.isAgg316
 z213:=Tryz.sizeOf316
 t232:=Tryz.underlying336
 a232:=Tryz.isAgg336
 z232:=Tryz.sizeOf336
 v232:=Tryz.zeroValue336
 t233:=Tryz.underlying337
 a233:=Tryz.isAgg337
 z233:=Tryz.sizeOf337
 v233:=Tryz.zeroValue337
 g17:=by kernel_rfl
 g18:=by kernel_rfl
 g19:=by kernel_rfl
 i0:=by kernel_rfl
 i2:=by kernel_rfl
 i3:=by kernel_rfl
 i4:=by kernel_rfl
 i5:=by kernel_rfl
 i9:=by kernel_rfl
 i20:=by kernel_rfl
 i37:=by kernel_rfl
 i46:=by kernel_rfl
 i51:=by kernel_rfl
 i53:=by kernel_rfl
 i171:=by kernel_rfl
 i173:=by kernel_rfl
 i212:=by kernel_rfl
 i232:=by kernel_rfl
 i233:=by kernel_rfl
 m17:=by kernel_rfl
 m18:=by kernel_rfl
 m19:=by kernel_rfl }
def Tryz.laysC172_ren:Go.Shelf.Ren:=⟨fun|172=>211|244=>229|245=>230|247=>245|279=>246|280=>247|281=>248|282=>249|287=>260|316=>261|171=>83|205=>262|321=>267|322=>268|243=>123|246=>169|283=>196|284=>197|285=>198|286=>199|129=>155|317=>220|318=>221|319=>222|320=>223|337=>237|338=>238|n=>n,fun|9=>9|3=>3|75=>301|76=>302|4=>4|5=>5|167=>328|37=>287|0=>0|85=>329|2=>2|168=>331|53=>241|175=>345|46=>185|210=>349|127=>354|145=>357|143=>355|21=>21|171=>285|173=>288|212=>315|51=>239|20=>20|213=>316|232=>336|233=>337|80=>360|n=>n,fun|15=>6|16=>7|17=>1|18=>2|19=>3|n=>n⟩
theorem Tryz.laysC172:Go.Proofs.LaysC.n172 prog Tryz.laysC172_ren:={
 mixed:=by kernel_rfl
 f129:=func155.trans (congrArg some (by kernel_rfl))
 f171:=func83.trans (congrArg some (by kernel_rfl))
 f172:=func211.trans (congrArg some (by kernel_rfl))
 f205:=func262.trans (congrArg some (by kernel_rfl))
 f243:=func123.trans (congrArg some (by kernel_rfl))
 f244:=func229.trans (congrArg some (by kernel_rfl))
 f245:=func230.trans (congrArg some (by kernel_rfl))
 f246:=func169.trans (congrArg some (by kernel_rfl))
 f247:=func245.trans (congrArg some (by kernel_rfl))
 f279:=func246.trans (congrArg some (by kernel_rfl))
 f280:=func247.trans (congrArg some (by kernel_rfl))
 f281:=func248.trans (congrArg some (by kernel_rfl))
 f282:=func249.trans (congrArg some (by kernel_rfl))
 f283:=func196.trans (congrArg some (by kernel_rfl))
 f284:=func197.trans (congrArg some (by kernel_rfl))
 f285:=func198.trans (congrArg some (by kernel_rfl))
 f286:=func199.trans (congrArg some (by kernel_rfl))
 f287:=func260.trans (congrArg some (by kernel_rfl))
 f316:=func261.trans (congrArg some (by kernel_rfl))
 f317:=func220.trans (congrArg some (by kernel_rfl))
 f318:=func221.trans (congrArg some (by kernel_rfl))
 f319:=func222.trans (congrArg some (by kernel_rfl))
 f320:=func223.trans (congrArg some (by kernel_rfl))
 f321:=func267.trans (congrArg some (by kernel_rfl))
 f322:=func268.trans (congrArg some (by kernel_rfl))
 f337:=func237.trans (congrArg some (by kernel_rfl))
 f338:=func238.trans (congrArg some (by kernel_rfl))
 t0:=Tryz.underlying0
 a0:=Tryz.isAgg0
 z0:=Tryz.sizeOf0
 v0:=Tryz.zeroValue0
 t2:=Tryz.underlying2
 a2:=Tryz.isAgg2
 z2:=Tryz.sizeOf2
 v2:=Tryz.zeroValue2
 t3:=Tryz.underlying3
 a3:=Tryz.isAgg3
 z3:=Tryz.sizeOf3
 v3:=Tryz.zeroValue3
 t4:=Tryz.underlying4
 a4:=Tryz.isAgg4
 z4:=Tryz.sizeOf4
 v4:=Tryz.zeroValue4
 t5:=Tryz.underlying5
 a5:=Tryz.isAgg5
 z5:=Tryz.sizeOf5
 v5:=Tryz.zeroValue5
 t9:=Tryz.underlying9
 a9:=Tryz.isAgg9
 z9:=Tryz.sizeOf9
 v9:=Tryz.zeroValue9
 t20:=Tryz.underlying20
 a20:=Tryz.isAgg20
 z20:=Tryz.sizeOf20
 v20:=Tryz.zeroValue20
 t21:=Tryz.underlying21
 a21:=Tryz.isAgg21
 z21:=Tryz.sizeOf21
 v21:=Tryz.zeroValue21
 t37:=Tryz.underlying287
 a37:=Tryz.isAgg287
 z37:=Tryz.sizeOf287
 v37:=Tryz.zeroValue287
 t46:=Tryz.underlying185
 a46:=Tryz.isAgg185
 z46:=Tryz.sizeOf185
 v46:=Tryz.zeroValue185
 t51:=Tryz.underlying239
 a51:=Tryz.isAgg239
 z51:=Tryz.sizeOf239
 v51:=Tryz.zeroValue239
 t53:=Tryz.underlying241
 a53:=Tryz.isAgg241
 z53:=Tryz.sizeOf241
 v53:=Tryz.zeroValue241
 t75:=Tryz.underlying301
 a75:=Tryz.isAgg301
 z75:=Tryz.sizeOf301
 v75:=Tryz.zeroValue301
 t76:=Tryz.underlying302
 a76:=Tryz.isAgg302
 z76:=Tryz.sizeOf302
 v76:=Tryz.zeroValue302
 t85:=Tryz.underlying329
 a85:=Tryz.isAgg329
 z85:=Tryz.sizeOf329
 v85:=Tryz.zeroValue329
 t127:=Tryz.underlying354
 a127:=Tryz.isAgg354
 z127:=Tryz.sizeOf354
 v127:=Tryz.zeroValue354
 t143:=Tryz.underlying355
 a143:=Tryz.isAgg355
 z143:=Tryz.sizeOf355
 v143:=Tryz.zeroValue355
 t145:=Tryz.underlying357
 a145:=Tryz.isAgg357
 z145:=Tryz.sizeOf357
 v145:=Tryz.zeroValue357
 t167:=Tryz.underlying328
 a167:=Tryz.isAgg328
 z167:=Tryz.sizeOf328
 v167:=Tryz.zeroValue328
 t168:=Tryz.underlying331
 a168:=Tryz.isAgg331
 z168:=Tryz.sizeOf331
 v168:=Tryz.zeroValue331
 t171:=Tryz.underlying285
 a171:=Tryz.isAgg285
 z171:=Tryz.sizeOf285
 v171:=Tryz.zeroValue285
 t173:=Tryz.underlying288
 a173:=Tryz.isAgg288
 z173:=Tryz.sizeOf288
 v173:=Tryz.zeroValue288
 t175:=Tryz.underlying345
 a175:=Tryz.isAgg345
 z175:=Tryz.sizeOf345
 v175:=Tryz.zeroValue345
 t210:=Tryz.underlying349
 a210:=Tryz.isAgg349
 z210:=Tryz.sizeOf349
 v210:=Tryz.zeroValue349
 t212:=Tryz.underlying315
 a212:=Tryz.isAgg315
 z212:=Tryz.sizeOf315
 v212:=Tryz.zeroValue315
 t213:=Tryz.underlying316
 a213:=Tryz.isAgg316
 z213:=Tryz.sizeOf316
 t232:=Tryz.underlying336
 a232:=Tryz.isAgg336
 z232:=Tryz.sizeOf336
 v232:=Tryz.zeroValue336
 t233:=Tryz.underlying337
 a233:=Tryz.isAgg337
 z233:=Tryz.sizeOf337
 v233:=Tryz.zeroValue337
 g15:=by kernel_rfl
 g16:=by kernel_rfl
 g17:=by kernel_rfl
 g18:=by kernel_rfl
 g19:=by kernel_rfl
 t80:=Tryz.underlying360
 a80:=Tryz.isAgg360
 z80:=Tryz.sizeOf360
 v80:=Tryz.zeroValue360
 i0:=by kernel_rfl
 i2:=by kernel_rfl
 i3:=by kernel_rfl
 i4:=by kernel_rfl
 i5:=by kernel_rfl
 i9:=by kernel_rfl
 i20:=by kernel_rfl
 i21:=by kernel_rfl
 i37:=by kernel_rfl
 i46:=by kernel_rfl
 i51:=by kernel_rfl
 i53:=by kernel_rfl
 i75:=by kernel_rfl
 i76:=by kernel_rfl
 i80:=by kernel_rfl
 i85:=by kernel_rfl
 i127:=by kernel_rfl
 i143:=by kernel_rfl
 i145:=by kernel_rfl
 i167:=by kernel_rfl
 i168:=by kernel_rfl
 i171:=by kernel_rfl
 i173:=by kernel_rfl
 i175:=by kernel_rfl
 i210:=by kernel_rfl
 i212:=by kernel_rfl
 i232:=by kernel_rfl
 i233:=by kernel_rfl
 m15:=by kernel_rfl
 m16:=by kernel_rfl
 m17:=by kernel_rfl
 m18:=by kernel_rfl
 m19:=by kernel_rfl
 c0:=by kernel_rfl
 c2:=by kernel_rfl
 c3:=by kernel_rfl
 c4:=by kernel_rfl
 c5:=by kernel_rfl
 c9:=by kernel_rfl
 c20:=by kernel_rfl
 c21:=by kernel_rfl
 c37:=by kernel_rfl
 c46:=by kernel_rfl
 c51:=by kernel_rfl
 c53:=by kernel_rfl
 c75:=by kernel_rfl
 c76:=by kernel_rfl
 c80:=by kernel_rfl
 c85:=by kernel_rfl
 c127:=by kernel_rfl
 c143:=by kernel_rfl
 c145:=by kernel_rfl
 c167:=by kernel_rfl
 c168:=by kernel_rfl
 c171:=by kernel_rfl
 c173:=by kernel_rfl
 c175:=by kernel_rfl
 c210:=by kernel_rfl
 c212:=by kernel_rfl
 c213:=by kernel_rfl
 c232:=by kernel_rfl
 c233:=by kernel_rfl }
def Tryz.lays101_ren:Go.Shelf.Ren:=⟨fun|101=>212|208=>231|206=>250|n=>n,fun|9=>9|4=>4|3=>3|n=>n,fun|n=>n⟩
theorem Tryz.lays101:Go.Proofs.Lays.n101 prog Tryz.lays101_ren:={
 mixed:=by kernel_rfl
 f101:=func212.trans (congrArg some (by kernel_rfl))
 f206:=func250.trans (congrArg some (by kernel_rfl))
 f208:=func231.trans (congrArg some (by kernel_rfl))
 t3:=Tryz.underlying3
 a3:=Tryz.isAgg3
 z3:=Tryz.sizeOf3
 v3:=Tryz.zeroValue3
 t4:=Tryz.underlying4
 a4:=Tryz.isAgg4
 z4:=Tryz.sizeOf4
 v4:=Tryz.zeroValue4
 t9:=Tryz.underlying9
 a9:=Tryz.isAgg9
 z9:=Tryz.sizeOf9
 v9:=Tryz.zeroValue9 }
def Tryz.lays146_ren:Go.Shelf.Ren:=⟨fun|146=>210|221=>228|268=>242|138=>243|143=>244|195=>257|197=>225|218=>258|219=>259|260=>239|217=>265|225=>256|224=>255|267=>266|266=>269|314=>270|n=>n,fun|9=>9|31=>76|3=>3|4=>4|0=>0|105=>318|21=>21|5=>5|46=>185|119=>338|139=>341|138=>340|146=>358|51=>239|n=>n,fun|1=>0|3=>4|4=>5|n=>n⟩
theorem Tryz.lays146:Go.Proofs.Lays.n146 prog Tryz.lays146_ren:={
 mixed:=by kernel_rfl
 f138:=func243.trans (congrArg some (by kernel_rfl))
 f143:=func244.trans (congrArg some (by kernel_rfl))
 f146:=func210.trans (congrArg some (by kernel_rfl))
 f195:=func257.trans (congrArg some (by kernel_rfl))
 f197:=func225.trans (congrArg some (by kernel_rfl))
 f217:=func265.trans (congrArg some (by kernel_rfl))
 f218:=func258.trans (congrArg some (by kernel_rfl))
 f219:=func259.trans (congrArg some (by kernel_rfl))
 f221:=func228.trans (congrArg some (by kernel_rfl))
 f224:=func255.trans (congrArg some (by kernel_rfl))
 f225:=func256.trans (congrArg some (by kernel_rfl))
 f260:=func239.trans (congrArg some (by kernel_rfl))
 f266:=func269.trans (congrArg some (by kernel_rfl))
 f267:=func266.trans (congrArg some (by kernel_rfl))
 f268:=func242.trans (congrArg some (by kernel_rfl))
 f314:=func270.trans (congrArg some (by kernel_rfl))
 t0:=Tryz.underlying0
 a0:=Tryz.isAgg0
 z0:=Tryz.sizeOf0
 v0:=Tryz.zeroValue0
 t3:=Tryz.underlying3
 a3:=Tryz.isAgg3
 z3:=Tryz.sizeOf3
 v3:=Tryz.zeroValue3
 t4:=Tryz.underlying4
 a4:=Tryz.isAgg4
 z4:=Tryz.sizeOf4
 v4:=Tryz.zeroValue4
 t5:=Tryz.underlying5
 a5:=Tryz.isAgg5
 z5:=Tryz.sizeOf5
 v5:=Tryz.zeroValue5
 t9:=Tryz.underlying9
 a9:=Tryz.isAgg9
 z9:=Tryz.sizeOf9
 v9:=Tryz.zeroValue9
 t21:=Tryz.underlying21
 a21:=Tryz.isAgg21
 z21:=Tryz.sizeOf21
 v21:=Tryz.zeroValue21
 t31:=Tryz.underlying76
 a31:=Tryz.isAgg76
 z31:=Tryz.sizeOf76
 v31:=Tryz.zeroValue76
 t46:=Tryz.underlying185
 a46:=Tryz.isAgg185
 z46:=Tryz.sizeOf185
 v46:=Tryz.zeroValue185
 t51:=Tryz.underlying239
 a51:=Tryz.isAgg239
 z51:=Tryz.sizeOf239
 v51:=Tryz.zeroValue239
 t105:=Tryz.underlying318
 a105:=Tryz.isAgg318
 z105:=Tryz.sizeOf318
 v105:=Tryz.zeroValue318
 t119:=Tryz.underlying338
 a119:=Tryz.isAgg338
 z119:=Tryz.sizeOf338
 t138:=Tryz.underlying340
 a138:=Tryz.isAgg340
 z138:=Tryz.sizeOf340
 v138:=Tryz.zeroValue340
 t139:=Tryz.underlying341
 a139:=Tryz.isAgg341
 z139:=Tryz.sizeOf341
 v139:=Tryz.zeroValue341
 t146:=Tryz.underlying358
 a146:=Tryz.isAgg358
 z146:=Tryz.sizeOf358
 v146:=Tryz.zeroValue358
 g1:=by kernel_rfl
 g3:=by kernel_rfl
 g4:=by kernel_rfl }
end Go.Proofs
namespace Go.Proofs.YtapdhfjfgpbnnaaGreatDoor
open Tryz
open Go.RowKit
def bV5(s:M):Bool:=match Lib.atoiAll s.data.toList with
 | .ok v=>(Lib.itoa v==s.data.toList)&&decide ((Lib.trimPrefix s.data.toList [45]).length<=9)
 | .range=>false
 | _=>false
def dB0(s:M):Int:=match Lib.atoiAll s.data.toList with
 | .ok v=>v
 | .range=>0
 | _=>0
def fJ0(c:UInt8):Bool:=decide (48<=c.toNat)&&decide (c.toNat<=57)
theorem eS0{n:Nat}(h:n < 10):fJ0 (UInt8.ofNat (48+n))=true:=by
 have h2:(UInt8.ofNat (48+n)).toNat=48+n:=by
  rw [UInt8.toNat_ofNat']
  omega
 unfold fJ0
 rw [h2,decide_eq_true G,decide_eq_true G];rfl
theorem dX4:∀(n:Nat),(Lib.decDigits n).all fJ0=true/\Lib.decDigits n≠ []:=by
 intro n
 induction n using Nat.strongRecOn with
 |ind n ih=>
  rw [Lib.decDigits]
  by_cases h:n < 10
  ·rw [dif_pos h]
   exact ⟨by rw [List.all_cons,eS0 h];rfl,by simp⟩
  ·rw [dif_neg h]
   obtain ⟨h1,h2⟩:=ih (n / 10) G
   refine ⟨?_,by simp⟩
   rw [List.all_append,h1,List.all_cons,eS0 (Nat.mod_lt _ bD)];rfl
def eV5:Nat:=1
def fQ0:Nat:=0
def eX5:Nat:=6
def eW5:Nat:=7
def rP(w:World):Prop:=
 (∃T f,w.heap[eV5]?=some (.cells (Lib.pow10Tab.map fun z=>Value.int .u64 z).toArray T f))/\
 (∃cs T f m,w.heap[fQ0]?=some (.cells cs T f)/\cs[0]?=some (J m))/\
 (∃T f tp p,w.heap[eX5]?=some (.cells #[.iface tp p] T f))/\
 (∃T f tp p,w.heap[eW5]?=some (.cells #[.iface tp p] T f))
def isG(k:Nat):Prop:=k=eV5∨k=fQ0∨k=eX5∨k=eW5
theorem rP.lt{w:World}(h:rP w){k:Nat}(hk:isG k):k < w.heap.size:=by
 obtain ⟨⟨_,_,h1⟩,⟨_,_,_,_,h2,_⟩,⟨_,_,_,_,h3⟩,⟨_,_,_,_,h4⟩⟩:=h
 rcases hk with rfl|rfl|rfl|rfl
 ·exact (Array.getElem?_eq_some_iff.1 h1).1
 ·exact (Array.getElem?_eq_some_iff.1 h2).1
 ·exact (Array.getElem?_eq_some_iff.1 h3).1
 ·exact (Array.getElem?_eq_some_iff.1 h4).1
theorem rP.same{w w':World}(h:rP w)(hk:∀k,isG k->w'.heap[k]?=w.heap[k]?):rP w':=by
 obtain ⟨⟨T1,f1,h1⟩,⟨cs,T2,f2,m,h2,h2b⟩,⟨T3,f3,t3,p3,h3⟩,⟨T4,f4,t4,p4,h4⟩⟩:=h
 exact ⟨⟨T1,f1,(hk _ (.inl D)).trans h1⟩,⟨cs,T2,f2,m,(hk _ (.inr (.inl D))).trans h2,h2b⟩,⟨T3,f3,t3,p3,(hk _ (.inr (.inr (.inl D)))).trans h3⟩,⟨T4,f4,t4,p4,(hk _ (.inr (.inr (.inr D)))).trans h4⟩⟩
def TxtO(N:Nat)(row:Option Nat)(w:World):Prop:=rP w/\∀k,isG k->k < N/\row≠some k
theorem rP.old{w:World}(h:rP w):TxtO w.heap.size none w:=⟨h,fun _ hk=>⟨h.lt hk,fun e=>by cases e⟩⟩
theorem TxtO.lasts{N : Nat}{row : Option Nat}{Tt : List TypeId} : Lasts2 N row Tt (TxtO N row) :=
  ⟨fun _ _ hg h => ⟨h.1.same fun k hk => hg.block k (h.1.lt hk) (fun e => by cases e), h.2⟩,
   fun w w' r T c _ _ h3 hg h => ⟨h.1.same fun k hk => hg.block k (h.1.lt hk) (fun e => by
      have e2 : k = r := by injection e
      subst e2
      have := h.2 k hk
      rcases h3 with h3 | h3
      · omega
      · exact this.2 h3), h.2⟩⟩
theorem bG2{w:World}:w.grownBy w none:=⟨rfl,rfl,rfl,Nat.le_refl _,fun _ _ _=>rfl⟩
theorem dI7{a w:World}(h:a.grownBy w none)(os:Array Obj):a.grownBy (Go.Sort.grow w os) none:=
 ⟨h.os,h.tape,h.output,Nat.le_trans h.size (by simp [Go.Sort.grow]),fun k hk hn=>by
  have hk2:=Nat.lt_of_lt_of_le hk h.size
  show (w.heap++os)[k]?=_
  rw [Array.getElem?_append_left hk2]
  exact h.block k hk hn⟩
theorem rP.pow{w:World}(h:rP w):Lib.TabIs prog w "internal/strconv.uint64pow10" .u64 Lib.pow10Tab:=by
 obtain ⟨⟨T1,f1,h1⟩,_⟩:=h
 have hn:prog.globalNamed "internal/strconv.uint64pow10"=some eV5:=by kernel_rfl
 unfold Lib.TabIs World.var?
 rw [hn]
 show (match w.heap[eV5]? with|some (.cells cs _ _)=>some cs|_=>none)=_
 rw [h1]
theorem rP.max{w:World}(h:rP w):∃m,w.cell? ⟨fQ0,0,none⟩=some (J m):=by
 obtain ⟨_,⟨cs,T2,f2,m,h2,h2b⟩,_⟩:=h
 exact ⟨m,by simp [World.cell?,h2,h2b]⟩
theorem rP.syn{w:World}(h:rP w):∃tp p,w.var? prog "strconv.ErrSyntax"=some #[.iface tp p]:=by
 obtain ⟨_,_,⟨T3,f3,t3,p3,h3⟩,_⟩:=h
 have hn:prog.globalNamed "strconv.ErrSyntax"=some eX5:=by kernel_rfl
 refine ⟨t3,p3,?_⟩
 unfold World.var?
 rw [hn]
 show (match w.heap[eX5]? with|some (.cells cs _ _)=>some cs|_=>none)=_
 rw [h3]
theorem rP.ran{w:World}(h:rP w):∃tp p,w.var? prog "strconv.ErrRange"=some #[.iface tp p]:=by
 obtain ⟨_,_,_,⟨T3,f3,t3,p3,h3⟩⟩:=h
 have hn:prog.globalNamed "strconv.ErrRange"=some eW5:=by kernel_rfl
 refine ⟨t3,p3,?_⟩
 unfold World.var?
 rw [hn]
 show (match w.heap[eW5]? with|some (.cells cs _ _)=>some cs|_=>none)=_
 rw [h3]
def bJ8(n:Int):M:=⟨(Lib.itoa n).toArray⟩
theorem cD1(n:Int)(w:World)(ht:rP w)(h0: -9223372036854775808<=n)(h1:n<=9223372036854775807):
 Calls prog 83 #[J n] w (fun e w'=>e=.returned (U (bJ8 n))/\w.grownBy w' none):=
 (Any.strconv_Itoa Tryz.laysM171 n h0 h1 w ht.pow).mono fun _ _ ⟨he,k,os,hw⟩=>⟨he,by
  subst hw
  exact dI7 (grow_drewN bG2 k) os⟩
theorem eW3(s p:M)(w:World):
 Calls prog 212 #[U s,U p] w (fun e w'=>e=.returned (U ⟨(Lib.trimPrefix s.data.toList p.data.toList).toArray⟩)/\w.grownBy w' none):=
 (Any.strings_TrimPrefix Tryz.lays101 s p w).mono fun _ _ ⟨he,hw⟩=>⟨he,hw ▸ bG2⟩
def bL4(s sep:M):List M:=Lib.splitB sep 0 (Lib.countB s sep) s
theorem dW9(s:M)(w:World)(ht:rP w)(hs:s.size<=1000000000):
 Calls prog 211 #[U s] w (fun e w'=>∃(v:Int) (E:Value),e=.returned (.tuple #[J v,E])/\((∃u,Lib.atoiAll s.data.toList= .ok u/\v=u/\E= .nilIface)∨((∀u,Lib.atoiAll s.data.toList≠ .ok u)/\∃T p,E= .iface T (.pointer (some p))))/\w.grownBy w' none):=by
 rcases ha:Lib.atoiAll s.data.toList with u|_|_
 ·refine (Any.strconv_Atoi_ok Tryz.laysC172 s G u ha w).mono fun _ w' ⟨he,hw⟩=>⟨u,.nilIface,he,.inl ⟨u,D,D,D⟩,?_⟩
  rcases hw with rfl|⟨t,rfl⟩
  ·exact bG2
  ·exact ⟨D,D,D,by rw [Lib.bytesWorld_size];omega,fun k hk _=>Lib.bytesWorld_at_old _ _ _ k hk⟩
 ·obtain ⟨tp,p,hv⟩:=ht.syn
  exact (Any.strconv_Atoi_syntax_var Tryz.laysC172 s G ha tp p w hv).mono fun _ _ ⟨N,he,_,_,hb⟩=>⟨0,_,he,.inr ⟨(fun u h=>by cases h),_,_,D⟩,xV hb⟩
 ·obtain ⟨tp,p,hv⟩:=ht.ran
  exact (Any.strconv_Atoi_range_var Tryz.laysC172 s G ha tp p w hv).mono fun _ _ ⟨N,he,_,_,hb⟩=>⟨_,_,he,.inr ⟨(fun u h=>by cases h),_,_,D⟩,xV hb⟩
section
variable {P:Program} {nn:Nat} {S:List (Nat×Value)} {Z:World->Prop} {d:Nat} {ty:TypeId} {pos:String} {aft:Array Edge}
def bM7(P:Program)(t:TypeId):Option IntKind:=
 match P.underlying t with
 |some (.int k)=>some k
 |_=>none
theorem yJ{t:TypeId}{k:IntKind}(h:bM7 P t=some k):P.underlying t=some (.int k):=by
 unfold bM7 at h
 cases hu:P.underlying t with
 |none=>simp [hu] at h
 |some dd=>cases dd <;> simp [hu] at h <;> simp [h]
theorem cJ7{s t:TypeId}{k:IntKind}{x:Operand}{a:Nat}(hs:bM7 P s=some .i64)(ht:bM7 P t=some .u64)(hx:rd S x=some (.int k (a:Int)))(ha:a<=9223372036854775807):OV P nn S Z ⟨some d,.convert s t x,ty,pos,aft,none⟩ (.int .u64 (a:Int)):=fun b w hb hm=>by
 have h1:IntKind.u64.wrap (a:Int)=(a:Int):=by rw [IntKind.wrap_u64];omega
 have hk:P.intKind t= .u64:=by simp [Program.intKind,yJ ht]
 have h2:=run_convert_int (P:=P) w s t k (a:Int) (by rw [yJ hs];rfl) (by rw [hk];exact yJ ht)
 rw [hk,h1] at h2
 simp [execOp,hb.eval hx,h2]
theorem cN1{s t:TypeId}{k:IntKind}{x:Operand}{a:Nat}(hs:(bM7 P s).isSome=true)(ht:bM7 P t=some .i64)(hx:rd S x=some (.int k (a:Int)))(ha:a<=9223372036854775807):OV P nn S Z ⟨some d,.convert s t x,ty,pos,aft,none⟩ (J (a:Int)):=fun b w hb hm=>by
 have h1:IntKind.i64.wrap (a:Int)=(a:Int):=IntWalk.i64_in _ G
 have hk:P.intKind t= .i64:=by simp [Program.intKind,yJ ht]
 obtain ⟨k',hk'⟩:=Option.isSome_iff_exists.1 hs
 have h2:=run_convert_int (P:=P) w s t k (a:Int) (by rw [yJ hk'];rfl) (by rw [hk];exact yJ ht)
 rw [hk,h1] at h2
 simp [execOp,hb.eval hx,h2]
theorem bX5{t t':TypeId}{x y:Operand}{a:Nat}(hx:rd S x=some (.int .u64 (a:Int)))(hy:rd S y=some (.int .u64 1)):OV P nn S Z ⟨some d,.binOp .shr t x y t',ty,pos,aft,none⟩ (.int .u64 ((a / 2:Nat):Int)):=
 ov_bin hx hy (fun w=>by simp [go_sem,IntKind.bits])
end
def qA(s:M)(j:Int):Int:=if h:0<=j/\j < s.size then ((s[j.toNat]'G).toNat:Int) else 0
theorem dX6(s:M)(j:Int):0<=qA s j/\qA s j<=255:=by
 unfold qA
 split
 ·have:=(s[j.toNat]'G).toNat_lt
  omega
 ·omega
section
variable {P:Program} {nn:Nat} {S:List (Nat×Value)} {Z:World->Prop} {d:Nat} {ty:TypeId} {pos:String} {aft:Array Edge}
theorem bY5{t:TypeId}{x y:Operand}{s:M}{j:Int}(ht:P.underlying t=some .string)(hx:rd S x=some (U s))(hy:rd S y=some (J j))(h0:0<=j)(h1:j < s.size):
 OV P nn S Z ⟨some d,.index t x y,ty,pos,aft,none⟩ (.int .u8 (qA s j)):=fun a w ha hm=>by
 have h:=run_index_string (P:=P) (w:=w) t s .i64 j ht
 rw [dif_pos ⟨h0,h1⟩] at h
 simp [execOp,ha.eval hx,ha.eval hy,h,qA,h0,h1]
end
theorem cW2{a:Nat}{l:List Nat}(h:wO (a::l)=true):a∉l/\wO l=true:=by
 simp only [wO,Bool.and_eq_true] at h
 refine ⟨fun hm=>?_,h.2⟩
 have:=List.all_eq_true.1 h.1 a hm
 simp at this
theorem gB.toOwn{c:Cx}{K:World->Prop}{L:List (Nat×TypeId×List Value)}{O:List Own}{X:List (World->Prop)}{w:World}(h:gB c K L O X w)(i:Nat)(ls:List Nat){g:Nat}{T:TypeId}{cs:List Value}(hi:L[i]?=some (g,T,cs))(hls:wO (i::ls)=true){n sz:Nat}(hcs:cs.length=n *sz)(hn:n<=maxLen):
 gB c K (rV L ls) (⟨H (some ⟨g,0,none⟩) n n,T,sz,n,cs⟩::O) X w:=by
 obtain ⟨hni,hl2⟩:=cW2 hls
 have hp:=h.pickL ls hl2
 have uG:=h.rowOf i hi hcs hn
 have hib:(⟨H (some ⟨g,0,none⟩) n n,T,sz,n,cs⟩:Own).v.ownBlock=some g:=rfl
 refine ⟨h.g,h.k,hp.b,hp.nd,fun r hr=>?_,fun r hr x hx=>?_,?_,h.x,h.kk,h.l,h.rs⟩
 ·rcases List.mem_cons.1 hr with rfl|hr
  ·exact uG
  ·exact h.o r hr
 ·rcases List.mem_cons.1 hr with rfl|hr
  ·obtain ⟨j,hj,hjx⟩:=nF hx
   intro e
   have hg:g=x.1:=by injection e
   have hij:i≠j:=fun e=>hni (e ▸ hj)
   obtain ⟨hi1,zI⟩:=List.getElem?_eq_some_iff.1 hi
   obtain ⟨hj1,hj2⟩:=List.getElem?_eq_some_iff.1 hjx
   rcases Nat.lt_or_gt_of_ne hij with hlt|hlt
   ·have:=List.pairwise_iff_getElem.1 h.nd i j hi1 hj1 hlt
    rw [zI,hj2] at this;exact this hg
   ·have:=List.pairwise_iff_getElem.1 h.nd j i hj1 hi1 hlt
    rw [zI,hj2] at this;exact this hg.symm
  ·exact hp.od r hr x hx
 ·refine List.Pairwise.cons (fun s hs b hb hsb=>?_) h.oo
  have hgb:g=b:=by injection hb
  subst hgb
  exact h.od s hs _ (fZ9 hi) hsb
section
variable {P:Program} {c:Cx} {fL:Array Oper} {Q:Exit->Act->World->Prop} {S:List (Nat×Value)} {K:World->Prop} {L:List (Nat×TypeId×List Value)} {O:List Own} {X:List (World->Prop)}
theorem eI4{l:List Oper}(i:Nat)(ls:List Nat){g:Nat}{T:TypeId}{cs:List Value}{n sz:Nat}(hi:L[i]?=some (g,T,cs))(hls:wO (i::ls)=true)(hcs:cs.length=n *sz)(hn:n<=maxLen)(h:WL P c fL Q l S K (rV L ls) (⟨H (some ⟨g,0,none⟩) n n,T,sz,n,cs⟩::O) X):WL P c fL Q l S K L O X:=fun a w ha hm=>h a w ha (hm.toOwn i ls hi hls hcs hn)
theorem cW0{code:Code}(i:Nat)(ls:List Nat){g:Nat}{T:TypeId}{cs:List Value}{n sz:Nat}(hi:L[i]?=some (g,T,cs))(hls:wO (i::ls)=true)(hcs:cs.length=n *sz)(hn:n<=maxLen)(h:Gw P c Q code S K (rV L ls) (⟨H (some ⟨g,0,none⟩) n n,T,sz,n,cs⟩::O) X):Gw P c Q code S K L O X:=fun a w ha hm=>h a w ha (hm.toOwn i ls hi hls hcs hn)
end
section
variable {P:Program} {c:Cx} {fL:Array Oper} {Q:Exit->Act->World->Prop} {rest:List Oper} {S:List (Nat×Value)} {K:World->Prop} {L:List (Nat×TypeId×List Value)} {O:List Own} {X:List (World->Prop)}
variable {d:Nat} {ty:TypeId} {pos:String} {aft:Array Edge}
theorem bB2{f:FuncId}{x:Operand}{ags:List Operand}{ats:Array TypeId}{vs fs cs:List Value}{v:Value}{r:Own}{xs':List Value}(i:Nat)(hO:O[i]?=some r)(hT:c.Tt.contains r.e=false)(hx:rd S x=some (.func (.func f) fs.toArray cs.toArray))(hf:cF P f=true)(ha:rB S ags=some vs)(hd:Nat.ble (d+1) c.n=true)
 (hC:∀w,gB c K L O X w->Calls P f (fs++vs++cs).toArray w (fun e w'=>e=.returned v/\w'.ownsRow c.w0.heap.size r.e r.sz r.v r.n xs'/\w.grownBy w' r.v.ownBlock)) (h:WL P c fL Q rest ((d,v)::S) K L (vH ⟨r.v,r.e,r.sz,r.n,xs'⟩ O i) X):
 WL P c fL Q (⟨some d,.call ⟨.value x,ags.toArray,ats⟩,ty,pos,aft,none⟩::rest) S K L O X:=
 fW (γ:=Unit) (val:=fun _=>v) (φ:=fun _=>True) (K':=fun _=>K) (L':=fun _=>L) (O':=fun _=>vH ⟨r.v,r.e,r.sz,r.n,xs'⟩ O i) (X':=fun _=>X) hx hf ha hd (fun w hm=>(hC w hm).mono fun _ _ ⟨he,ho,hg⟩=>⟨(),he,bB,hm.append hO hT ho hg (.inl rfl)⟩) (fun _ _=>h)
end
section
variable {P:Program} {nn:Nat} {S:List (Nat×Value)} {Z:World->Prop} {d:Nat} {ty:TypeId} {pos:String} {aft:Array Edge}
theorem eU6{t t':TypeId}{x y:Operand}{m n:M}(hx:rd S x=some (U m))(hy:rd S y=some (U n)):OV P nn S Z ⟨some d,.binOp .gtr t x y t',ty,pos,aft,none⟩ (.bool !(Op.bytesLess m.toList n.toList||m.toList==n.toList)):=
 ov_bin hx hy (fun w=>by simp [go_sem])
theorem cI7{t t':TypeId}{x y:Operand}{m n:M}(hx:rd S x=some (U m))(hy:rd S y=some (U n)):OV P nn S Z ⟨some d,.binOp .lss t x y t',ty,pos,aft,none⟩ (.bool (Op.bytesLess m.toList n.toList)):=
 ov_bin hx hy (fun w=>by simp [go_sem])
theorem eK2(k k':IntKind)(x y:Int):Builtin.min2 (.int k x) (.int k' y)=pure (.int k (min x y)):=by
 have e:(if y < x then y else x)=min x y:=by split <;> omega
 simp only [Builtin.min2,e]
theorem eI2(k k':IntKind)(x y:Int):Builtin.max2 (.int k x) (.int k' y)=pure (.int k (max x y)):=by
 have e:(if y > x then y else x)=max x y:=by split <;> omega
 simp only [Builtin.max2,e]
theorem eT6{ts:Array TypeId}{x y z u:Operand}{m n p q:Int}(hx:rd S x=some (J m))(hy:rd S y=some (J n))(hz:rd S z=some (J p))(hu:rd S u=some (J q)):OV P nn S Z ⟨some d,.call ⟨.builtin .min,#[x,y,z,u],ts⟩,ty,pos,aft,none⟩ (J (min (min (min m n) p) q)):=
 (fun a w ha hm=>by
  simp [execOp,resolve,invoke,builtin,ha.eval hx,ha.eval hy,ha.eval hz,ha.eval hu,Builtin.min_,eK2])
theorem eS6{ts:Array TypeId}{x y z u:Operand}{m n p q:Int}(hx:rd S x=some (J m))(hy:rd S y=some (J n))(hz:rd S z=some (J p))(hu:rd S u=some (J q)):OV P nn S Z ⟨some d,.call ⟨.builtin .max,#[x,y,z,u],ts⟩,ty,pos,aft,none⟩ (J (max (max (max m n) p) q)):=
 (fun a w ha hm=>by
  simp [execOp,resolve,invoke,builtin,ha.eval hx,ha.eval hy,ha.eval hz,ha.eval hu,Builtin.max_,eI2])
end
def gA(base:Nat)(e:TypeId)(sz n eX g:Nat)(xs:List Value)(w:World):Prop:=w.ownsRow base e sz (H (some ⟨g,0,none⟩) n eX) n xs
theorem gA.lt{base:Nat}{e:TypeId}{sz n eX g:Nat}{xs:List Value}{w:World}(h:gA base e sz n eX g xs w):base<=g/\g < w.heap.size:=(show w.ownsRow base e sz (H (some ⟨g,0,none⟩) n eX) n xs from h).lt g rfl
theorem gA.keeps{base:Nat}{e:TypeId}{sz n eX g:Nat}{xs:List Value}{N:Nat}(h:g < N):bF3 N (gA base e sz n eX g xs):=
 ⟨fun _ _ hg hk=>World.ownsRow.kept hk hg (.inr (fun e=>by simp [Value.ownBlock] at e)),fun _ _ r hr hg hk=>World.ownsRow.kept hk hg (.inr (fun e=>by
  have e:g=r:=by simpa [Value.ownBlock] using e
  omega))⟩
section
variable {P:Program} {c:Cx} {fL:Array Oper} {Q:Exit->Act->World->Prop} {rest:List Oper} {S:List (Nat×Value)} {L:List (Nat×TypeId×List Value)} {O:List Own} {X:List (World->Prop)} {d:Nat} {ty:TypeId} {pos:String} {aft:Array Edge}
theorem gA.get{α:Type}{enc:α->List Value}{base:Nat}{e:TypeId}{sz n eX g:Nat}{l:List α}{w:World}(h:gA base e sz n eX g (l.flatMap enc) w)(hk:∀x,(enc x).length=sz)(hl:l.length=n):SlT enc sz e w (some ⟨g,0,none⟩) n l:=SlT.ofOwn hk h hl
theorem xP{α:Type}{enc:α->List Value}{t:TypeId}{x y:Operand}{base g n eX sz o j r:Nat}{e:TypeId}{v:Value}{l:List α}{el el':α}(uG:c.row=some g)(hs:gQ P t=true)(hx:rd S x=some (.pointer (some ⟨g,o,none⟩)))(hy:rd S y=some v)(h1:v.oneCell'=true)
 (hk:∀x,(enc x).length=sz) (ho:0+j *sz+r=o) (hj:l[j]?=some el) (hl:l.length=n) (hr:r < sz) (he:(enc el).set r v=enc el') (hT:c.Tt.contains e=false)
 (h:WL P c fL Q rest S (gA base e sz n eX g ((l.set j el').flatMap enc)) L O X):WL P c fL Q (⟨none,.store t x y,ty,pos,aft,none⟩::rest) S (gA base e sz n eX g (l.flatMap enc)) L O X:=by
 intro a w ha hm
 refine wpList_plain D fun K' hK=>?_
 have hown:w.ownsRow base e sz (H (some ⟨g,0,none⟩) n eX) n (l.flatMap enc):=hm.k
 have hjl:=(List.getElem?_eq_some_iff.1 hj).1
 have hlt:j *sz+r < n *sz:=by
  have:(j+1) *sz<=n *sz:=Nat.mul_le_mul_right sz G
  rw [Nat.add_mul] at this
  omega
 have ho':o=j *sz+r:=G
 obtain ⟨u,hu⟩:∃u,(l.flatMap enc)[o]?=some u:=⟨_,fY9 (by rw [hown.1];omega)⟩
 have hc:w.cell? ⟨g,o,none⟩=some u:=by rw [hown.cellAt o G];exact hu
 have hst:(store ⟨g,o,none⟩ v).run P w= .ok () (w.setCell ⟨g,o,none⟩ v):=by
  rw [run_store P w _ _ _ h1]
  simp [hc,hown.frozenAt]
 have hv1:v.cells=#[v]:=by cases v <;> simp_all [Value.cells,Value.oneCell']
 unfold Oper.wp
 have:(execOp a.eval ⟨none,.store t x y,ty,pos,aft,none⟩).run P w= .ok .skip (w.setCell ⟨g,o,none⟩ v):=by
  simp only [execOp,ha.eval hx,ha.eval hy,Instr.storeAt,Instr.sureAddr,storeVar,hv1]
  simp [(bA0 hs w).2,storeCells,rZ,hst]
 rw [this]
 have hs2:=hown.stored o v
 rw [ho',bE7 enc sz hk hj he hr,<-ho'] at hs2
 refine hK _ _ (h _ _ ⟨ha.size,ha.val,ha.df⟩ ?_)
 have hg:w.grownBy (w.setCell ⟨g,o,none⟩ v) (some g):=hs2.2
 have hlt0:=hm.rs g uG
 obtain ⟨cells,hcells⟩:∃cells,w.heap[g]?=some (.cells cells e (0,0)):=by
  rcases hown.2 with ⟨h1,_⟩|⟨g',cap',uY,h1,_,h2,_⟩
  ·cases h1
  ·injection h1 with h1 _ _
   injection h1 with h1
   injection h1 with h1 _ _
   subst h1
   exact ⟨_,h2⟩
 refine ⟨grow_trans hm.g (uG ▸ hg),hs2.1,fun x hx=>⟨(hm.b x hx).1,(hm.b x hx).2.grown hg (fun e=>?_)⟩,hm.nd,fun r hr=>(hm.o r hr).kept hg ?_,hm.od,hm.oo,fun A hA=>?_,gA.keeps hlt0,hm.l,hm.rs⟩
 ·have:=(hm.b x hx).1;injection e with e;omega
 ·cases hv:r.v.ownBlock with
  |none=>exact .inl rfl
  |some g'=>exact .inr (fun e=>by have:=((hm.o r hr).lt g' hv).1;injection e with e;omega)
 ·exact (hm.l A hA).st w _ g e cells hcells (fun e=>by simp [e] at hT) (.inr uG) hg (hm.x A hA)
end
theorem gB.newOwnS{c:Cx}{L:List (Nat×TypeId×List Value)}{O:List Own}{X:List (World->Prop)}{w w':World}{TS:TypeId}{B sb m m':Nat}(h:gB c (fun w=>fQ TS w B sb m) L O X w)(uG:c.row=some sb)(hT:c.Tt.contains TS=false)(hS:fQ TS w' B sb m')(hg:w.grownBy w' (some sb)){v:Value}{e:TypeId}{sz n:Nat}{xs:List Value}(hown:w'.ownsRow w.heap.size e sz v n xs):gB c (fun w=>fQ TS w B sb m') L (⟨v,e,sz,n,xs⟩::O) X w':=by
 have h2:=h.strm uG hT hS hg Lasts2.true_ bB
 refine ⟨h2.g,h2.k,h2.b,h2.nd,fun r hr=>?_,fun r hr x hx=>?_,List.Pairwise.cons (fun x hx g hg' e'=>?_) h.oo,fun A hA=>h2.x A (List.mem_cons_of_mem _ hA),h2.kk,h.l,h.rs⟩
 ·rcases List.mem_cons.1 hr with rfl|hr
  ·refine ⟨hown.1,?_⟩
   rcases hown.2 with hn|⟨g,eX,uY,h1,h3,h4⟩
   ·exact .inl hn
   ·exact .inr ⟨g,eX,uY,h1,Nat.le_trans h.g.size h3,h4⟩
  ·exact h2.o r hr
 ·rcases List.mem_cons.1 hr with rfl|hr
  ·intro e'
   have h3:=(hown.lt _ e').1
   have h4:=(h.b x hx).2.lt
   omega
  ·exact h.od r hr x hx
 ·have h3:=(hown.lt _ hg').1
  have h4:=((h.o x hx).lt _ e').2
  omega
section
variable {P:Program} {c:Cx} {fL:Array Oper} {Q:Exit->Act->World->Prop} {rest:List Oper} {S:List (Nat×Value)} {L:List (Nat×TypeId×List Value)} {O:List Own} {X:List (World->Prop)} {d:Nat} {ty:TypeId} {pos:String} {aft:Array Edge}
theorem dM9{γ:Type}{TS:TypeId}{B sb m m':Nat}{f:FuncId}{x:Operand}{ags:List Operand}{ats:Array TypeId}{vs fs cs:List Value}{val:γ->Value}{φ:γ->Prop}(r:γ->Own)(hx:rd S x=some (.func (.func f) fs.toArray cs.toArray))(hf:cF P f=true)(ha:rB S ags=some vs)(hd:Nat.ble (d+1) c.n=true)(uG:c.row=some sb)(hT:c.Tt.contains TS=false)
 (hC:∀w,gB c (fun w=>fQ TS w B sb m) L O X w->Calls P f (fs++vs++cs).toArray w (fun e w'=>∃g,e=.returned (val g)/\φ g/\fQ TS w' B sb m'/\w.grownBy w' (some sb)/\w'.ownsRow w.heap.size (r g).e (r g).sz (r g).v (r g).n (r g).xs)) (h:∀g,φ g->WL P c fL Q rest ((d,val g)::S) (fun w=>fQ TS w B sb m') L (r g::O) X):
 WL P c fL Q (⟨some d,.call ⟨.value x,ags.toArray,ats⟩,ty,pos,aft,none⟩::rest) S (fun w=>fQ TS w B sb m) L O X:=
 fW (γ:=γ) (val:=val) (φ:=φ) (K':=fun _ w=>fQ TS w B sb m') (L':=fun _=>L) (O':=fun g=>r g::O) (X':=fun _=>X) hx hf ha hd (fun w hm=>(hC w hm).mono fun _ _ ⟨g,he,hφ,hS,hg,ho⟩=>⟨g,he,hφ,hm.newOwnS uG hT hS hg ho⟩) h
end
theorem fU{α:Type}{enc:α->List Value}{x:α}{z:Array Value}{sz:Nat}(hx:enc x=z.toList)(hz:z.size=sz)(h0:0 < sz):∀n:Nat,(madeCells z (n *sz)).toList=(List.replicate n x).flatMap enc
 |0=>by simp [madeCells]
 |n+1=>by
  have ih:=fU hx hz h0 n
  have e:(madeCells z ((n+1) *sz)).toList=(madeCells z (n *sz)).toList++z.toList:=by
   simp only [madeCells,Array.toList_map,Array.toList_range]
   rw [Nat.add_mul,Nat.one_mul,List.range_add,List.map_append,List.map_map]
   congr 1
   apply List.ext_getElem
   ·simp [hz]
   ·intro j h1 h2
    have hj:j < z.size:=by simpa using h2
    simp only [List.getElem_map,List.getElem_range,Function.comp]
    rw [hz,show (n *sz+j) % sz=j by rw [Nat.add_comm,Nat.add_mul_mod_self_right];exact Nat.mod_eq_of_lt G]
    simp [hj]
  rw [e,ih,List.replicate_succ',List.flatMap_append]
  simp [hx]
section
variable {P:Program} {nn:Nat} {S:List (Nat×Value)} {Z:World->Prop} {d:Nat} {ty:TypeId} {pos:String} {aft:Array Edge}
theorem vT{α:Type}{enc:α->List Value}{sz k q:Nat}{T:TypeId}{l:List α}{xx:α}{t:TypeId}{x:Operand}{b off m j o:Nat}{vs:List Value}(hs:kP P t=some q)(hx:rd S x=some (.pointer (some ⟨b,o,none⟩)))
 (hX:∀w,Z w->SlT enc sz T w (some ⟨b,off,none⟩) m l) (hj:l[j]?=some xx) (ho:off+j *sz+k=o) (hv:((enc xx).drop k).take q=vs) (hn:vs.length=q):OV P nn S Z ⟨some d,.load t x,ty,pos,aft,none⟩ (.agg vs.toArray):=
 zU hs hx (fun w hm=>by
  intro i v hi
  subst ho
  subst hv
  rw [List.getElem?_take] at hi
  split at hi
  ·rw [List.getElem?_drop] at hi
   have h:=bW7 (hX w hm) hj (k+i) v hi
   rw [<-Nat.add_assoc] at h
   exact h
  ·cases hi) hn
end
def dV9(P:Program)(t:TypeId):Option (Nat×Nat):=
 match P.underlying t with
 |some (.array n e)=>(P.info? e).map (fun i=>(n,i.size))
 |_=>none
section
variable {P:Program} {nn:Nat} {S:List (Nat×Value)} {Z:World->Prop} {d:Nat} {ty:TypeId} {pos:String} {aft:Array Edge}
theorem cP4{t:TypeId}{x y:Operand}{g o n sz j o':Nat}(ha':dV9 P t=some (n,sz))(hx:rd S x=some (.pointer (some ⟨g,o,none⟩)))(hy:rd S y=some (J (j:Int)))(hj:j < n)(ho:o+j *sz=o'):OV P nn S Z ⟨some d,.indexAddr t x y,ty,pos,aft,none⟩ (.pointer (some ⟨g,o',none⟩)):=fun a w ha hm=>by
 unfold dV9 at ha'
 split at ha'
 ·rename_i n' e hu
  cases hi:P.info? e with
  |none=>simp [hi] at ha'
  |some inf=>
   simp [hi] at ha'
   obtain ⟨rfl,rfl⟩:=ha'
   have hn:P.arrayLen t=n':=by simp [Program.arrayLen,hu]
   have he:P.elem t=e:=by simp [Program.elem,hu]
   have h1:(Instr.indexAt t (.pointer (some ⟨g,o,none⟩)) (J (j:Int))).run P w= .ok (.pointer (some ⟨g,o',none⟩)) w:=by
    rw [run_indexAt_array w t _ _ _ (by rw [hn,he];exact hu),if_pos ⟨G,by rw [hn];omega⟩]
    subst ho
    simp [sizeOf,typeInfo,he,hi,rZ]
   simp [execOp,ha.eval hx,ha.eval hy,h1]
 ·cases ha'
end
theorem SlT.takeT{α:Type}{enc:α->List Value}{k:Nat}{T:TypeId}{w:World}{A:Option Addr}{n q:Nat}{l:List α}(h:SlT enc k T w A n l)(hq:q<=n):SlT enc k T w A q (l.take q):=by
 refine ⟨by rw [List.length_take,h.len];omega,fun hn=>?_⟩
 obtain ⟨b,off,cells,fz,e,hh,hr⟩:=h.at_ G
 refine ⟨b,off,cells,fz,e,hh,fun i x hx j v hv=>hr i x ?_ j v hv⟩
 rw [List.getElem?_take] at hx
 split at hx
 ·exact hx
 ·cases hx
section
variable {c:Cx} {K:World->Prop} {L:List (Nat×TypeId×List Value)} {O:List Own} {X:List (World->Prop)} {w w':World}
theorem gB.blkFar(h:gB c K L O X w)(i j:Nat){g br:Nat}{T e:TypeId}{cs:List Value}{n eX sz n':Nat}{xs:List Value}(hi:L[i]?=some (g,T,cs))(hj:O[j]?=some ⟨H (some ⟨br,0,none⟩) n eX,e,sz,n',xs⟩):eC w.heap.size (some br) g T cs w:=
 ⟨⟨(h.blkI i hi).lt,fun e=>h.od _ (fZ9 hj) _ (fZ9 hi) e⟩,h.blkI i hi⟩
end
section
variable {P:Program} {nn:Nat} {S:List (Nat×Value)} {Z:World->Prop} {d:Nat} {ty:TypeId} {pos:String} {aft:Array Edge}
theorem fB{t t':TypeId}{x y:Operand}{m n:M}(hx:rd S x=some (U m))(hy:rd S y=some (U n))(h:m.size+n.size<=9223372036854775807):OV P nn S Z ⟨some d,.binOp .add t x y t',ty,pos,aft,none⟩ (U (m++n)):=
 ov_bin hx hy (fun w=>by
  have e:=run_string_add_sum (P:=P) w m n h
  simp [binOp_string_add,e,go_sem])
end
theorem eA5{l:List UInt8}{v:Int}(h:Lib.atoiAll l= .ok v): -9223372036854775808<=v/\v<=9223372036854775807:=by
 unfold Lib.atoiAll at h
 split at h
 ·cases h
 ·dsimp only at h
  split at h
  ·cases h
  ·cases h
  ·split at h
   ·cases h
   ·split at h
    ·cases h
    ·rename_i h1 h2
     injection h with h
     subst h
     split
     ·rename_i hn
      have:¬9223372036854775808 < _:=fun e=>h2 ⟨hn,e⟩
      omega
     ·rename_i hn
      have:¬9223372036854775808<=_:=fun e=>h1 ⟨hn,e⟩
      omega
theorem cS9{v:Int}{s:M}:((bJ8 v).toList==s.toList)=(Lib.itoa v==s.data.toList):=by
 unfold bJ8
 rw [ByteArray.toList_eq,ByteArray.toList_eq]
theorem fD1{s:M}{v:Int}(h:Lib.atoiAll s.data.toList= .ok v):bV5 s=((Lib.itoa v==s.data.toList)&&decide ((Lib.trimPrefix s.data.toList [45]).length<=9))/\dB0 s=v:=by
 unfold bV5 dB0;rw [h];exact ⟨rfl,rfl⟩
theorem eP2{s:M}(h:∀v,Lib.atoiAll s.data.toList≠ .ok v):bV5 s=false:=by
 unfold bV5
 rcases ha:Lib.atoiAll s.data.toList with v|_|_
 ·exact absurd ha (h v)
 ·rfl
 ·rfl
theorem eH9(l:List UInt8):(⟨l.toArray⟩:M).size=l.length:=by
 show l.toArray.size=l.length
 simp
theorem eR0(n:Nat):decide ((n:Int)<=9)=decide (n<=9):=by
 rw [decide_eq_decide];omega
theorem dH3(s:M)(w:World)(ht:rP w)(hs:s.size<=1000000):
 Calls prog 177 #[U s] w (fun e w'=>∃v,e=.returned (.tuple #[J v,.bool (bV5 s)])/\(bV5 s=true->v=dB0 s)/\w.grownBy w' none):=by
 refine cY ⟨26,w,none, []⟩ func177 D ntmps177 D (fZ (X:= [TxtO w.heap.size none]) (cC ht.old cZ) (cE TxtO.lasts dA)) (bX (cG D (cG D (bU (bX (bS D ?_))))))
 refine fK (γ:=Int×Value) (val:=(fun g=> .tuple #[J g.1,g.2])) (φ:=(fun g=>(∃u,Lib.atoiAll s.data.toList= .ok u/\g.1=u/\g.2= .nilIface)∨((∀u,Lib.atoiAll s.data.toList≠ .ok u)/\∃T p,g.2= .iface T (.pointer (some p))))) (Y:=(fun g=>fun _=>True)) D fF4 D D (fun wx hm=>(dW9 s wx (hm.fact 0 D).1 G).mono fun _ _ ⟨v,E,he,hE,hg⟩=>⟨(v,E),he,hE,hg,bB⟩) (fun _=>Lasts2.true_) ?_
 rintro ⟨v,E⟩ hE
 dsimp only at hE ⊢
 rcases hE with ⟨u,hu,rfl,rfl⟩|⟨hno,T,p,rfl⟩
 ·have hbd:=eA5 hu
  obtain ⟨qV,hn2⟩:=fD1 hu
  refine bS D (W (cV D D) D (W (cV D D) D (cG D (cG D (bU (bX (bS D (bS D (W (ov_bin (v:= .bool true) D D (fun _=>by kernel_rfl)) D (bS D (eN D (bS D (eN D (cR D eZ9 D D (fun wx hm=>(cD1 v wx (hm.fact 1 D).1 G G)) (eN D (bS D (eN D (W (eS D D) D (mS D D (bS D ?_))))))))))))))))))))
  rcases Bool.eq_false_or_eq_true ((bJ8 v).toList==s.toList) with he|he
  ·refine bO 20 D (fW9 he) ?_
   refine eN D (bS D (eN D (cR D fG4 D D (fun wx hm=>(eW3 s ⟨#[45]⟩ wx)) (eN D (W (zT us9 D) D (eN D (W (mJ D D) D (mS D D (cG D (cG D (bU (bR ?_))))))))))))
   refine nU D D D fun wx hm=>?_
   exact ⟨v,by rw [qV,<-cS9,he,Bool.true_and,eH9,eR0],fun _=>hn2.symm,hm.g⟩
  refine bO 20 D (fW9 he) (eE D (eE D (eE D (eE D (nV D D (cG D (cG D (bU (bR ?_)))))))))
  refine nU D D D fun wx hm=>?_
  exact ⟨v,by rw [qV,<-cS9,he];rfl,fun _=>hn2.symm,hm.g⟩
 refine bS D (W (cV D D) D (W (cV D D) D (cG D (cG D (bU (bX (bS D (bS D (W (ov_bin (v:= .bool false) D D (fun _=>by kernel_rfl)) D (bS D (eE D (eE D (eE D (eE D (nV D D (bS D (eE D (eE D (eE D (eE D (nV D D (cG D (cG D (bU (bR ?_)))))))))))))))))))))))))
 refine nU D D D fun wx hm=>?_
 exact ⟨_,by rw [eP2 hno],fun h=>by (rw [eP2 hno] at h;cases h),hm.g⟩
def kV(x:Int):List Value:= [J x]
def eqP(k:M)(y:M):Bool:=k.toList==y.toList
theorem dQ9(s sep:M)(h1:1<=sep.size):(bL4 s sep).length=Lib.countB s sep+1:=Lib.splitB_all sep h1 0 _ s rfl
theorem dG4(l:List M)(A:Option Addr)(n c:Nat)(k:M)(w:World)(hl:SlT dU 1 9 w A n l)(hn:n<=1000001):
 Calls prog 158 #[H A n c,U k] w (nG w (kL (eqP k) l 0)):=by
 refine cY ⟨19,w,none, []⟩ func158 D ntmps158 D (fZ (X:= [bT dU 1 9 w.heap.size none A n l]) (cC hl.old cZ) (cE bT.lasts dA)) (bX ?_)
 have hlen:=hl.len
 refine cG D (bU (bJ (bX (bS D (W (dP mD D) D (bS D (bU (bP ?_))))))))
 refine dS (γ:=Nat) (fun (i:Nat)=>i<=n/\kL (eqP k) l 0=kL (eqP k) (l.drop i) i) (fun (i:Nat)=> [(0,H A n c),(1,U k),(7,I n),(8,I i)]) (fun (i:Nat)=>fun _=>True) (fun (i:Nat)=> []) (fun (i:Nat)=> []) (fun (i:Nat)=> [bT dU 1 9 w.heap.size none A n l]) (fun (i:Nat)=>n - i) 0 ⟨Nat.zero_le _,D⟩ ⟨D,D,D,D,bB⟩ (fun _ hm=>hm.pick [] [] [0] D D) ?_
 intro i bZ
 replace bZ:i<=n/\kL (eqP k) l 0=kL (eqP k) (l.drop i) i:=bZ
 refine bX (W (dF D D) D (bU (bJ ?_)))
 refine cN D (fun hi=>?_) (fun hi=>?_)
 ·refine bN (bG (bJ (bP (bX ?_))))
  obtain ⟨b,off,hA,_,_⟩:=hl.get G
  subst hA
  obtain ⟨x,hx⟩:∃x,l[i]?=some x:=⟨_,fY9 G⟩
  have hat:=bS1 (p:=eqP k) hx
  refine bS D (cG D (bU (bX (bS D (bS D (bS D (W (bV (j:=i) mD D D G) D (W (dH (k:=0) (v:=U x) fR D (fun _ hm=>(hm.fact 0 D).1) hx D D) D (W (eS D D) D (bU ?_))))))))))
  refine dE D (fun hh=>?_) (fun hh=>?_)
  ·have hq:(k.toList==x.toList)=true:=by simpa using hh
   refine bX ?_
   have hq2:eqP k x=true:=hq
   refine bS D (cG D (bU (bR (C (F (F (C (F ?_))))))))
   exact bQ D D fun wx hm=>⟨cL (by rw [bZ.2,hat,if_pos hq2]),hm.g⟩
  have hq:(k.toList==x.toList)=false:=by simpa using hh
  refine bN (bK (bG (bM ?_)))
  have hq2:eqP k x=false:=hq
  refine fY D D (bS D (bH ?_))
  exact cQ (i+1) ⟨G,by rw [bZ.2,hat,if_neg (by rw [hq2];decide)]⟩ G ⟨D,D,D,(cP G),bB⟩ (fun _ hm=>hm.pick [] [] [0] D D)
 refine dD (bI (bI (bY (bG (bX (cG D (bO 4 (v':=J (-1)) D D (bU (bR ?_)))))))))
 exact bQ D D fun wx hm=>⟨cL (by rw [bZ.2,List.drop_eq_nil_of_le G];rfl),hm.g⟩
theorem eL7{p:M->Bool}{l:List M}:decide (0<=kL p l 0)=l.any p:=by
 rcases vR (p:=p) l 0 with ⟨h,h2⟩|⟨j,y,h,hj,hp,_⟩
 ·rw [h,decide_eq_false G]
  exact (List.any_eq_false.2 fun x hx=>by simpa using h2 x hx).symm
 ·rw [h,decide_eq_true G]
  exact (List.any_eq_true.2 ⟨y,fZ9 hj,hp⟩).symm
theorem cP3(l:List M)(A:Option Addr)(n c:Nat)(k:M)(w:World)(hl:SlT dU 1 9 w A n l)(hn:n<=1000001):
 Calls prog 114 #[H A n c,U k] w (fun e w'=>e=.returned (.bool (l.any (eqP k)))/\w.grownBy w' none):=by
 refine cY ⟨9,w,none, []⟩ func114 D ntmps114 D (fZ (X:= [bT dU 1 9 w.heap.size none A n l]) (cC hl.old cZ) (cE bT.lasts dA)) (bX (cG D (bU (bX (bS D (bS D (cR D eF0 D D (fun wx hm=>(dG4 l A n c k wx (hm.fact 0 D).1 hn)) (W (mE D D) D (cG D (bU (bR ?_)))))))))))
 exact bQ D D fun wx hm=>⟨by rw [eL7],hm.g⟩
def wdL(s:M):List M:=bL4 s ⟨#[32]⟩
def wdB(s:M):Bool:= !((wdL s).any (eqP ⟨#[]⟩))
theorem bV8{r:Own}:∀{O:List Own} {i:Nat},O[i]?=some r->vH r O i=O
 | [],i,h=>by simp at h
 |x::t,0,h=>by
  simp at h;subst h;rfl
 |x::t,i+1,h=>by
  have h2:t[i]?=some r:=by simpa using h
  simp only [vH,bV8 h2]
section
variable {P:Program} {c:Cx} {fL:Array Oper} {Q:Exit->Act->World->Prop} {rest:List Oper} {S:List (Nat×Value)} {K:World->Prop} {L:List (Nat×TypeId×List Value)} {O:List Own} {X:List (World->Prop)}
variable {d:Nat} {ty:TypeId} {pos:String} {aft:Array Edge}
theorem dM4{t e e2:TypeId}{sz by_:Nat}{x y:Operand}{m n:Nat}{v vy:Value}{xs ys:List Value}(i j:Nat)(ht:xQ P t=some (e,sz,by_))(hx:rd S x=some v)(hO:O[i]?=some ⟨v,e,sz,n,xs⟩)(hy:rd S y=some vy)(hO2:O[j]?=some ⟨vy,e2,sz,m,ys⟩)
 (h1:∀u∈ys,u.oneCell'=true) (hb:(n+m) *by_<=140737488355328) (h63:n+m<=maxLen) (hT:c.Tt.contains e=false) (hd:Nat.ble (d+1) c.n=true)
 (h:∀v',(v'=H none 0 0↔v=H none 0 0/\m=0)->WL P c fL Q rest ((d,v')::S) K L (vH ⟨v',e,sz,n+m,xs++ys⟩ O i) X):WL P c fL Q (⟨some d,.call ⟨.builtin .append,#[x,y],#[t,t]⟩,ty,pos,aft,none⟩::rest) S K L O X:=by
 intro a w ha hm
 unfold xQ at ht
 split at ht
 ·rename_i e' hu
  split at ht
  ·rename_i inf hi
   split at ht
   ·rename_i z hz
    split at ht
    ·rename_i hzz
     simp only [Option.some.injEq,Prod.mk.injEq] at ht
     obtain ⟨rfl,rfl,rfl⟩:=ht
     have hown:=hm.o _ (fZ9 hO)
     have hown2:=hm.o _ (fZ9 hO2)
     obtain ⟨hlen,hcase⟩:=hown2
     rcases hcase with ⟨hv,hm0⟩|⟨g,eX,uY,hv,_,hh,_,_,_,htk⟩
     ·have hv:vy=H none 0 0:=hv
      have hm0:m=0:=hm0
      have hys:ys= []:=List.eq_nil_of_length_eq_zero (by
       have:ys.length=m *inf.size:=hlen
       rw [this,hm0,Nat.zero_mul])
      subst hv hm0 hys
      refine wpList_append_own_none D x y t D c.w0.heap.size e' inf inf.size hu hi v n xs (ha.eval hx) hown (ha.eval hy) ?_
      have h2:=h v ⟨fun hh=>⟨hh,rfl⟩,fun hh=>hh.1⟩
      rw [List.append_nil,Nat.add_zero,bV8 hO] at h2
      exact h2 _ _ (ha.put hd _) hm
     ·have hv:vy=H (some ⟨g,0,none⟩) m eX:=hv
      have htk:uY.toList.take (m *inf.size)=ys:=htk
      have hh:w.heap[g]?=some (.cells uY e2 (0,0)):=hh
      subst hv
      refine wpList_append_own_at _ D x y t D c.w0.heap.size e' inf z inf.size inf.bytes hu hi hz D D hzz.1 hzz.2 v n xs (ha.eval hx) hown ⟨g,0,none⟩ m eX ys (ha.eval hy) hlen (fun k u hk=>?_) h1 h63 hb hm.g.size fun v' w' h2 h3 h4 h5=>?_
      ·rw [rZ,Nat.zero_add,cell_of_row w g k uY e2 (0,0) hh]
       rw [show ys=uY.toList.take (m *inf.size) from htk.symm,List.getElem?_take] at hk
       split at hk
       ·simpa using hk
       ·cases hk
      ·exact h v' h4 _ _ (ha.put hd _) (hm.append hO hT h2 h3 h5)
    ·cases ht
   ·cases ht
  ·cases ht
 ·cases ht
end
theorem kC:bY8 prog 9 dT:=fU8
noncomputable def mV:M->Option M:=gZ (gZ (gZ (gZ (gZ (gZ (gZ (gZ (gZ (gZ (gZ (gZ (gZ (pD) ⟨#[101,110,116,101,114]⟩ ⟨#[119,119]⟩) ⟨#[115,104,111,112]⟩ ⟨#[119,119]⟩) ⟨#[100,111,110,101]⟩ ⟨#[119,119]⟩) ⟨#[99,111,109,101]⟩ ⟨#[119,119]⟩) ⟨#[103,111,110,101]⟩ ⟨#[119,119]⟩) ⟨#[108,101,97,118,101]⟩ ⟨#[119,119,119]⟩) ⟨#[98,111,111,107]⟩ ⟨#[119,119,110,110,110]⟩) ⟨#[99,97,110,99,101,108]⟩ ⟨#[119]⟩) ⟨#[115,116,97,114,116]⟩ ⟨#[119,119,110,119,119,110,110]⟩) ⟨#[115,119,97,112]⟩ ⟨#[119,119,110,110,119,110,110]⟩) ⟨#[101,120,116,101,110,100]⟩ ⟨#[119,110]⟩) ⟨#[99,108,111,115,101]⟩ ⟨#[119,119,110,110]⟩) ⟨#[112,97,121]⟩ ⟨#[119,110]⟩
noncomputable def gM:M->Option Int:=gZ (gZ (gZ (gZ (gZ (gZ (pD) ⟨#[101,110,116,101,114]⟩ 1) ⟨#[115,104,111,112]⟩ 4) ⟨#[100,111,110,101]⟩ 5) ⟨#[99,111,109,101]⟩ 7) ⟨#[103,111,110,101]⟩ 8) ⟨#[108,101,97,118,101]⟩ 6
theorem bE8{k f:M}(h:mV k=some f):(k=⟨#[112,97,121]⟩/\f=⟨#[119,110]⟩)∨(k=⟨#[99,108,111,115,101]⟩/\f=⟨#[119,119,110,110]⟩)∨(k=⟨#[101,120,116,101,110,100]⟩/\f=⟨#[119,110]⟩)∨(k=⟨#[115,119,97,112]⟩/\f=⟨#[119,119,110,110,119,110,110]⟩)∨(k=⟨#[115,116,97,114,116]⟩/\f=⟨#[119,119,110,119,119,110,110]⟩)∨(k=⟨#[99,97,110,99,101,108]⟩/\f=⟨#[119]⟩)∨(k=⟨#[98,111,111,107]⟩/\f=⟨#[119,119,110,110,110]⟩)∨(k=⟨#[108,101,97,118,101]⟩/\f=⟨#[119,119,119]⟩)∨(k=⟨#[103,111,110,101]⟩/\f=⟨#[119,119]⟩)∨(k=⟨#[99,111,109,101]⟩/\f=⟨#[119,119]⟩)∨(k=⟨#[100,111,110,101]⟩/\f=⟨#[119,119]⟩)∨(k=⟨#[115,104,111,112]⟩/\f=⟨#[119,119]⟩)∨(k=⟨#[101,110,116,101,114]⟩/\f=⟨#[119,119]⟩):=by
 unfold mV at h
 rcases fI h with h|h
 ·exact .inl h
 rcases fI h with h|h
 ·exact .inr (.inl h)
 rcases fI h with h|h
 ·exact .inr (.inr (.inl h))
 rcases fI h with h|h
 ·exact .inr (.inr (.inr (.inl h)))
 rcases fI h with h|h
 ·exact .inr (.inr (.inr (.inr (.inl h))))
 rcases fI h with h|h
 ·exact .inr (.inr (.inr (.inr (.inr (.inl h)))))
 rcases fI h with h|h
 ·exact .inr (.inr (.inr (.inr (.inr (.inr (.inl h))))))
 rcases fI h with h|h
 ·exact .inr (.inr (.inr (.inr (.inr (.inr (.inr (.inl h)))))))
 rcases fI h with h|h
 ·exact .inr (.inr (.inr (.inr (.inr (.inr (.inr (.inr (.inl h))))))))
 rcases fI h with h|h
 ·exact .inr (.inr (.inr (.inr (.inr (.inr (.inr (.inr (.inr (.inl h)))))))))
 rcases fI h with h|h
 ·exact .inr (.inr (.inr (.inr (.inr (.inr (.inr (.inr (.inr (.inr (.inl h))))))))))
 rcases fI h with h|h
 ·exact .inr (.inr (.inr (.inr (.inr (.inr (.inr (.inr (.inr (.inr (.inr (.inl h)))))))))))
 rcases fI h with h|h
 ·exact .inr (.inr (.inr (.inr (.inr (.inr (.inr (.inr (.inr (.inr (.inr (.inr (h))))))))))))
 cases h
theorem eG{a b:M}(h:a.data.toList≠b.data.toList):a≠b:=fun e=>h (by rw [e])
theorem cT9:gM ⟨#[101,110,116,101,114]⟩=some 1:=by
 unfold gM
 rw [dN _ _ (eG bD),dN _ _ (eG bD),dN _ _ (eG bD),dN _ _ (eG bD),dN _ _ (eG bD),mI]
theorem dA3:gM ⟨#[115,104,111,112]⟩=some 4:=by
 unfold gM
 rw [dN _ _ (eG bD),dN _ _ (eG bD),dN _ _ (eG bD),dN _ _ (eG bD),mI]
theorem dY2:gM ⟨#[100,111,110,101]⟩=some 5:=by
 unfold gM
 rw [dN _ _ (eG bD),dN _ _ (eG bD),dN _ _ (eG bD),mI]
theorem dX2:gM ⟨#[99,111,109,101]⟩=some 7:=by
 unfold gM
 rw [dN _ _ (eG bD),dN _ _ (eG bD),mI]
theorem dZ2:gM ⟨#[103,111,110,101]⟩=some 8:=by
 unfold gM
 rw [dN _ _ (eG bD),mI]
theorem cU9:gM ⟨#[108,101,97,118,101]⟩=some 6:=by
 unfold gM
 rw [mI]
theorem cE1:gM ⟨#[98,111,111,107]⟩=none:=by
 unfold gM
 rw [dN _ _ (eG bD),dN _ _ (eG bD),dN _ _ (eG bD),dN _ _ (eG bD),dN _ _ (eG bD),dN _ _ (eG bD)];rfl
theorem bP5:gM ⟨#[99,97,110,99,101,108]⟩=none:=by
 unfold gM
 rw [dN _ _ (eG bD),dN _ _ (eG bD),dN _ _ (eG bD),dN _ _ (eG bD),dN _ _ (eG bD),dN _ _ (eG bD)];rfl
theorem bN8:gM ⟨#[115,116,97,114,116]⟩=none:=by
 unfold gM
 rw [dN _ _ (eG bD),dN _ _ (eG bD),dN _ _ (eG bD),dN _ _ (eG bD),dN _ _ (eG bD),dN _ _ (eG bD)];rfl
theorem cF1:gM ⟨#[115,119,97,112]⟩=none:=by
 unfold gM
 rw [dN _ _ (eG bD),dN _ _ (eG bD),dN _ _ (eG bD),dN _ _ (eG bD),dN _ _ (eG bD),dN _ _ (eG bD)];rfl
theorem bQ5:gM ⟨#[101,120,116,101,110,100]⟩=none:=by
 unfold gM
 rw [dN _ _ (eG bD),dN _ _ (eG bD),dN _ _ (eG bD),dN _ _ (eG bD),dN _ _ (eG bD),dN _ _ (eG bD)];rfl
theorem bM8:gM ⟨#[99,108,111,115,101]⟩=none:=by
 unfold gM
 rw [dN _ _ (eG bD),dN _ _ (eG bD),dN _ _ (eG bD),dN _ _ (eG bD),dN _ _ (eG bD),dN _ _ (eG bD)];rfl
theorem cN4:gM ⟨#[112,97,121]⟩=none:=by
 unfold gM
 rw [dN _ _ (eG bD),dN _ _ (eG bD),dN _ _ (eG bD),dN _ _ (eG bD),dN _ _ (eG bD),dN _ _ (eG bD)];rfl
theorem cD4(w:World):Calls prog 135 #[] w (fun e w'=>∃g,e=.returned (.map (some g))/\cB vS dT w.heap.size g mV w'/\w.grownBy w' none):=by
 refine cY ⟨3,w,none, []⟩ func135 D ntmps135 D (fZ (X:= []) cZ dA) (bX (cG D (bU (bX (mH (enc:=vS) (ek:=dT) (fun g=>True) (fun _ hm=>bB) D fun mp1 hne_mp1=>jH (enc:=vS) (ek:=dT) (s:=⟨#[101,110,116,101,114]⟩) (v:=⟨#[119,119]⟩) (e:=9) (X':= []) 0 kC bC D D D D gK (jH (enc:=vS) (ek:=dT) (s:=⟨#[115,104,111,112]⟩) (v:=⟨#[119,119]⟩) (e:=9) (X':= []) 0 kC bC D D D D gK (jH (enc:=vS) (ek:=dT) (s:=⟨#[100,111,110,101]⟩) (v:=⟨#[119,119]⟩) (e:=9) (X':= []) 0 kC bC D D D D gK (jH (enc:=vS) (ek:=dT) (s:=⟨#[99,111,109,101]⟩) (v:=⟨#[119,119]⟩) (e:=9) (X':= []) 0 kC bC D D D D gK (jH (enc:=vS) (ek:=dT) (s:=⟨#[103,111,110,101]⟩) (v:=⟨#[119,119]⟩) (e:=9) (X':= []) 0 kC bC D D D D gK (jH (enc:=vS) (ek:=dT) (s:=⟨#[108,101,97,118,101]⟩) (v:=⟨#[119,119,119]⟩) (e:=9) (X':= []) 0 kC bC D D D D gK (jH (enc:=vS) (ek:=dT) (s:=⟨#[98,111,111,107]⟩) (v:=⟨#[119,119,110,110,110]⟩) (e:=9) (X':= []) 0 kC bC D D D D gK (jH (enc:=vS) (ek:=dT) (s:=⟨#[99,97,110,99,101,108]⟩) (v:=⟨#[119]⟩) (e:=9) (X':= []) 0 kC bC D D D D gK (jH (enc:=vS) (ek:=dT) (s:=⟨#[115,116,97,114,116]⟩) (v:=⟨#[119,119,110,119,119,110,110]⟩) (e:=9) (X':= []) 0 kC bC D D D D gK (jH (enc:=vS) (ek:=dT) (s:=⟨#[115,119,97,112]⟩) (v:=⟨#[119,119,110,110,119,110,110]⟩) (e:=9) (X':= []) 0 kC bC D D D D gK (jH (enc:=vS) (ek:=dT) (s:=⟨#[101,120,116,101,110,100]⟩) (v:=⟨#[119,110]⟩) (e:=9) (X':= []) 0 kC bC D D D D gK (jH (enc:=vS) (ek:=dT) (s:=⟨#[99,108,111,115,101]⟩) (v:=⟨#[119,119,110,110]⟩) (e:=9) (X':= []) 0 kC bC D D D D gK (jH (enc:=vS) (ek:=dT) (s:=⟨#[112,97,121]⟩) (v:=⟨#[119,110]⟩) (e:=9) (X':= []) 0 kC bC D D D D gK (bS D (cG D (bU (bR ?_)))))))))))))))))))))
 exact bQ D D fun wx hm=>⟨mp1,D,(hm.fact 0 D),hm.g⟩
theorem qW(w:World):Calls prog 136 #[] w (fun e w'=>∃g,e=.returned (.map (some g))/\cB vI dT w.heap.size g gM w'/\w.grownBy w' none):=by
 refine cY ⟨3,w,none, []⟩ func136 D ntmps136 D (fZ (X:= []) cZ dA) (bX (cG D (bU (bX (mH (enc:=vI) (ek:=dT) (fun g=>True) (fun _ hm=>bB) D fun mp1 hne_mp1=>jH (enc:=vI) (ek:=dT) (s:=⟨#[101,110,116,101,114]⟩) (v:=1) (e:=3) (X':= []) 0 kC bC D D D D gK (jH (enc:=vI) (ek:=dT) (s:=⟨#[115,104,111,112]⟩) (v:=4) (e:=3) (X':= []) 0 kC bC D D D D gK (jH (enc:=vI) (ek:=dT) (s:=⟨#[100,111,110,101]⟩) (v:=5) (e:=3) (X':= []) 0 kC bC D D D D gK (jH (enc:=vI) (ek:=dT) (s:=⟨#[99,111,109,101]⟩) (v:=7) (e:=3) (X':= []) 0 kC bC D D D D gK (jH (enc:=vI) (ek:=dT) (s:=⟨#[103,111,110,101]⟩) (v:=8) (e:=3) (X':= []) 0 kC bC D D D D gK (jH (enc:=vI) (ek:=dT) (s:=⟨#[108,101,97,118,101]⟩) (v:=6) (e:=3) (X':= []) 0 kC bC D D D D gK (bS D (cG D (bU (bR ?_))))))))))))))
 exact bQ D D fun wx hm=>⟨mp1,D,(hm.fact 0 D),hm.g⟩
theorem dY8(s sep:M)(w:World)(ht:rP w)(hs:s.size<=1000000)(h1:1<=sep.size):
 Calls prog 210 #[U s,U sep] w (fun e w'=>∃g n,e=.returned (H (some ⟨g,0,none⟩) n n)/\(w.heap.size<=g/\Blk w' g 9 ((bL4 s sep).flatMap dU))/\(bL4 s sep).length=n/\(1<=n/\n<=s.size+1)/\w.grownBy w' none):=by
 obtain ⟨mx,hm⟩:=ht.max
 refine (Any.strings_Split Tryz.lays146 bC s sep mx w G hm h1).mono fun e w' ⟨he,hw⟩=>⟨w.heap.size,Lib.countB s sep+1,he,⟨Nat.le_refl _,?_⟩,dQ9 s sep h1,⟨G,?_⟩,?_⟩
 ·have e1:(bL4 s sep).flatMap dU=(bL4 s sep).map Value.string:=by
   induction bL4 s sep with
   |nil=>rfl
   |cons x r ih=>rw [List.flatMap_cons,ih];rfl
  rw [e1,hw]
  show (w.heap.push _)[w.heap.size]?=_
  rw [Array.getElem?_push_size];rfl
 ·have:=Lib.countB_le sep h1 s.size s (Nat.le_refl _);omega
 ·rw [hw];exact grow_alloc bG2 _
theorem dO4{w:World}{g n:Nat}{l:List M}(h:Blk w g 9 (l.flatMap dU))(hl:l.length=n)(h1:1<=n):SlT dU 1 9 w (some ⟨g,1,none⟩) (n - 1) (l.drop 1):=by
 have h2:=SlT.ofBlk (l:=l) mQ h
 rw [hl] at h2
 have hd:=h2.dropS (c:=n+1) 1 h1 G
 rw [if_neg G] at hd
 simpa [Option.map,rZ] using hd
theorem dP9(s:M)(w:World)(ht:rP w)(hs:s.size<=1000000):
 Calls prog 176 #[U s] w (fun e w'=>∃g n,e=.returned (.tuple #[H (some ⟨g,0,none⟩) n n,.bool (wdB s)])/\(w.heap.size<=g/\Blk w' g 9 ((wdL s).flatMap dU))/\((wdL s).length=n/\1<=n/\n<=s.size+1)/\w.grownBy w' none):=by
 refine cY ⟨11,w,none, []⟩ func176 D ntmps176 D (fZ (X:= [TxtO w.heap.size none]) (cC ht.old cZ) (cE TxtO.lasts dA)) (bX (cG D (cG D (bU (bX (bS D ?_))))))
 refine fW (γ:=Nat×Nat) (val:=(fun (q:Nat×Nat)=>H (some ⟨q.1,0,none⟩) q.2 q.2)) (φ:=(fun (q:Nat×Nat)=>(wdL s).length=q.2/\1<=q.2/\q.2<=s.size+1)) (K':=fun _=>fun _=>True) (L':=(fun (q:Nat×Nat)=>(q.1,9,(wdL s).flatMap dU):: [])) (O':=fun _=> []) (X':=fun _=> [TxtO w.heap.size none]) D fE4 D D (fun wx hm=>(dY8 s ⟨#[32]⟩ wx (hm.fact 0 D).1 hs bD).mono fun _ _ ⟨g,n,he,⟨h0,hb⟩,h1,h2,hg⟩=>⟨(g,n),he,⟨h1,h2⟩,hm.gn hg h0 hb⟩) ?_
 rintro ⟨g,n⟩ hn
 dsimp only at hn ⊢
 refine cG D (bU (bX (bS D (bS D (cR (v:= .bool ((wdL s).any (eqP ⟨#[]⟩))) D eL8 D D (fun wx hm=>(by have h:=cP3 (wdL s) (some ⟨g,0,none⟩) n n ⟨#[]⟩ wx (by have h5:=SlT.ofBlk (l:=wdL s) mQ (hm.blkI 0 rfl);rw [hn.1] at h5;exact h5) G;exact h)) (W (cS D) D (cG D (cG D (bU (bR ?_))))))))))
 refine nU D D D fun wx hm=>?_
 exact ⟨g,n,D,⟨(hm.b _ (List.mem_cons_self ..)).1,hm.bl 0⟩,hn,hm.g⟩
theorem dG3:∀(k u:Nat),(Lib.decDigits u).length<=k+1->u < 10 ^ (k+1)
 |0,u,h=>by
  by_cases h1:u < 10
  ·simpa using h1
  ·rw [Lib.decDigits_length,Lib.nDigits_big h1] at h
   have h2:(Lib.decDigits (u / 10)).length=Lib.nDigits (u / 10):=Lib.decDigits_length _
   have h3:Lib.decDigits (u / 10)≠ []:=(dX4 _).2
   have h4:(Lib.decDigits (u / 10)).length≠0:=fun e=>h3 (List.eq_nil_of_length_eq_zero e)
   omega
 |k+1,u,h=>by
  by_cases h1:u < 10
  ·have h9:0 < 10 ^ (k+1):=Nat.pow_pos bD
   rw [Nat.pow_succ];omega
  ·rw [Lib.decDigits_length,Lib.nDigits_big h1] at h
   have h2:=dG3 k (u / 10) (by rw [Lib.decDigits_length];omega)
   rw [Nat.div_lt_iff_lt_mul bD] at h2
   rw [Nat.pow_succ];exact h2
theorem eO2{s:M}(h:bV5 s=true): -1000000000<=dB0 s/\dB0 s<=1000000000:=by
 unfold bV5 at h
 unfold dB0
 split at h
 ·rename_i v hv
  show -1000000000<=v/\v<=1000000000
  simp only [Bool.and_eq_true,decide_eq_true_eq] at h
  obtain ⟨h1,h2⟩:=h
  have h1:Lib.itoa v=s.data.toList:=by simpa using h1
  rw [<-h1] at h2
  unfold Lib.itoa at h2
  split at h2
  ·have h3:Lib.trimPrefix (45::Lib.decDigits v.natAbs) [45]=Lib.decDigits v.natAbs:=rfl
   rw [h3] at h2
   have:=dG3 8 _ h2
   omega
  ·have h4:(Lib.decDigits v.toNat).length<=9:=by
    have h5:Lib.trimPrefix (Lib.decDigits v.toNat) [45]=Lib.decDigits v.toNat:=by
     cases hd:Lib.decDigits v.toNat with
     |nil=>rfl
     |cons c r=>
      have h6:=(dX4 v.toNat).1
      rw [hd,List.all_cons,Bool.and_eq_true] at h6
      have h7:(c==45)=false:=by
       cases hc:c==45 with
       |false=>rfl
       |true=>
        have:c=45:=by simpa using hc
        subst this
        exact absurd h6.1 bD
      have h8:Lib.hasPrefix (c::r) [45]=false:=by
       show ((45:UInt8)==c&&List.isPrefixOf [] r)=false
       rw [show ((45:UInt8)==c)=(c==45) from by rw [Bool.eq_iff_iff];simp only [beq_iff_eq];exact eq_comm,h7];rfl
      unfold Lib.trimPrefix
      rw [h8];rfl
    rw [h5] at h2;exact h2
   have:=dG3 8 _ h4
   omega
 ·cases h
 ·cases h
noncomputable def itC{α:Type}(P:Prop)(a b:α):α:=@ite α P (Classical.propDecidable P) a b
theorem zN{α:Type}{P:Prop}{a b:α}(h:P):itC P a b=a:=by unfold itC;exact if_pos h
theorem qI{α:Type}{P:Prop}{a b:α}(h:¬P):itC P a b=b:=by unfold itC;exact if_neg h
structure As where
 fs:M->Option Sa
 fa:M×Int->Option Bool
 fb:M->Option Bk
 gh:M->Option Hr
 lg:List Ev
def gR(σ:Os):As:=⟨σ.fs,σ.fa,σ.fb,fun k=>(σ.fh k).map hrG,σ.lg⟩
def as0:As:=⟨pD,pD,pD,fun _=>none, []⟩
noncomputable def eE3(s:As)(x:Ev):As:={ s with fs:=gZ s.fs x.veh (jJ ((s.fs x.veh).getD sa0) x),fa:=gZ s.fa (x.veh,x.at_) true,lg:=s.lg++ [x] }
def dM6(s:As)(x:Ev):Prop:=(s.fa (x.veh,x.at_)).getD false=false/\kB ((s.fs x.veh).getD sa0) x=true
theorem cM5{f:M->Option Hg}{k:M}{h:Hg}:(fun j=>(gZ f k h j).map hrG)=gZ (fun j=>(f j).map hrG) k (hrG h):=by
 funext j
 by_cases e:j=k
 ·subst e
  rw [mI,mI];rfl
 ·rw [dN _ _ e,dN _ _ e]
theorem dP7{κ α:Type}{f:κ->Option α}{k:κ}(h:f k=none):zO f k=f:=by
 funext j
 by_cases e:j=k
 ·subst e
  rw [bK2,h]
 ·rw [zP _ e]
section
variable (V:M->Option M) (T:M->Option Bool) (at_:Int) (s:As)
noncomputable def bD7(x:Ev):As:=itC ((V x.veh).isSome=true/\(T x.sta).getD false=true/\(x.kd=6->(T x.to_).getD false=true/\x.to_≠x.sta)/\dM6 s x) (eE3 s x) s
noncomputable def bX7(k d v st:M)(n0 n1 n2:Int):As:=
 itC (hireE ⟨k,d,at_,n0, [startLeg v ⟨at_,st,n1,n2⟩]⟩=0/\(s.gh k).isSome=false/\((V v).isSome=true/\(T st).getD false=true)/\dM6 s (kJ at_ v st)) { eE3 s (kJ at_ v st) with gh:=gZ s.gh k ⟨k,d,at_,n0, [startLeg v ⟨at_,st,n1,n2⟩]⟩,fb:=zO s.fb k } s
noncomputable def cC6(k:M)(h:Hr)(n0:Int):As:=itC (bA5 h n0=0) { s with gh:=gZ s.gh k ⟨h.key,h.driver,h.fr,n0,h.legs⟩ } s
noncomputable def uC(k:M)(n0:Int):As:=match s.gh k with
 |none=>s
 |some h=>cC6 s k h n0
def bU1(l:List Lg):M:=((l[l.length - 1]?).map Lg.veh).getD ⟨#[]⟩
noncomputable def dX1(k:M)(h:Hr)(lv st:M)(n0 n1:Int):As:=itC (closeE h ⟨at_,st,n0,n1⟩=0/\(T st).getD false=true/\dM6 s (gV at_ lv st)) { eE3 s (gV at_ lv st) with gh:=gZ s.gh k ⟨h.key,h.driver,h.fr,h.to_,endLegs h.legs ⟨at_,st,n0,n1⟩⟩ } s
noncomputable def vW(k st:M)(n0 n1:Int):As:=match s.gh k with
 |none=>s
 |some h=>dX1 T at_ s k h (bU1 h.legs) st n0 n1
noncomputable def eO3(k:M)(h:Hr)(lv st v:M)(n0 n1 n2 n3:Int):As:=itC (cC9 h ⟨at_,st,n0,n1⟩ v ⟨at_,st,n2,n3⟩=0/\((T st).getD false=true/\(V v).isSome=true)/\dM6 s (gV at_ lv st)/\dM6 s (kJ at_ v st)) { eE3 (eE3 s (gV at_ lv st)) (kJ at_ v st) with gh:=gZ s.gh k ⟨h.key,h.driver,h.fr,h.to_,jI h.legs ⟨at_,st,n0,n1⟩ v ⟨at_,st,n2,n3⟩⟩ } s
noncomputable def yQ(k st v:M)(n0 n1 n2 n3:Int):As:=match s.gh k with
 |none=>s
 |some h=>eO3 V T at_ s k h (bU1 h.legs) st v n0 n1 n2 n3
variable {V T at_ s} {k:M}
theorem cA6{n0:Int}(h:s.gh k=none):uC s k n0=s:=by unfold uC;rw [h]
theorem cB6{n0:Int}{g:Hr}{lv:M}(h:s.gh k=some g)(_:bU1 g.legs=lv):uC s k n0=cC6 s k g n0:=by unfold uC;rw [h]
theorem cV8{st:M}{n0 n1:Int}(h:s.gh k=none):vW T at_ s k st n0 n1=s:=by unfold vW;rw [h]
theorem cW8{st lv:M}{n0 n1:Int}{g:Hr}(h:s.gh k=some g)(hl:bU1 g.legs=lv):vW T at_ s k st n0 n1=dX1 T at_ s k g lv st n0 n1:=by unfold vW;rw [h,<-hl]
theorem dD4{st v:M}{n0 n1 n2 n3:Int}(h:s.gh k=none):yQ V T at_ s k st v n0 n1 n2 n3=s:=by unfold yQ;rw [h]
theorem dE4{st v lv:M}{n0 n1 n2 n3:Int}{g:Hr}(h:s.gh k=some g)(hl:bU1 g.legs=lv):yQ V T at_ s k st v n0 n1 n2 n3=eO3 V T at_ s k g lv st v n0 n1 n2 n3:=by unfold yQ;rw [h,<-hl]
theorem cS6{σ:Os}(h:(σ.fh k).isSome=false):(gR σ).gh k=none:=by
 show (σ.fh k).map hrG=none
 cases hf:σ.fh k with
 |none=>rfl
 |some g=>rw [hf] at h;cases h
theorem cT6{σ:Os}{g:Hg}(h:σ.fh k=some g):(gR σ).gh k=some (hrG g):=by
 show (σ.fh k).map hrG=_
 rw [h];rfl
def Few{κ α:Type}(f:κ->Option α)(n:Nat):Prop:=∃KL:List κ,(∀k v,f k=some v->k∈KL)/\KL.length<=n
open Classical in
theorem bC4{α:Type}:∀{l m:List α},l.Nodup->(∀x∈l,x∈m)->l.length<=m.length
 | [],_,_,_=>Nat.zero_le _
 |x::r,m,hn,hs=>by
  have hx:=hs x (List.mem_cons_self ..)
  have h1:=bC4 (l:=r) (m:=m.erase x) (List.nodup_cons.1 hn).2 fun y hy=>(List.mem_erase_of_ne (fun e=>(List.nodup_cons.1 hn).1 (by rw [<-e];exact hy))).2 (hs y (List.mem_cons_of_mem _ hy))
  rw [List.length_erase_of_mem hx] at h1
  have:=List.length_pos_of_mem hx
  rw [List.length_cons];omega
theorem Few.len{κ α:Type}{enc:α->Value}{ek:κ->Value}{N g n:Nat}{f:κ->Option α}{w:World}(hf:Few f n)(h:cB enc ek N g f w):∃m:{ m:Nat // m<=n },uR g m.1 w:=by
 obtain ⟨_,es,ck,hb,hs,hk,hv⟩:=h
 obtain ⟨KL,hKL,hn⟩:=hf
 have h1:(es.toList.map fun x=>x.key).Nodup:=hs.2.2
 have h2:(es.toList.map fun x=>x.key).length<=(KL.map ek).length:=bC4 h1 fun v xK=>by
  obtain ⟨x,hx,rfl⟩:=List.mem_map.1 xK
  obtain ⟨b,hb2⟩:=hk x hx
  obtain ⟨y,hy,_⟩:=(hv b x.val).1 ⟨x,hx,hb2,rfl⟩
  rw [hb2]
  exact List.mem_map.2 ⟨b,hKL b y hy,D⟩
 rw [List.length_map,List.length_map,Array.length_toList] at h2
 exact ⟨⟨es.size,G⟩,es,ck,hb,D⟩
def tAt(l:List M)(i:Nat):M:=(l[i]?).getD ⟨#[]⟩
def nAt(l:List Int)(i:Nat):Int:=(l[i]?).getD 0
end
def cW(fm:M):Nat->Nat
 |0=>0
 |i+1=>cW fm i+(if qA fm ((i:Nat):Int)=119 then 1 else 0)
theorem cM9{k f:M}(h:mV k=some f):1<=f.size/\f.size<=7:=by
 rcases bE8 h with ⟨_,rfl⟩|⟨_,rfl⟩|⟨_,rfl⟩|⟨_,rfl⟩|⟨_,rfl⟩|⟨_,rfl⟩|⟨_,rfl⟩|⟨_,rfl⟩|⟨_,rfl⟩|⟨_,rfl⟩|⟨_,rfl⟩|⟨_,rfl⟩|⟨_,rfl⟩ <;> exact ⟨bD,bD⟩
theorem cG2(sep:M):∀(k:Nat) (t:M),∀x∈Lib.splitB sep 0 k t,x.size<=t.size
 |0,t,x,hx=>by
  rw [Lib.splitB_zero] at hx
  rw [List.mem_singleton.1 hx];exact Nat.le_refl _
 |k+1,t,x,hx=>by
  unfold Lib.splitB at hx
  split at hx
  ·rw [List.mem_singleton.1 hx];exact Nat.le_refl _
  ·rcases List.mem_cons.1 hx with rfl|hx
   ·rw [ByteArray.size_extract];omega
   ·have:=cG2 sep k _ x hx
    rw [ByteArray.size_extract] at this
    omega
theorem fW2{α:Type}{P:α->Prop}{l:List α}{x:α}(h:∀y∈l,P y)(hx:P x):∀y∈l++ [x],P y:=fun y hy=>by
 rcases List.mem_append.1 hy with hy|hy
 ·exact h y hy
 ·rw [List.mem_singleton.1 hy];exact hx
def xsW(ln:M):List M:=(wdL ln).drop 1
def tW(fm:M)(xs:List M):Nat->List M
 |0=> []
 |i+1=>if qA fm ((i:Nat):Int)=119 then tW fm xs i++ [tAt xs i] else tW fm xs i
def nW(fm:M)(xs:List M):Nat->List Int
 |0=> []
 |i+1=>if qA fm ((i:Nat):Int)=119 then nW fm xs i else nW fm xs i++ [dB0 (tAt xs i)]
def nOk(fm:M)(xs:List M):Nat->Bool
 |0=>true
 |i+1=>nOk fm xs i&&(decide (qA fm ((i:Nat):Int)=119)||bV5 (tAt xs i))
theorem eL2{fm:M}{xs:List M}{i:Nat}:∀{j:Nat},i<=j->nOk fm xs j=true->nOk fm xs i=true
 |0,h,hj=>by rw [Nat.le_zero.1 h];exact hj
 |j+1,h,hj=>by
  by_cases e:i=j+1
  ·rw [e];exact hj
  ·unfold nOk at hj
   rw [Bool.and_eq_true] at hj
   exact eL2 G hj.1
def w0F(ln:M):M:=tAt (wdL ln) 0
noncomputable def fmF(ln:M):M:=(mV (w0F ln)).getD ⟨#[]⟩
noncomputable def rI(ln:M):Option (M×List M×List Int):=
 itC (wdB ln=true/\(mV (w0F ln)).isSome=true/\(wdL ln).length=1+(fmF ln).size/\nOk (fmF ln) (xsW ln) (fmF ln).size=true) (some (w0F ln,tW (fmF ln) (xsW ln) (fmF ln).size,nW (fmF ln) (xsW ln) (fmF ln).size)) none
theorem dF6{l:List M}{i:Nat}{x:M}(h:l[i]?=some x):tAt l i=x:=by unfold tAt;rw [h];rfl
theorem fF2(t:M):∀x∈wdL t,x.size<=t.size:=cG2 _ _ t
theorem cK2(ln:M)(gf N0:Nat)(w:World)(hf:cB vS dT N0 gf mV w)(ht:rP w)(hs:ln.size<=1000):
 Calls prog 134 #[U ln,.map (some gf)] w (fun e w'=>∃wd A n1 c1 A2 n2 c2 ok tl nl,e=.returned (.tuple #[.agg #[U wd,H A n1 c1,H A2 n2 c2],.bool ok])/\((ok=true->(∃fm,mV wd=some fm/\n1=cW fm fm.size/\n1+n2=fm.size)/\rI ln=some (wd,tl,nl))/\(ok=false->rI ln=none))/\(SlT dU 1 9 w' A n1 tl/\SlT kV 1 3 w' A2 n2 nl)/\((∀x∈tl,x.size<=1000)/\∀x∈nl, -1000000000<=x/\x<=1000000000)/\w.grownBy w' none):=by
 refine cY ⟨81,w,none, []⟩ func134 D ntmps134 D (fZ (X:= [TxtO w.heap.size none,cB vS dT N0 gf mV]) (cC ht.old (cC hf cZ)) (cE TxtO.lasts (cE cB.lasts2 dA))) (bX (dM dL1 D fun g1=>cG D (bU (bX (bS D ?_)))))
 refine fW (γ:=Nat×Nat) (val:=(fun (q:Nat×Nat)=> .tuple #[H (some ⟨q.1,0,none⟩) q.2 q.2,.bool (wdB ln)])) (φ:=(fun (q:Nat×Nat)=>(wdL ln).length=q.2/\1<=q.2/\q.2<=ln.size+1)) (K':=fun _=>fun _=>True) (L':=(fun (q:Nat×Nat)=>(q.1,9,(wdL ln).flatMap dU):: [(g1,220, [U ⟨#[]⟩,H none 0 0,H none 0 0])])) (O':=fun _=> []) (X':=fun _=> [TxtO w.heap.size none,cB vS dT N0 gf mV]) D fZ3 D D (fun wx hm=>(dP9 ln wx (hm.fact 0 D).1 G).mono fun _ _ ⟨g,n,he,⟨h0,hb⟩,h1,hg⟩=>⟨(g,n),he,h1,hm.gn hg h0 hb⟩) ?_
 rintro ⟨gw,n⟩ hn
 dsimp only at hn ⊢
 obtain ⟨hwl,qV,hn2⟩:=hn
 have hwz:∀y∈wdL ln,y.size<=1000:=fun y hy=>Nat.le_trans (fF2 ln y hy) hs
 obtain ⟨w0,hw0⟩:∃x,(wdL ln)[0]?=some x:=⟨_,fY9 G⟩
 have hw0z:=hwz _ (fZ9 hw0)
 have hw0F:w0F ln=w0:=dF6 hw0
 obtain ⟨fm,hfm⟩:∃z,z=(mV w0).getD (⟨#[]⟩:M):=⟨_,rfl⟩
 obtain ⟨isb,hisb⟩:∃z,z=(mV w0).isSome:=⟨_,rfl⟩
 have hfmF:fmF ln=fm:=by unfold fmF;rw [hw0F];exact hfm.symm
 have hfm7:fm.size<=7:=by
  cases hq:mV w0 with
  |none=>rw [hfm,hq];decide
  |some f=>rw [hfm,hq];exact (cM9 hq).2
 refine bS D (W (cV D D) D (W (cV D D) D (cG D (cG D (bU (bX (bS D (bS D (W (bV (j:=0) mD D D G) D (W (dH (k:=0) (v:=U w0) fR D (fun _ hm=>(SlT.ofBlk (l:=wdL ln) mQ (hm.blkI 0 D))) hw0 D D) D (W (hU (enc:=vS) (ek:=dT) (s:=w0) (e:=9) (⟨#[]⟩:M) kC bC bC D D (fun _ hm=>(hm.fact 1 D))) D (bS D (W (cV D D) D (bO 26 (v':=U fm) D (congrArg U hfm.symm) (W (cV D D) D (bO 27 (v':= .bool isb) D (fW9 hisb.symm) (cG D (cG D (bU (bJ (bX (bS D (W (cS D) D (bS D ?_))))))))))))))))))))))))
 rcases Bool.eq_false_or_eq_true (!(wdB ln)) with hb2|hb2
 ·refine bO 30 D (fW9 hb2) ?_
  refine eE D (eE D (mS D D (bS D (eE D (eE D (eE D (eE D (eE D (eE D (mS D D (bU (mT D (bX (W (dL (cs:= [U ⟨#[]⟩,H none 0 0,H none 0 0]) D bC) D (kE (cs':= [U ⟨#[]⟩,H none 0 0,H none 0 0]) 1 uK D D D D (cG D (bU (bR (F ?_)))))))))))))))))))
  have htn:rI ln=none:=qI fun ⟨q1,q2,q3,_⟩=>by
   rw [hw0F] at q2
   rw [hfmF,hwl] at q3
   simp_all
  refine fD 1 D uK D D D D fun wx hm=>?_
  exact ⟨⟨#[]⟩,none,0,0,none,0,0,false, [], [],D,⟨(fun h=>by cases h),fun _=>htn⟩,⟨SlT.nil_ _ _,SlT.nil_ _ _⟩,⟨(fun _ h=>by cases h),(fun _ h=>by cases h)⟩,hm.g⟩
 refine bO 30 D (fW9 hb2) (eN D (bS D (eN D (W (cS D) D (nV D D (bS D ?_))))))
 rcases Bool.eq_false_or_eq_true (!isb) with hb3|hb3
 ·refine bO 34 D (fW9 hb3) ?_
  refine eE D (eE D (eE D (eE D (eE D (eE D (mS D D (bU (mT D (bX (W (dL (cs:= [U ⟨#[]⟩,H none 0 0,H none 0 0]) D bC) D (kE (cs':= [U ⟨#[]⟩,H none 0 0,H none 0 0]) 1 uK D D D D (cG D (bU (bR (F ?_)))))))))))))))
  have htn:rI ln=none:=qI fun ⟨q1,q2,q3,_⟩=>by
   rw [hw0F] at q2
   rw [hfmF,hwl] at q3
   simp_all
  refine fD 1 D uK D D D D fun wx hm=>?_
  exact ⟨⟨#[]⟩,none,0,0,none,0,0,false, [], [],D,⟨(fun h=>by cases h),fun _=>htn⟩,⟨SlT.nil_ _ _,SlT.nil_ _ _⟩,⟨(fun _ h=>by cases h),(fun _ h=>by cases h)⟩,hm.g⟩
 refine bO 34 D (fW9 hb3) (eN D (bS D (eN D (W (dP mD D) D (eN D (bS D (eN D (W (zT us9 D) D (eN D (fY D D (eN D (W (gN D D) D (bO 40 (v':= .bool (!decide (n=1+fm.size))) D (congrArg (fun b=>Value.bool (!b)) (by rw [decide_eq_decide];omega)) (nV D D (bU ?_)))))))))))))))
 refine gL D (fun hcd=>?_) (fun hcd=>?_)
 ·refine bX ?_
  refine W (dL (cs:= [U ⟨#[]⟩,H none 0 0,H none 0 0]) D bC) D (kE (cs':= [U ⟨#[]⟩,H none 0 0,H none 0 0]) 1 uK D D D D (cG D (bU (bR (F ?_)))))
  have htn:rI ln=none:=qI fun ⟨q1,q2,q3,_⟩=>by
   rw [hw0F] at q2
   rw [hfmF,hwl] at q3
   simp_all
  refine fD 1 D uK D D D D fun wx hm=>?_
  exact ⟨⟨#[]⟩,none,0,0,none,0,0,false, [], [],D,⟨(fun h=>by cases h),fun _=>htn⟩,⟨SlT.nil_ _ _,SlT.nil_ _ _⟩,⟨(fun _ h=>by cases h),(fun _ h=>by cases h)⟩,hm.g⟩
 refine bN (bG ?_)
 have hisb1:isb=true:=by simp_all
 have hnf:n=1+fm.size:=by simp_all
 obtain ⟨f0,hf0⟩:∃f,mV w0=some f:=Option.isSome_iff_exists.1 (by rw [<-hisb];exact hisb1)
 have hff:fm=f0:=by rw [hfm,hf0];rfl
 have hfz:=cM9 hf0
 rw [<-hff] at hfz
 refine bX ?_
 refine mA 3 1 ?_
 refine mA 9 1 ?_
 refine bS D (W (bV (j:=0) mD D D G) D (W (dH (k:=0) (v:=U w0) fR D (fun _ hm=>(SlT.ofBlk (l:=wdL ln) mQ (hm.blkI 0 D))) hw0 D D) D (W (dL (cs:= [U w0,H none 0 0,H none 0 0]) D bC) D (dM dL1 D fun g4=>kE (cs':= [U w0,H none 0 0,H none 0 0]) 0 uK D D D D (bU (bJ (bX (bS D (W (dM3 (lo:=1) mD D D D G) D (bO 48 (v':=H (some ⟨gw,1,none⟩) (n - 1) (n - 1)) D (by rw [if_neg G];simp [Option.map,rZ]) (W (dP mD D) D (bS D (bU (bP ?_))))))))))))))
 refine dS (γ:=Nat×Nat×Nat×Value×Value×List M×List Int×List Value×List Value) (fun gg=>(gg.1<=n - 1/\gg.2.2.2.2.2.1.length=gg.2.1/\gg.2.2.2.2.2.2.1.length=gg.2.2.1/\gg.2.2.2.2.2.2.2.1=gg.2.2.2.2.2.1.flatMap dU/\gg.2.2.2.2.2.2.2.2=gg.2.2.2.2.2.2.1.flatMap kV)/\(gg.2.1=cW fm gg.1/\gg.2.1+gg.2.2.1=gg.1)/\(gg.2.2.2.2.2.1=tW fm (xsW ln) gg.1/\gg.2.2.2.2.2.2.1=nW fm (xsW ln) gg.1/\nOk fm (xsW ln) gg.1=true)/\(∀x∈gg.2.2.2.2.2.1,x.size<=1000)/\∀x∈gg.2.2.2.2.2.2.1, -1000000000<=x/\x<=1000000000) (fun gg=> [(4,.pointer (some ⟨g1,0,none⟩)),(8,U fm),(10,.pointer (some ⟨g4,0,none⟩)),(48,H (some ⟨gw,1,none⟩) (n - 1) (n - 1)),(49,I (n - 1)),(50,I (gg.1))]) (fun gg=>fun _=>True) (fun gg=> [(g4,220, [U w0,gg.2.2.2.1,gg.2.2.2.2.1]),(gw,9,(wdL ln).flatMap dU),(g1,220, [U ⟨#[]⟩,H none 0 0,H none 0 0])]) (fun gg=> [⟨gg.2.2.2.1,9,1,gg.2.1,gg.2.2.2.2.2.2.2.1⟩,⟨gg.2.2.2.2.1,3,1,gg.2.2.1,gg.2.2.2.2.2.2.2.2⟩]) (fun gg=> [TxtO w.heap.size none,cB vS dT N0 gf mV]) (fun gg=>n - gg.1) (0,0,0,H none 0 0,H none 0 0, [], [], [], []) ⟨⟨Nat.zero_le _,D,D,D,D⟩,⟨D,D⟩,⟨D,D,D⟩,(fun _ h=>by cases h),(fun _ h=>by cases h)⟩ ⟨D,D,D,D,D,D,bB⟩ (fun _ hm=>hm.pick [0,1,2] [0,1] [0,1] D D) ?_
 rintro ⟨i,nt,nn,tv,nv,tl,nl,xt,xn⟩ bZ
 replace bZ:(i<=n - 1/\tl.length=nt/\nl.length=nn/\xt=tl.flatMap dU/\xn=nl.flatMap kV)/\(nt=cW fm i/\nt+nn=i)/\(tl=tW fm (xsW ln) i/\nl=nW fm (xsW ln) i/\nOk fm (xsW ln) i=true)/\(∀x∈tl,x.size<=1000)/\∀x∈nl, -1000000000<=x/\x<=1000000000:=bZ
 dsimp only
 refine bX ?_
 obtain ⟨⟨hi0,htl,hnl,rfl,rfl⟩,⟨hct,yC⟩,⟨htW,hnW,hnO⟩,htz,hnz⟩:=bZ
 refine W (dF D D) D (bU (bJ ?_))
 refine cN D (fun hi=>?_) (fun hi=>?_)
 ·refine bN (bG (bJ (bP (bX ?_))))
  have hil:i < fm.size:=G
  obtain ⟨x,hx⟩:∃x,((wdL ln).drop 1)[i]?=some x:=⟨_,fY9 (by rw [List.length_drop];omega)⟩
  have hxz:=hwz _ (List.mem_of_mem_drop (fZ9 hx))
  have hxA:tAt (xsW ln) i=x:=dF6 hx
  have hcs:cW fm (i+1)=cW fm i+(if qA fm ((i:Nat):Int)=119 then 1 else 0):=rfl
  refine bS D (W (bV (j:=i) mD D D G) D (W (dH (k:=0) (v:=U x) fR D (fun _ hm=>(dO4 (hm.blkI 1 D) hwl qV)) hx D D) D (cG D (cG D (bU (bJ (bX (bS D (bS D (W (bY5 us9 D D G G) D (W (eT D D) D (bU ?_))))))))))))
  refine cN D (fun h9=>?_) (fun h9=>?_)
  ·refine bX ?_
   rw [if_pos h9] at hcs
   refine dZ kT D D (eO rX 0 D D D (bS D (jN 9 [U x] fun g5=>eP (news:= [U x]) 0 0 eX4 D D D D D D D G (by unfold maxLen;omega) D D fun tv2 htv=>?_)))
   refine eB (R:=∃A cc,tv2=H A (nt+1) cc) (fun wx hm=>dW (hm.ownI 0 D)) ?_
   rintro ⟨tA,tc,rfl⟩
   refine dZ kT D D (fX 1 rX D D D D D D (bU (dD (bI (bY (bG (bM (fY D D (bS D (bH ?_))))))))))
   exact cQ (i+1,nt+1,nn,(H tA (nt+1) tc),nv,tl++ [x],nl,tl.flatMap dU++([U x]:List Value),nl.flatMap kV) ⟨⟨bE,by simp [htl],hnl,by simp [dU],rfl⟩,⟨bE,bE⟩,⟨by dsimp only [tW];rw [if_pos h9,hxA,htW],by dsimp only [nW];rw [if_pos h9];exact hnW,by dsimp only [nOk];rw [decide_eq_true h9,hnO];rfl⟩,fW2 htz hxz,hnz⟩ bE ⟨D,D,D,D,D,(cP bE),bB⟩ (fun _ hm=>hm.pick [1,2,3] [0,1] [0,1] D D)
  refine bN (bG (bX ?_))
  rw [if_neg h9] at hcs
  refine bS D ?_
  refine fK (γ:=Int) (val:=(fun g=> .tuple #[J g,.bool (bV5 x)])) (φ:=(fun g=>bV5 x=true->g=dB0 x)) (Y:=(fun g=>fun _=>True)) D fA4 D D (fun wx hm=>(dH3 x wx (hm.fact 0 D).1 G).mono fun _ _ ⟨v,he,h1,hg⟩=>⟨v,he,h1,hg,bB⟩) (fun _=>Lasts2.true_) ?_
  rintro v hv
  refine bS D (W (cV D D) D (W (cV D D) D (cG D (cG D (bU (bJ (bX (bS D (W (cS D) D (bU ?_))))))))))
  refine dE D (fun hh=>?_) (fun hh=>?_)
  ·have hnb:(bV5 x)=false:=by simpa using hh
   refine bX (W (dL (cs:= [U ⟨#[]⟩,H none 0 0,H none 0 0]) D bC) D (kE (cs':= [U ⟨#[]⟩,H none 0 0,H none 0 0]) 2 uK D D D D (cG D (bU (bR (F (C (F (F (C (F ?_)))))))))))
   have htn:rI ln=none:=qI fun ⟨_,_,_,q4⟩=>by
    rw [hfmF] at q4
    have q5:=eL2 (i:=i+1) G q4
    unfold nOk at q5
    rw [hxA,decide_eq_false h9] at q5
    simp_all
   refine fD 2 D uK D D D D fun wx hm=>?_
   exact ⟨⟨#[]⟩,none,0,0,none,0,0,false, [], [],D,⟨(fun h=>by cases h),fun _=>htn⟩,⟨SlT.nil_ _ _,SlT.nil_ _ _⟩,⟨(fun _ h=>by cases h),(fun _ h=>by cases h)⟩,hm.g⟩
  have hnb:(bV5 x)=true:=by simpa using hh
  refine bN (bG (bM ?_))
  have hnb1:bV5 x=true:=by simpa using hnb
  have hvb:=eO2 hnb1
  rw [<-hv hnb1] at hvb
  refine dZ nT D D (eO kY 0 D D D (bS D (jN 3 [J v] fun g7=>eP (news:= [J v]) 1 0 cX2 D D D D D D D G (by unfold maxLen;omega) D D fun nv2 hnv=>?_)))
  refine eB (R:=∃A cc,nv2=H A (nn+1) cc) (fun wx hm=>dW (hm.ownI 1 D)) ?_
  rintro ⟨nA,nc,rfl⟩
  refine dZ nT D D (fX 1 kY D D D D D D (bH (bK (bG (bM (fY D D (bS D (bH ?_))))))))
  exact cQ (i+1,nt,nn+1,tv,(H nA (nn+1) nc),tl,nl++ [v],tl.flatMap dU,nl.flatMap kV++([J v]:List Value)) ⟨⟨bE,htl,by simp [hnl],rfl,by simp [kV]⟩,⟨bE,bE⟩,⟨by dsimp only [tW];rw [if_neg h9];exact htW,by dsimp only [nW];rw [if_neg h9,hxA,hnW,hv hnb1],by dsimp only [nOk];rw [decide_eq_false h9,hnO,hxA,hnb1];rfl⟩,htz,fW2 hnz hvb⟩ bE ⟨D,D,D,D,D,(cP bE),bB⟩ (fun _ hm=>hm.pick [1,2,3] [0,1] [1,2] D D)
 refine dD (bI (bI (bY (bG (bX ?_)))))
 have hie:i=fm.size:=G
 refine eB (R:=∃A cc,tv=H A nt cc) (fun wx hm=>dW (hm.ownI 0 D)) ?_
 rintro ⟨tA,tc,rfl⟩
 refine eB (R:=∃A cc,nv=H A nn cc) (fun wx hm=>dW (hm.ownI 1 D)) ?_
 rintro ⟨nA,nc,rfl⟩
 refine W (dG uK D (fun _ hm=>hm.blkI 0 D) D D) D (kE (cs':= [U w0,H tA nt tc,H nA nn nc]) 2 uK D D D D (cG D (bU (bR ?_))))
 have hie:i=fm.size:=G
 have htS:rI ln=some (w0,tl,nl):=by
  unfold rI
  rw [hw0F,hfmF]
  refine (zN ⟨by simp_all,by rw [<-hisb];exact hisb1,by rw [hwl];exact hnf,by rw [<-hie];exact hnO⟩).trans ?_
  rw [<-hie,htW,hnW]
 refine fD 2 D uK D D D D fun wx hm=>?_
 exact ⟨w0,tA,nt,tc,nA,nn,nc,true,tl,nl,D,⟨fun _=>⟨⟨fm,by rw [hff];exact hf0,by rw [hct,hie],G⟩,htS⟩,fun h=>by cases h⟩,⟨SlT.ofOwn mQ (hm.ownI 0 D) htl,SlT.ofOwn (fun _=>D) (hm.ownI 1 D) hnl⟩,⟨htz,hnz⟩,hm.g⟩
end Go.Proofs.YtapdhfjfgpbnnaaGreatDoor
